/- The machine side of the laws of one chapter, without conditions: each call of a Go function comes to what the Lean function of its name answers. Written for this claim by a program of the prover. -/
import Derived.Test.YtlmacbiahofmcaaPx0
import Derived.Test.YtlmacbiahofmcaaPx28
namespace Go.Proofs.Ytlmacbiahofmcaa.P
open Go.RowKit Go.Proofs.YtlmacbiahofmcaaW.PrintWords Go.Proofs.YtlmacbiahofmcaaW.PrintLast Go.Proofs.YtlmacbiahofmcaaW.PrintMore
attribute [local go_sem] max2_int min2_int max_two min_two max_three min_three max_four min_four   -- for this text's walks alone
set_option linter.unusedVariables false
set_option linter.unusedSimpArgs false

/-! ### madrigalref10_Shape: function 18 -/
mutual
def madrigalref10_Shape.l0 : Nat → Int → Int → List Int → List Int → Int → Int → Option (List Int)
 | 0,_,_,_,_,_,_ => none
 | k + 1,x0,x1,x5,x6,x7,x8 => if x8 < x1 then (if 0 ≤ x8 then (if x8 < (x5.length : Int) then (if 0 ≤ (wrap64 (x7 + x8)) then (if (wrap64 (x7 + x8)) < (x6.length : Int) then (if 0 ≤ (wrap64 ((wrap64 ((wrap64 ((wrap64 (2 * x0)) - 1)) - x7)) - x8)) then (if (wrap64 ((wrap64 ((wrap64 ((wrap64 (2 * x0)) - 1)) - x7)) - x8)) < (x6.length : Int) then (madrigalref10_Shape.l0 k x0 x1 x5 ((x6.set ((wrap64 (x7 + x8)) : Int).toNat (rd x5 x8)).set ((wrap64 ((wrap64 ((wrap64 ((wrap64 (2 * x0)) - 1)) - x7)) - x8)) : Int).toNat (rd x5 x8)) x7 (wrap64 (x8 + 1))) else (none)) else (none)) else (none)) else (none)) else (none)) else (none)) else (madrigalref10_Shape.l1 k x0 x1 x6 x7 (wrap64 (x7 + x1)))
def madrigalref10_Shape.l1 : Nat → Int → Int → List Int → Int → Int → Option (List Int)
 | 0,_,_,_,_,_ => none
 | k + 1,x0,x1,x6,x7,x9 => if x9 < (wrap64 ((wrap64 ((wrap64 (2 * x0)) - x7)) - x1)) then (if 0 ≤ x9 then (if x9 < (x6.length : Int) then (madrigalref10_Shape.l1 k x0 x1 (x6.set (x9 : Int).toNat 32768) x7 (wrap64 (x9 + 1))) else (none)) else (none)) else (some x6)
end
def madrigalref10_Shape.f (k : Nat) (a0 : Int) (a1 : Int) : Option (List Int):=(madrigalref1_Window.f k a1).bind fun t345 => (if 0 ≤ (wrap64 (2 * a0)) then (if (wrap64 (2 * a0) : Int).toNat ≤ 35184372088832 then (madrigalref10_Shape.l0 k a0 a1 t345 (List.replicate (wrap64 (2 * a0) : Int).toNat 0) (wrap64 (Int.tdiv (wrap64 (a0 - a1)) 2)) 0) else (none)) else (none))
theorem madrigalref10_Shape.mono_l : ∀ k,(∀ y0 y1 y2 y3 y4 y5,LeO (madrigalref10_Shape.l0 k y0 y1 y2 y3 y4 y5) (madrigalref10_Shape.l0 (k + 1) y0 y1 y2 y3 y4 y5)) ∧ (∀ y0 y1 y2 y3 y4,LeO (madrigalref10_Shape.l1 k y0 y1 y2 y3 y4) (madrigalref10_Shape.l1 (k + 1) y0 y1 y2 y3 y4))
 | 0 => ⟨fun _ _ _ _ _ _ r h => by simp [madrigalref10_Shape.l0] at h,fun _ _ _ _ _ r h => by simp [madrigalref10_Shape.l1] at h⟩
 | k + 1 => by
  obtain ⟨ih0,ih1⟩:=madrigalref10_Shape.mono_l k
  refine ⟨?_,?_⟩
  all_goals (intros;first|unfold madrigalref10_Shape.l0|unfold madrigalref10_Shape.l1)
  all_goals (repeat' first|(with_reducible first|exact ih0 _ _ _ _ _ _|exact ih1 _ _ _ _ _|exact madrigalref1_Window.mono _ _|exact LeO.refl _|exact LeO.none _|refine LeO.ite ?_ ?_|refine LeO.bind ?_ (fun _ => ?_))|exact ih0 _ _ _ _ _ _|exact ih1 _ _ _ _ _|exact madrigalref1_Window.mono _ _|exact LeO.none _|refine LeO.ite ?_ ?_|refine LeO.bind ?_ (fun _ => ?_))
theorem madrigalref10_Shape.mono : ∀ a0 a1 k,LeO (madrigalref10_Shape.f k a0 a1) (madrigalref10_Shape.f (k + 1) a0 a1):=by
 intro a0 a1 k
 obtain ⟨ih0,ih1⟩:=madrigalref10_Shape.mono_l k
 unfold madrigalref10_Shape.f
 repeat' first|(with_reducible first|exact ih0 _ _ _ _ _ _|exact ih1 _ _ _ _ _|exact madrigalref1_Window.mono _ _|exact LeO.refl _|exact LeO.none _|refine LeO.ite ?_ ?_|refine LeO.bind ?_ (fun _ => ?_))|exact ih0 _ _ _ _ _ _|exact ih1 _ _ _ _ _|exact madrigalref1_Window.mono _ _|exact LeO.none _|refine LeO.ite ?_ ?_|refine LeO.bind ?_ (fun _ => ?_)
set_option maxHeartbeats 8000000 in
set_option maxRecDepth 100000 in
theorem madrigalref10_Shape.calls (k : Nat) (a0 : Int) (a1 : Int) (r : List Int) (w : World) (h : madrigalref10_Shape.f k a0 a1 = some r) :
  Calls Try.prog 18 #[.int .i64 a0,.int .i64 a1] w fun e w' => ∃ v0_ : Value,e = .returned (v0_) ∧ Kd.R (Kd.int .i64) 2 w' w.heap.size (fun _ => True) v0_ r ∧ Below w.heap.size w w':=by
 have HB:=ak_ (Below.refl w.heap.size w)
 have H : ((madrigalref1_Window.f k a1).bind fun t345 => (if 0 ≤ (wrap64 (2 * a0)) then (if (wrap64 (2 * a0) : Int).toNat ≤ 35184372088832 then (madrigalref10_Shape.l0 k a0 a1 t345 (List.replicate (wrap64 (2 * a0) : Int).toNat 0) (wrap64 (Int.tdiv (wrap64 (a0 - a1)) 2)) 0) else (none)) else (none))) = some r:=h
 clear h
 replace H:=Option.bind_eq_some_iff.mp H
 obtain ⟨t345,A30,H⟩:=H
 (try dsimp only at H)
 have A3:=ak_ A30
 clear A30
 obtain ⟨ji4,hji4⟩ : ∃ j_ : Int,(wrap64 (2 * a0)) = j_:=⟨_,rfl⟩
 replace H : (if 0 ≤ (ji4) then (if (ji4 : Int).toNat ≤ 35184372088832 then (madrigalref10_Shape.l0 k a0 a1 t345 (List.replicate (ji4 : Int).toNat 0) (wrap64 (Int.tdiv (wrap64 (a0 - a1)) 2)) 0) else (none)) else (none)) = some r:=by first|(rw [hji4] at H;exact H)|(simp only [hji4] at H ⊢;exact H)
 (try rw [hji4] at A3)
 have hji4w : (IntKind.i64.wrap (2 * a0)) = ji4:=(i64_w _).trans hji4
 by_cases c5 : 0 ≤ (ji4)
 ·rw [if_pos c5] at H
  have c5b0:=eq_true c5
  have c5b1 : decide (0 ≤ (ji4)) = true:=decide_eq_true c5
  clear c5
  by_cases c6 : (ji4 : Int).toNat ≤ 35184372088832
  ·rw [if_pos c6] at H
   have c6b0:=eq_true c6
   have c6b1 : decide ((ji4 : Int).toNat ≤ 35184372088832) = true:=decide_eq_true c6
   clear c6
   obtain ⟨y348,hy348⟩ : ∃ y_ : List Int,y_ = (List.replicate (ji4 : Int).toNat 0):=⟨_,rfl⟩
   replace H : (madrigalref10_Shape.l0 k a0 a1 t345 y348 (wrap64 (Int.tdiv (wrap64 (a0 - a1)) 2)) 0) = some r:=by first|(rw [hy348];with_reducible exact H)|(have H2_:=(Option.bind_some _ _).symm.trans H;rw [hy348];with_reducible exact H2_)|(have H2_:=(Option.bind_some _ _).symm.trans H;with_reducible exact H2_)|with_reducible exact H|(rw [hy348];exact H)|exact H
   have Ny348:=ak_ hy348
   clear hy348
   have H':=ak_ H
   clear H
   go_enter Try.func18,Try.ntmps18
   go_wp2_with (first|((with_reducible refine gate_callee (f:=31) rfl ?_);refine goesL_ (some 11) rfl rfl Try.func31 (by kernel_rfl) rfl #[.int .i64 a1] rfl (by (try simp only [List.map_toArray,List.map_cons,List.map_nil]);first|done|rfl|(simp only [List.length_drop,List.length_take];rfl)) ?_;(with_reducible refine (madrigalref1_Window.calls k a1 t345 _ A3.out).mono ?_);rintro e w7 ⟨v346,rfl,ho0,hb⟩;refine ⟨_,rfl,?_⟩;have n0_:=ak_ (Kd.R_lower ho0 (below_size (by repeat (first|(with_reducible first|exact HB.out|apply ba_|apply bb_|apply bc_)|exact HB.out))));have n1_:=ak_ (below_step (by repeat (first|(with_reducible first|exact HB.out|apply ba_|apply bb_|apply bc_)|exact HB.out)) hb);clear HB;have HO347:=n0_;have HB:=n1_;clear n0_ n1_;(try clear hb);(try clear ho0))|((with_reducible refine gate_dst (N:=14) rfl ?_);refine Kd.R_make (Kd.int .i64) _ 2 rfl (N:=14) rfl 23 _ _ rfl ji4 rfl rfl Try.underlying23 (.int .i64 0) 8 info2 rfl (by decide) (by omega) 0 (ok:=fun _ => True) (okp:=fun _ => True) rfl (fun _ hk => hk) trivial (of_decide_eq_true (by first|(with_reducible assumption)|assumption)) (Nat.le_trans (Nat.mul_le_mul_right _ (of_decide_eq_true (by first|(with_reducible assumption)|assumption) : ji4.toNat ≤ 35184372088832)) (by omega)) (Below.refl _ _) (Nat.le_refl _) ?_;intro v349 w8 ho9 hb hg_ hnew_;clear hg_ hnew_;(first|rw [← Ny348.out] at ho9|(simp only [Int.reduceToNat] at ho9;rw [← Ny348.out] at ho9));have n0_:=ak_ (Kd.R_elder' (by (with_reducible repeat (first|apply ra_|apply rb_|apply rc_));exact HO347.out) (Kd.R_base ho9) hb);have n1_:=ak_ (Kd.R_lower (Kd.R_new' ho9 (Kd.R_lt (by (with_reducible repeat (first|apply ra_|apply rb_|apply rc_));exact HO347.out))) (below_size (by repeat (first|(with_reducible first|exact HB.out|apply ba_|apply bb_|apply bc_)|exact HB.out))));have n2_:=ak_ (below_step (by repeat (first|(with_reducible first|exact HB.out|apply ba_|apply bb_|apply bc_)|exact HB.out)) hb);clear HO347;clear HB;have HO347:=n0_;have HO350:=n1_;have HB:=n2_;clear n0_ n1_ n2_;clear hb ho9))
   go_loopg [8] k (fun kq v8 w' => ∃ (x6_1 : List Int) (x8_1 : Int),v8 = .int .i64 x8_1 ∧ Aside0 (madrigalref10_Shape.l0 kq a0 a1 t345 x6_1 (wrap64 (Int.tdiv (wrap64 (a0 - a1)) 2)) x8_1 = some r) ∧ Aside0 (kq ≤ k) ∧ Aside0 (Kd.R (Kd.int .i64) 2 w' w.heap.size (fun k_ => some k_ ≠ (v349 : Value).ownBlock) v346 t345) ∧ Aside0 (Kd.R (Kd.int .i64) 2 w' w.heap.size (fun k_ => some k_ ≠ (v346 : Value).ownBlock) v349 x6_1) ∧ Aside0 (Below w.heap.size w w'))
   case atStart => exact ⟨(y348),(0),(by first|rfl|(simp;done)|(simp [*];done)),H',⟨Nat.le_refl _⟩,⟨by (with_reducible repeat (first|apply ra_|apply rb_|apply rc_));exact Kd.R_mono HO347.out (fun _ hk => hk.2)⟩,⟨by (with_reducible repeat (first|apply ra_|apply rb_|apply rc_));exact Kd.R_mono HO350.out (fun _ hk => hk.2)⟩,⟨by repeat (first|(with_reducible first|exact HB.out|apply ba_|apply bb_|apply bc_)|exact HB.out)⟩⟩
   case round =>
    clear H'
    try clear c1
    try clear p2
    try clear c3
    try clear c5
    try clear c5b0
    try clear c5b1
    try clear c6
    try clear c6b0
    try clear c6b1
    try clear p6
    obtain ⟨x6_1,x8_1,rfl,HA,HK1,HO_5,HO_6,HB⟩:=hrel
    (try simp only [i64_w,i32_w])
    cases gk with
    | zero => exact absurd HA.out (by simp [madrigalref10_Shape.l0])
    | succ k1 =>
     have H:=HA.out
     clear HA
     simp only [madrigalref10_Shape.l0] at H
     by_cases c10 : x8_1 < a1
     ·rw [if_pos c10] at H
      have c10b0:=decide_eq_true c10
      clear c10
      by_cases c11 : 0 ≤ x8_1
      ·rw [if_pos c11] at H
       have c11b0:=decide_eq_true c11
       clear c11
       by_cases c12 : x8_1 < (t345.length : Int)
       ·rw [if_pos c12] at H
        have c12b0:=decide_eq_true c12
        clear c12
        obtain ⟨ji13,hji13⟩ : ∃ j_ : Int,(wrap64 ((wrap64 (Int.tdiv (wrap64 (a0 - a1)) 2)) + x8_1)) = j_:=⟨_,rfl⟩
        replace H : (if 0 ≤ (ji13) then (if (ji13) < (x6_1.length : Int) then (if 0 ≤ (wrap64 ((wrap64 ((wrap64 ((wrap64 (2 * a0)) - 1)) - (wrap64 (Int.tdiv (wrap64 (a0 - a1)) 2)))) - x8_1)) then (if (wrap64 ((wrap64 ((wrap64 ((wrap64 (2 * a0)) - 1)) - (wrap64 (Int.tdiv (wrap64 (a0 - a1)) 2)))) - x8_1)) < (x6_1.length : Int) then (madrigalref10_Shape.l0 k1 a0 a1 t345 ((x6_1.set ((ji13) : Int).toNat (rd t345 x8_1)).set ((wrap64 ((wrap64 ((wrap64 ((wrap64 (2 * a0)) - 1)) - (wrap64 (Int.tdiv (wrap64 (a0 - a1)) 2)))) - x8_1)) : Int).toNat (rd t345 x8_1)) (wrap64 (Int.tdiv (wrap64 (a0 - a1)) 2)) (wrap64 (x8_1 + 1))) else (none)) else (none)) else (none)) else (none)) = some r:=by first|(rw [hji13] at H;exact H)|(simp only [hji13] at H ⊢;exact H)
        have hji13w : (IntKind.i64.wrap ((wrap64 (Int.tdiv (wrap64 (a0 - a1)) 2)) + x8_1)) = ji13:=(i64_w _).trans hji13
        by_cases c14 : 0 ≤ (ji13)
        ·rw [if_pos c14] at H
         have c14b0:=decide_eq_true c14
         clear c14
         by_cases c15 : (ji13) < (x6_1.length : Int)
         ·rw [if_pos c15] at H
          have c15b0:=decide_eq_true c15
          clear c15
          obtain ⟨y352,hy352⟩ : ∃ y_ : List Int,y_ = (x6_1.set ((ji13) : Int).toNat (rd t345 x8_1)):=⟨_,rfl⟩
          replace H : (if 0 ≤ (wrap64 ((wrap64 ((wrap64 ((wrap64 (2 * a0)) - 1)) - (wrap64 (Int.tdiv (wrap64 (a0 - a1)) 2)))) - x8_1)) then (if (wrap64 ((wrap64 ((wrap64 ((wrap64 (2 * a0)) - 1)) - (wrap64 (Int.tdiv (wrap64 (a0 - a1)) 2)))) - x8_1)) < (x6_1.length : Int) then (madrigalref10_Shape.l0 k1 a0 a1 t345 (y352.set ((wrap64 ((wrap64 ((wrap64 ((wrap64 (2 * a0)) - 1)) - (wrap64 (Int.tdiv (wrap64 (a0 - a1)) 2)))) - x8_1)) : Int).toNat (rd t345 x8_1)) (wrap64 (Int.tdiv (wrap64 (a0 - a1)) 2)) (wrap64 (x8_1 + 1))) else (none)) else (none)) = some r:=by first|(rw [hy352];with_reducible exact H)|(have H2_:=(Option.bind_some _ _).symm.trans H;rw [hy352];with_reducible exact H2_)|(have H2_:=(Option.bind_some _ _).symm.trans H;with_reducible exact H2_)|with_reducible exact H|(rw [hy352];exact H)|exact H
          have Ny352:=ak_ hy352
          clear hy352
          obtain ⟨ji17,hji17⟩ : ∃ j_ : Int,(wrap64 ((wrap64 ((wrap64 ((wrap64 (2 * a0)) - 1)) - (wrap64 (Int.tdiv (wrap64 (a0 - a1)) 2)))) - x8_1)) = j_:=⟨_,rfl⟩
          replace H : (if 0 ≤ (ji17) then (if (ji17) < (x6_1.length : Int) then (madrigalref10_Shape.l0 k1 a0 a1 t345 (y352.set ((ji17) : Int).toNat (rd t345 x8_1)) (wrap64 (Int.tdiv (wrap64 (a0 - a1)) 2)) (wrap64 (x8_1 + 1))) else (none)) else (none)) = some r:=by first|(rw [hji17] at H;exact H)|(simp only [hji17] at H ⊢;exact H)
          have hji17w : (IntKind.i64.wrap ((wrap64 ((wrap64 ((wrap64 (2 * a0)) - 1)) - (wrap64 (Int.tdiv (wrap64 (a0 - a1)) 2)))) - x8_1)) = ji17:=(i64_w _).trans hji17
          (try rw [hji4] at hji17);(try rw [hji4] at hji17w)
          by_cases c18 : 0 ≤ (ji17)
          ·rw [if_pos c18] at H
           have c18b0:=decide_eq_true c18
           clear c18
           by_cases c19 : (ji17) < (x6_1.length : Int)
           ·rw [if_pos c19] at H
            have c19b0:=decide_eq_true c19
            clear c19
            obtain ⟨y354,hy354⟩ : ∃ y_ : List Int,y_ = (y352.set ((ji17) : Int).toNat (rd t345 x8_1)):=⟨_,rfl⟩
            replace H : (madrigalref10_Shape.l0 k1 a0 a1 t345 y354 (wrap64 (Int.tdiv (wrap64 (a0 - a1)) 2)) (wrap64 (x8_1 + 1))) = some r:=by first|(rw [hy354];with_reducible exact H)|(have H2_:=(Option.bind_some _ _).symm.trans H;rw [hy354];with_reducible exact H2_)|(have H2_:=(Option.bind_some _ _).symm.trans H;with_reducible exact H2_)|with_reducible exact H|(rw [hy354];exact H)|exact H
            have Ny354:=ak_ hy354
            clear hy354
            have H':=ak_ H
            clear H
            obtain ⟨Ao21,co21,eo21⟩:=Kd.R_slice HO_5.out
            subst eo21
            have p351 : 0 ≤ (x8_1 : Int):=of_decide_eq_true (by first|(with_reducible assumption)|assumption)
            have q351 : x8_1 < (t345.length : Int):=of_decide_eq_true (by first|(with_reducible assumption)|assumption)
            obtain ⟨ad351,e351,hx351_0⟩:=Kd.at_int (Kd.R_reads' HO_5.out).2.2 x8_1 p351 q351
            cases e351
            replace p351:=eq_true p351
            replace q351:=eq_true q351
            have p16 : 0 ≤ ((ji13) : Int):=of_decide_eq_true (by first|(with_reducible assumption)|assumption)
            have q16 : ((ji13) : Int) < ((x6_1.length : Int) : Int):=of_decide_eq_true (by first|(with_reducible assumption)|assumption)
            obtain ⟨go16,co16,eo16,gb16,gl16,cl16,HG16⟩:=Kd.R_form HO_6.out (by omega)
            (first|cases eo16|(injection eo16 with ea_ en_ ec_;(first|subst ea_|(injection ea_ with ea_;subst ea_));subst ec_;clear en_))
            have GB16:=ak_ gb16
            have GG16:=ak_ HG16
            clear gb16 gl16 HG16
            obtain ⟨hx16_0,hf16_0⟩:=Kd.R_celln 0 HO_6.out ((ji13) : Int) p16 q16
            replace p16:=eq_true p16
            replace q16:=eq_true q16
            have HP22:=Kd.R_putg HO_6.out ((ji13) : Int) (rd t345 x8_1)
            go_wp2_with (first|((with_reducible refine gate_store (t:=2) (p:=32) rfl ?_);refine store_event (t:=2) (p:=32) (v:=?vo_w23) (w1:=(wr.setCell ⟨go16,((ji13) : Int).toNat,none⟩ (.int .i64 (rd t345 x8_1)))) ?hg ?ho ?hn ?hr ?_;(case ho => rfl);(case hg => rfl);(case hn => rfl);(case hr => first|(go_simp;done)|(go_simp;rfl));intro w23 hw;have hg : wr.grownBy w23 (some go16):=(by rw [hw];exact HP22.2);have hp_ : Kd.R (Kd.int .i64) 2 w23 w.heap.size (fun k_ => some k_ ≠ (.slice (some ad351) t345.length co21 : Value).ownBlock) (.slice (some ⟨go16,0,none⟩) x6_1.length co16) y352:=(by rw [hw,Ny352.out];exact HP22.1);clear HP22;have n0_:=ak_ (Kd.R_after (v:=(.slice (some ⟨go16,0,none⟩) x6_1.length co16)) (v1:=(.slice (some ⟨go16,0,none⟩) x6_1.length co16)) (ok:=(fun _ => True)) (by (with_reducible repeat (first|apply ra_|apply rb_|apply rc_));exact Kd.R_mono HO_5.out (fun _ hk => ⟨trivial,hk⟩)) hg (.inl rfl));have n1_:=ak_ (hp_);have n2_:=ak_ ((by rw [hw];exact below_set (HB.out) GB16.out : Below w.heap.size w w23));clear HO_5;clear HO_6;clear HB;have HO_5:=n0_;have HO_6:=n1_;have HB:=n2_;clear n0_ n1_ n2_;clear hg hw hp_;have p353 : 0 ≤ (x8_1 : Int):=of_decide_eq_true (by first|(with_reducible assumption)|assumption);have q353 : x8_1 < (t345.length : Int):=of_decide_eq_true (by first|(with_reducible assumption)|assumption);obtain ⟨ad353,e353,hx353_0⟩:=Kd.at_int (Kd.R_reads' HO_5.out).2.2 x8_1 p353 q353;obtain rfl : ad351 = ad353:=(by injection e353);replace p353:=eq_true p353;replace q353:=eq_true q353;have p20 : 0 ≤ ((ji17) : Int):=of_decide_eq_true (by first|(with_reducible assumption)|assumption);have q20 : ((ji17) : Int) < ((x6_1.length : Int) : Int):=of_decide_eq_true (by first|(with_reducible assumption)|assumption);obtain ⟨hx20_0,hf20_0⟩:=Kd.R_celln 0 HO_6.out ((ji17) : Int) p20 q20;replace p20:=eq_true p20;replace q20:=eq_true q20;obtain ⟨hy24_,hz24_⟩:=Kd.R_celln 0 HO_6.out ((ji17) : Int) (of_decide_eq_true (by first|(with_reducible assumption)|assumption)) (of_decide_eq_true (by first|(with_reducible assumption)|assumption));have HP24:=Kd.R_putg HO_6.out ((ji17) : Int) (rd t345 x8_1))|((with_reducible refine gate_store (t:=2) (p:=45) rfl ?_);refine store_event (t:=2) (p:=45) (v:=?vo_w25) (w1:=(w23.setCell ⟨go16,((ji17) : Int).toNat,none⟩ (.int .i64 (rd t345 x8_1)))) ?hg ?ho ?hn ?hr ?_;(case ho => rfl);(case hg => rfl);(case hn => rfl);(case hr => first|(go_simp;done)|(go_simp;rfl));intro w25 hw;have hg : w23.grownBy w25 (some go16):=(by rw [hw];exact HP24.2);have hp_ : Kd.R (Kd.int .i64) 2 w25 w.heap.size (fun k_ => some k_ ≠ (.slice (some ad351) t345.length co21 : Value).ownBlock) (.slice (some ⟨go16,0,none⟩) x6_1.length co16) y354:=(by rw [hw,Ny354.out];exact HP24.1);clear HP24;have n0_:=ak_ (Kd.R_after (v:=(.slice (some ⟨go16,0,none⟩) x6_1.length co16)) (v1:=(.slice (some ⟨go16,0,none⟩) x6_1.length co16)) (ok:=(fun _ => True)) (by (with_reducible repeat (first|apply ra_|apply rb_|apply rc_));exact HO_5.out) hg (.inl rfl));have n1_:=ak_ (hp_);have n2_:=ak_ ((by rw [hw];exact below_set (HB.out) GB16.out : Below w.heap.size w w25));clear HO_5;clear HO_6;clear HB;have HO_5:=n0_;have HO_6:=n1_;have HB:=n2_;clear n0_ n1_ n2_;clear hg hw hp_))
            go_roundg k1
            case measure => have:=HK1.out;omega
            case rel => exact ⟨(y354),(wrap64 (x8_1 + 1)),(by first|rfl|(simp;done)|(simp [*];done)),H',⟨by have:=HK1.out;omega⟩,⟨by (with_reducible repeat (first|apply ra_|apply rb_|apply rc_));exact Kd.R_mono HO_5.out (fun _ hk => hk.2)⟩,⟨by (with_reducible repeat (first|apply ra_|apply rb_|apply rc_));exact HO_6.out⟩,⟨by repeat (first|(with_reducible first|exact HB.out|apply ba_|apply bb_|apply bc_)|exact HB.out)⟩⟩
           ·rw [if_neg c19] at H
            exact absurd H (by simp)
          ·rw [if_neg c18] at H
           exact absurd H (by simp)
         ·rw [if_neg c15] at H
          exact absurd H (by simp)
        ·rw [if_neg c14] at H
         exact absurd H (by simp)
       ·rw [if_neg c12] at H
        exact absurd H (by simp)
      ·rw [if_neg c11] at H
       exact absurd H (by simp)
     ·rw [if_neg c10] at H
      have c10b0:=decide_eq_false c10
      clear c10
      have H':=ak_ H
      clear H
      go_wp2
      go_loopg [9] k1 (fun kq v9 w' => ∃ (x6_2 : List Int) (x9_2 : Int),v9 = .int .i64 x9_2 ∧ Aside0 (madrigalref10_Shape.l1 kq a0 a1 x6_2 (wrap64 (Int.tdiv (wrap64 (a0 - a1)) 2)) x9_2 = some r) ∧ Aside0 (kq ≤ k1) ∧ Aside0 (Kd.R (Kd.int .i64) 2 w' w.heap.size (fun _ => True) v349 x6_2) ∧ Aside0 (Below w.heap.size w w'))
      case atStart => exact ⟨(x6_1),(wrap64 ((wrap64 (Int.tdiv (wrap64 (a0 - a1)) 2)) + a1)),(by first|rfl|(simp;done)|(simp [*];done)),H',⟨Nat.le_refl _⟩,⟨by (with_reducible repeat (first|apply ra_|apply rb_|apply rc_));exact Kd.R_mono HO_6.out (fun _ hk => trivial)⟩,⟨by repeat (first|(with_reducible first|exact HB.out|apply ba_|apply bb_|apply bc_)|exact HB.out)⟩⟩
      case round =>
       clear H'
       try clear c1
       try clear p1
       try clear q1
       try clear hx1
       try clear p2
       try clear q2
       try clear hx2
       try clear hf2
       try clear c3
       try clear p3
       try clear q3
       try clear hx3
       try clear c5
       try clear c5b0
       try clear c5b1
       try clear c6
       try clear c6b0
       try clear c6b1
       try clear p6
       try clear c10
       try clear c10b0
       try clear c11
       try clear c11b0
       try clear c12
       try clear c12b0
       try clear c14
       try clear c14b0
       try clear c15
       try clear c15b0
       try clear p16
       try clear q16
       try clear hx16
       try clear hf16
       try clear c18
       try clear c18b0
       try clear c19
       try clear c19b0
       try clear p20
       try clear q20
       try clear hx20
       try clear hf20
       try clear hx16_0
       try clear hx20_0
       try clear hx351_0
       try clear hx353_0
       try clear p16
       try clear p2
       try clear p20
       try clear p351
       try clear p353
       try clear p6
       try clear q16
       try clear q20
       try clear q351
       try clear q353
       obtain ⟨x6_2,x9_2,rfl,HA,HK2,HO_6,HB⟩:=hrel
       (try simp only [i64_w,i32_w])
       cases gk with
       | zero => exact absurd HA.out (by simp [madrigalref10_Shape.l1])
       | succ k2 =>
        have H:=HA.out
        clear HA
        simp only [madrigalref10_Shape.l1] at H
        by_cases c26 : x9_2 < (wrap64 ((wrap64 ((wrap64 (2 * a0)) - (wrap64 (Int.tdiv (wrap64 (a0 - a1)) 2)))) - a1))
        ·rw [if_pos c26] at H
         have c26b0:=decide_eq_true c26
         (try rw [hji4] at c26b0)
         clear c26
         by_cases c27 : 0 ≤ x9_2
         ·rw [if_pos c27] at H
          have c27b0:=decide_eq_true c27
          clear c27
          by_cases c28 : x9_2 < (x6_2.length : Int)
          ·rw [if_pos c28] at H
           have c28b0:=decide_eq_true c28
           clear c28
           obtain ⟨y355,hy355⟩ : ∃ y_ : List Int,y_ = (x6_2.set (x9_2 : Int).toNat 32768):=⟨_,rfl⟩
           replace H : (madrigalref10_Shape.l1 k2 a0 a1 y355 (wrap64 (Int.tdiv (wrap64 (a0 - a1)) 2)) (wrap64 (x9_2 + 1))) = some r:=by first|(rw [hy355];with_reducible exact H)|(have H2_:=(Option.bind_some _ _).symm.trans H;rw [hy355];with_reducible exact H2_)|(have H2_:=(Option.bind_some _ _).symm.trans H;with_reducible exact H2_)|with_reducible exact H|(rw [hy355];exact H)|exact H
           have Ny355:=ak_ hy355
           clear hy355
           have H':=ak_ H
           clear H
           have p29 : 0 ≤ (x9_2 : Int):=of_decide_eq_true (by first|(with_reducible assumption)|assumption)
           have q29 : (x9_2 : Int) < ((x6_2.length : Int) : Int):=of_decide_eq_true (by first|(with_reducible assumption)|assumption)
           obtain ⟨go29,co29,eo29,gb29,gl29,cl29,HG29⟩:=Kd.R_form HO_6.out (by omega)
           (first|cases eo29|(injection eo29 with ea_ en_ ec_;(first|subst ea_|(injection ea_ with ea_;subst ea_));subst ec_;clear en_))
           have GB29:=ak_ gb29
           have GG29:=ak_ HG29
           clear gb29 gl29 HG29
           obtain ⟨hx29_0,hf29_0⟩:=Kd.R_celln 0 HO_6.out (x9_2 : Int) p29 q29
           replace p29:=eq_true p29
           replace q29:=eq_true q29
           have HP30:=Kd.R_putg HO_6.out (x9_2 : Int) 32768
           go_wp2_with (first|((with_reducible refine gate_store (t:=2) (p:=61) rfl ?_);refine store_event (t:=2) (p:=61) (v:=?vo_w31) (w1:=(wr.setCell ⟨go29,(x9_2 : Int).toNat,none⟩ (.int .i64 32768))) ?hg ?ho ?hn ?hr ?_;(case ho => rfl);(case hg => rfl);(case hn => rfl);(case hr => first|(go_simp;done)|(go_simp;rfl));intro w31 hw;have hg : wr.grownBy w31 (some go29):=(by rw [hw];exact HP30.2);have hp_ : Kd.R (Kd.int .i64) 2 w31 w.heap.size (fun _ => True) (.slice (some ⟨go29,0,none⟩) x6_2.length co29) y355:=(by rw [hw,Ny355.out];exact HP30.1);clear HP30;have n0_:=ak_ (hp_);have n1_:=ak_ ((by rw [hw];exact below_set (HB.out) GB29.out : Below w.heap.size w w31));clear HO_6;clear HB;have HO_6:=n0_;have HB:=n1_;clear n0_ n1_;clear hg hw hp_))
           go_roundg k2
           case measure => have:=HK1.out;have:=HK2.out;omega
           case rel => exact ⟨(y355),(wrap64 (x9_2 + 1)),(by first|rfl|(simp;done)|(simp [*];done)),H',⟨by have:=HK1.out;have:=HK2.out;omega⟩,⟨by (with_reducible repeat (first|apply ra_|apply rb_|apply rc_));exact HO_6.out⟩,⟨by repeat (first|(with_reducible first|exact HB.out|apply ba_|apply bb_|apply bc_)|exact HB.out)⟩⟩
          ·rw [if_neg c28] at H
           exact absurd H (by simp)
         ·rw [if_neg c27] at H
          exact absurd H (by simp)
        ·rw [if_neg c26] at H
         have c26b0:=decide_eq_false c26
         (try rw [hji4] at c26b0)
         clear c26
         obtain rfl:=Option.some.inj H
         go_wp2
         go_ret
         exact ⟨_,by first|rfl|(simp [errW_none,errW_some] <;> rfl)|(simp only [← hji4];first|rfl|(simp [errW_none,errW_some] <;> rfl))|(simp [*,errW_none,errW_some] <;> rfl),by (with_reducible repeat (first|apply ra_|apply rb_|apply rc_));exact HO_6.out,by repeat (first|(with_reducible first|exact HB.out|apply ba_|apply bb_|apply bc_)|exact HB.out)⟩
  ·rw [if_neg c6] at H
   exact absurd H (by simp)
 ·rw [if_neg c5] at H
  exact absurd H (by simp)

end Go.Proofs.Ytlmacbiahofmcaa.P
