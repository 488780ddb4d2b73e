/- The machine side of the laws of one chapter, without conditions: each call of a Go function comes to what the Lean function of its name answers. Written for this claim by a program of the prover. -/
import Derived.Test.YtllglpcpjeggcaaPx0
import Derived.Test.YtllglpcpjeggcaaPx13
namespace Go.Proofs.Ytllglpcpjeggcaa.P
open Go.RowKit Go.Proofs.YtllglpcpjeggcaaW.PrintWords Go.Proofs.YtllglpcpjeggcaaW.PrintLast Go.Proofs.YtllglpcpjeggcaaW.PrintMore
attribute [local go_sem] max2_int min2_int max_two min_two max_three min_three max_four min_four   -- for this text's walks alone
set_option linter.unusedVariables false
set_option linter.unusedSimpArgs false

/-! ### lsf_Good: function 42 -/
mutual
def lsf_Good.j0 : Nat → Bool → Int → List Int → Option (Bool)
 | 0,_,_,_ => none
 | k + 1,x26,x241000,x241001 => if x26 = true then (some false) else (lsf_Good.l0 k x241001 (x241001.length : Int) 0)
def lsf_Good.l0 : Nat → List Int → Int → Int → Option (Bool)
 | 0,_,_,_ => none
 | k + 1,x28,x29,x30 => if x30 < x29 then (if 0 ≤ x30 then (if x30 < (x28.length : Int) then (if (rd x28 x30) < (-4) then (some false) else (if (rd x28 x30) > 4 then (some false) else (lsf_Good.l0 k x28 x29 (wrap64 (x30 + 1))))) else (none)) else (none)) else (some true)
end
def lsf_Good.f (k : Nat) (a0 : Int) (a1_0 : Int) (l1_1 : List Int) : Option (Bool):=(lsf_unit.f a0).bind fun t241 => (if t241 = 0 then (lsf_Good.j0 k true a1_0 l1_1) else (if a1_0 < 0 then (lsf_Good.j0 k true a1_0 l1_1) else (if a1_0 ≥ 16 then (lsf_Good.j0 k true a1_0 l1_1) else (lsf_Good.j0 k ((l1_1.length : Int) != a0) a1_0 l1_1))))
theorem lsf_Good.mono_l : ∀ k,(∀ y0 y1 y2,LeO (lsf_Good.j0 k y0 y1 y2) (lsf_Good.j0 (k + 1) y0 y1 y2)) ∧ (∀ y0 y1 y2,LeO (lsf_Good.l0 k y0 y1 y2) (lsf_Good.l0 (k + 1) y0 y1 y2))
 | 0 => ⟨fun _ _ _ r h => by simp [lsf_Good.j0] at h,fun _ _ _ r h => by simp [lsf_Good.l0] at h⟩
 | k + 1 => by
  obtain ⟨ih0,ih1⟩:=lsf_Good.mono_l k
  refine ⟨?_,?_⟩
  all_goals (intros;first|unfold lsf_Good.j0|unfold lsf_Good.l0)
  all_goals (repeat' first|(with_reducible first|exact ih0 _ _ _|exact ih1 _ _ _|exact LeO.refl _|exact LeO.none _|refine LeO.ite ?_ ?_|refine LeO.bind ?_ (fun _ => ?_))|exact ih0 _ _ _|exact ih1 _ _ _|exact LeO.none _|refine LeO.ite ?_ ?_|refine LeO.bind ?_ (fun _ => ?_))
theorem lsf_Good.mono : ∀ a0 a1 a2 k,LeO (lsf_Good.f k a0 a1 a2) (lsf_Good.f (k + 1) a0 a1 a2):=by
 intro a0 a1 a2 k
 obtain ⟨ih0,ih1⟩:=lsf_Good.mono_l k
 unfold lsf_Good.f
 repeat' first|(with_reducible first|exact ih0 _ _ _|exact ih1 _ _ _|exact LeO.refl _|exact LeO.none _|refine LeO.ite ?_ ?_|refine LeO.bind ?_ (fun _ => ?_))|exact ih0 _ _ _|exact ih1 _ _ _|exact LeO.none _|refine LeO.ite ?_ ?_|refine LeO.bind ?_ (fun _ => ?_)
set_option maxHeartbeats 8000000 in
set_option maxRecDepth 100000 in
theorem lsf_Good.calls (k : Nat) (a0 : Int) (a1_0 : Int) (A1_1 : Option Addr) (c1_1 : Nat) (l1_1 : List Int) (r : Bool) (w : World) (hr1_1 : Kd.C (Kd.int .i64) w A1_1 l1_1.length l1_1) (hc1_1 : l1_1.length ≤ c1_1) (h : lsf_Good.f k a0 a1_0 l1_1 = some r) :
  Calls Try.prog 42 #[.int .i64 a0,.agg #[.int .i64 a1_0,.slice A1_1 l1_1.length c1_1]] w fun e w' => e = .returned (.bool r) ∧ Below w.heap.size w w':=by
 have hu46:=Try.underlying46
 have HR1_1:=ak_ hr1_1
 have HC1_1:=ak_ hc1_1
 clear hr1_1 hc1_1
 have HB:=ak_ (Below.refl w.heap.size w)
 have H : ((lsf_unit.f a0).bind fun t241 => (if t241 = 0 then (lsf_Good.j0 k true a1_0 l1_1) else (if a1_0 < 0 then (lsf_Good.j0 k true a1_0 l1_1) else (if a1_0 ≥ 16 then (lsf_Good.j0 k true a1_0 l1_1) else (lsf_Good.j0 k ((l1_1.length : Int) != a0) a1_0 l1_1))))) = some r:=h
 clear h
 have HC3:=ak_ H
 clear H
 go_enter Try.func42,Try.ntmps42
 go_upto_region 1 with (first|((with_reducible refine gate_dst (N:=3) rfl ?_);(try (refine gate_guard (by rfl) ?_;dsimp only));refine box_event ?hg (N:=3) ?hd (cs:=#[.int .i64 a1_0,.slice A1_1 l1_1.length c1_1]) (t:=46) ?hr ?_;(case hd => rfl);(case hg => rfl);(case hr => first|(go_simp;done)|(go_simp;rfl));intro gb240 hg w4 hbox hb;have n0_:=ak_ (below_step (by repeat (first|(with_reducible first|exact HB.out|apply ba_|apply bb_|apply bc_)|exact HB.out)) hb);have n1_:=ak_ (hbox);have n2_:=ak_ ((by rw [hg];exact (below_size (by repeat (first|(with_reducible first|exact HB.out|apply ba_|apply bb_|apply bc_)|exact HB.out))) : w.heap.size ≤ gb240));have n3_:=ak_ ((by rw [hg];exact (below_size (by repeat (first|(with_reducible first|exact HB.out|apply ba_|apply bb_|apply bc_)|exact HB.out))) : w.heap.size ≤ gb240));clear HB;have HB:=n0_;have BK240:=n1_;have GW240:=n2_;have GE240:=n3_;clear n0_ n1_ n2_ n3_;clear hb hbox hg))
 (try simp only [Act.put,List.setIfInBounds_toArray,List.set_cons_zero,List.set_cons_succ])
 go_cut [26] (fun v26 wc => ∃ (kq : Nat) (x26_2 : Bool),v26 = .bool x26_2 ∧ Aside0 (lsf_Good.j0 kq x26_2 a1_0 l1_1 = some r) ∧ Aside0 (kq ≤ k) ∧ Aside0 (wc.heap[gb240]? = some (.cells #[.int .i64 a1_0,(.slice A1_1 l1_1.length c1_1)] 46 (0,0))) ∧ Aside0 (Below w.heap.size w wc))
 case first =>
  have H:=HC3.out
  clear HC3
  replace H:=Option.bind_eq_some_iff.mp H
  obtain ⟨t241,A50,H⟩:=H
  (try dsimp only at H)
  have A5:=ak_ A50
  clear A50
  by_cases c6 : t241 = 0
  ·rw [if_pos c6] at H
   have c6b0 : (t241 == 0) = true:=beq_iff_eq.mpr c6
   have c6b1 : (t241 != 0) = false:=bne_eq_false_iff_eq.mpr c6
   clear c6
   (first|rw [c6b0]|(simp only [i64_w,i32_w];rw [c6b0])|skip)
   have H':=ak_ H
   clear H
   go_wp2_with (first|((with_reducible refine gate_callee (f:=44) rfl ?_);refine goesL_ (some 8) rfl rfl Try.func44 (by kernel_rfl) rfl #[.int .i64 a0] rfl (by (try simp only [List.map_toArray,List.map_cons,List.map_nil]);first|done|rfl|(simp only [List.length_drop,List.length_take];rfl)) ?_;(with_reducible refine (lsf_unit.calls a0 t241 _ A5.out).mono ?_);rintro e w' ⟨rfl,⟨nd,rfl⟩⟩;refine ⟨_,rfl,?_⟩))
   go_meet
   case rel => exact ⟨_,(true),(by first|rfl|(simp;done)|(simp [*];done)),H',⟨by first|omega|exact Nat.le_refl _⟩,⟨by (with_reducible repeat (first|refine blk_drewN ?_ _|refine blk_drew ?_|refine blk_alloc ?_ _));exact BK240.out⟩,⟨by repeat (first|(with_reducible first|exact HB.out|apply ba_|apply bb_|apply bc_|refine below_set ?_ GE240.out)|exact HB.out)⟩⟩
  ·rw [if_neg c6] at H
   have c6b0 : (t241 == 0) = false:=beq_eq_false_iff_ne.mpr c6
   have c6b1 : (t241 != 0) = true:=bne_iff_ne.mpr c6
   (first|rw [c6b0]|(simp only [i64_w,i32_w];rw [c6b0])|skip)
   by_cases c7 : a1_0 < 0
   ·rw [if_pos c7] at H
    have c7b0:=decide_eq_true c7
    clear c7
    have H':=ak_ H
    clear H
    go_wp2_with (first|((with_reducible refine gate_callee (f:=44) rfl ?_);refine goesL_ (some 8) rfl rfl Try.func44 (by kernel_rfl) rfl #[.int .i64 a0] rfl (by (try simp only [List.map_toArray,List.map_cons,List.map_nil]);first|done|rfl|(simp only [List.length_drop,List.length_take];rfl)) ?_;(with_reducible refine (lsf_unit.calls a0 t241 _ A5.out).mono ?_);rintro e w' ⟨rfl,⟨nd,rfl⟩⟩;refine ⟨_,rfl,?_⟩;have hcz8_0 : w4.cell? ⟨gb240,0,none⟩ = some (.int .i64 a1_0):=(blk_cell BK240.out 0).trans rfl;have hcz8_1 : w4.cell? ⟨gb240,1,none⟩ = some (.slice A1_1 l1_1.length c1_1):=(blk_cell BK240.out 1).trans rfl;have hfz8_0:=blk_frozen BK240.out 0;have hfz8_1:=blk_frozen BK240.out 1))
    refine Met.intro ?_
    go_step
    (repeat apply Exists.intro)
    first|refine ⟨?rel69,rfl⟩|(refine ⟨?rel69,?st69⟩;case' st69 => (first|rw [c7b0]|simp only [c7b0]))
    case rel69 => exact ⟨_,(true),(by first|rfl|(simp;done)|(simp [*];done)),H',⟨by first|omega|exact Nat.le_refl _⟩,⟨by (with_reducible repeat (first|refine blk_drewN ?_ _|refine blk_drew ?_|refine blk_alloc ?_ _));exact BK240.out⟩,⟨by repeat (first|(with_reducible first|exact HB.out|apply ba_|apply bb_|apply bc_|refine below_set ?_ GE240.out)|exact HB.out)⟩⟩
   ·rw [if_neg c7] at H
    have c7b0:=decide_eq_false c7
    clear c7
    by_cases c9 : a1_0 ≥ 16
    ·rw [if_pos c9] at H
     have c9b0 : decide (16 ≤ a1_0) = true:=decide_eq_true c9
     clear c9
     have H':=ak_ H
     clear H
     go_wp2_with (first|((with_reducible refine gate_callee (f:=44) rfl ?_);refine goesL_ (some 8) rfl rfl Try.func44 (by kernel_rfl) rfl #[.int .i64 a0] rfl (by (try simp only [List.map_toArray,List.map_cons,List.map_nil]);first|done|rfl|(simp only [List.length_drop,List.length_take];rfl)) ?_;(with_reducible refine (lsf_unit.calls a0 t241 _ A5.out).mono ?_);rintro e w' ⟨rfl,⟨nd,rfl⟩⟩;refine ⟨_,rfl,?_⟩;have hcz10_0 : w4.cell? ⟨gb240,0,none⟩ = some (.int .i64 a1_0):=(blk_cell BK240.out 0).trans rfl;have hcz10_1 : w4.cell? ⟨gb240,1,none⟩ = some (.slice A1_1 l1_1.length c1_1):=(blk_cell BK240.out 1).trans rfl;have hfz10_0:=blk_frozen BK240.out 0;have hfz10_1:=blk_frozen BK240.out 1))
     refine Met.intro ?_
     go_step
     (repeat apply Exists.intro)
     first|refine ⟨?rel81,rfl⟩|(refine ⟨?rel81,?st81⟩;case' st81 => (first|rw [c9b0]|simp only [c9b0]))
     case rel81 => exact ⟨_,(true),(by first|rfl|(simp;done)|(simp [*];done)),H',⟨by first|omega|exact Nat.le_refl _⟩,⟨by (with_reducible repeat (first|refine blk_drewN ?_ _|refine blk_drew ?_|refine blk_alloc ?_ _));exact BK240.out⟩,⟨by repeat (first|(with_reducible first|exact HB.out|apply ba_|apply bb_|apply bc_|refine below_set ?_ GE240.out)|exact HB.out)⟩⟩
    ·rw [if_neg c9] at H
     have c9b0 : decide (16 ≤ a1_0) = false:=decide_eq_false c9
     clear c9
     have H':=ak_ H
     clear H
     go_wp2_with (first|((with_reducible refine gate_callee (f:=44) rfl ?_);refine goesL_ (some 8) rfl rfl Try.func44 (by kernel_rfl) rfl #[.int .i64 a0] rfl (by (try simp only [List.map_toArray,List.map_cons,List.map_nil]);first|done|rfl|(simp only [List.length_drop,List.length_take];rfl)) ?_;(with_reducible refine (lsf_unit.calls a0 t241 _ A5.out).mono ?_);rintro e w' ⟨rfl,⟨nd,rfl⟩⟩;refine ⟨_,rfl,?_⟩;have hcz11_0 : w4.cell? ⟨gb240,0,none⟩ = some (.int .i64 a1_0):=(blk_cell BK240.out 0).trans rfl;have hcz11_1 : w4.cell? ⟨gb240,1,none⟩ = some (.slice A1_1 l1_1.length c1_1):=(blk_cell BK240.out 1).trans rfl;have hfz11_0:=blk_frozen BK240.out 0;have hfz11_1:=blk_frozen BK240.out 1))
     refine Met.intro ?_
     go_step
     (repeat apply Exists.intro)
     first|refine ⟨?rel89,rfl⟩|(refine ⟨?rel89,?st89⟩;case' st89 => (first|rw [c9b0]|simp only [c9b0]))
     case rel89 => exact ⟨_,(((l1_1.length : Int) != a0)),(by first|rfl|(simp;done)|(simp [*];done)),H',⟨by first|omega|exact Nat.le_refl _⟩,⟨by (with_reducible repeat (first|refine blk_drewN ?_ _|refine blk_drew ?_|refine blk_alloc ?_ _));exact BK240.out⟩,⟨by repeat (first|(with_reducible first|exact HB.out|apply ba_|apply bb_|apply bc_|refine below_set ?_ GE240.out)|exact HB.out)⟩⟩
 case rest =>
  clear HC3
  try clear c1
  try clear p2
  try clear c4
  try clear c6
  try clear c6b0
  try clear c6b1
  try clear c7
  try clear c7b0
  try clear c9
  try clear c9b0
  try clear hcz10_0
  try clear hcz10_1
  try clear hcz11_0
  try clear hcz11_1
  try clear hcz8_0
  try clear hcz8_1
  try clear hfz10_0
  try clear hfz10_1
  try clear hfz11_0
  try clear hfz11_1
  try clear hfz8_0
  try clear hfz8_1
  obtain ⟨kq,x26_2,rfl,HA,HJ2,BK240,HB⟩:=hcut
  (try simp only [i64_w,i32_w])
  cases kq with
  | zero => exact absurd HA.out (by simp [lsf_Good.j0])
  | succ kj2 =>
   have H:=HA.out
   clear HA
   simp only [lsf_Good.j0] at H
   by_cases c12 : x26_2 = true
   ·subst c12
    have H1 : (some false) = some r:=by rw [if_pos rfl] at H;exact H
    clear H
    have H:=H1
    clear H1
    obtain rfl:=Option.some.inj H
    go_wp2
    go_ret
    exact ⟨by first|rfl|(simp [errW_none,errW_some] <;> rfl)|(simp [*,errW_none,errW_some] <;> rfl),by repeat (first|(with_reducible first|exact HB.out|apply ba_|apply bb_|apply bc_|refine below_set ?_ GE240.out)|exact HB.out)⟩
   ·replace c12:=Bool.eq_false_iff.mpr c12
    subst c12
    have H1 : (lsf_Good.l0 kj2 l1_1 (l1_1.length : Int) 0) = some r:=by rw [if_neg (show ¬ (false = true) by decide)] at H;exact H
    clear H
    have H:=H1
    clear H1
    have H':=ak_ H
    clear H
    have hcz13_0 : wc.cell? ⟨gb240,0,none⟩ = some (.int .i64 a1_0):=(blk_cell BK240.out 0).trans rfl
    have hcz13_1 : wc.cell? ⟨gb240,1,none⟩ = some (.slice A1_1 l1_1.length c1_1):=(blk_cell BK240.out 1).trans rfl
    have hfz13_0:=blk_frozen BK240.out 0
    have hfz13_1:=blk_frozen BK240.out 1
    go_wp2
    go_loopg [30] kj2 (fun kq v30 w' => ∃ (x30_2 : Int),v30 = .int .i64 x30_2 ∧ Aside0 (lsf_Good.l0 kq l1_1 (l1_1.length : Int) x30_2 = some r) ∧ Aside0 (kq ≤ kj2) ∧ Aside0 (w'.heap[gb240]? = some (.cells #[.int .i64 a1_0,(.slice A1_1 l1_1.length c1_1)] 46 (0,0))) ∧ Aside0 (Below w.heap.size w w'))
    case atStart => exact ⟨(0),(by first|rfl|(simp;done)|(simp [*];done)),H',⟨Nat.le_refl _⟩,⟨by (with_reducible repeat (first|refine blk_drewN ?_ _|refine blk_drew ?_|refine blk_alloc ?_ _));exact BK240.out⟩,⟨by repeat (first|(with_reducible first|exact HB.out|apply ba_|apply bb_|apply bc_|refine below_set ?_ GE240.out)|exact HB.out)⟩⟩
    case round =>
     clear H'
     try clear c1
     try clear p2
     try clear c4
     try clear c6
     try clear c6b0
     try clear c6b1
     try clear c7
     try clear c7b0
     try clear c9
     try clear c9b0
     try clear c12
     try clear hcz10_0
     try clear hcz10_1
     try clear hcz11_0
     try clear hcz11_1
     try clear hcz13_0
     try clear hcz13_1
     try clear hcz8_0
     try clear hcz8_1
     try clear hfz10_0
     try clear hfz10_1
     try clear hfz11_0
     try clear hfz11_1
     try clear hfz13_0
     try clear hfz13_1
     try clear hfz8_0
     try clear hfz8_1
     try clear p2
     obtain ⟨x30_2,rfl,HA,HK2,BK240,HB⟩:=hrel
     (try simp only [i64_w,i32_w])
     cases gk with
     | zero => exact absurd HA.out (by simp [lsf_Good.l0])
     | succ k2 =>
      have H:=HA.out
      clear HA
      simp only [lsf_Good.l0] at H
      by_cases c14 : x30_2 < (l1_1.length : Int)
      ·rw [if_pos c14] at H
       have c14b0:=decide_eq_true c14
       clear c14
       by_cases c15 : 0 ≤ x30_2
       ·rw [if_pos c15] at H
        have c15b0:=decide_eq_true c15
        clear c15
        by_cases c16 : x30_2 < (l1_1.length : Int)
        ·rw [if_pos c16] at H
         have c16b0:=decide_eq_true c16
         clear c16
         by_cases c17 : (rd l1_1 x30_2) < (-4)
         ·rw [if_pos c17] at H
          have c17b0:=decide_eq_true c17
          clear c17
          obtain rfl:=Option.some.inj H
          have p242 : 0 ≤ (x30_2 : Int):=of_decide_eq_true (by first|(with_reducible assumption)|assumption)
          have q242 : x30_2 < (l1_1.length : Int):=of_decide_eq_true (by first|(with_reducible assumption)|assumption)
          obtain ⟨ad242,e242,hx242_0⟩:=Kd.at_int HR1_1.out x30_2 p242 q242
          cases e242
          replace hx242_0:=(HB.out.cell (World.block_lt_of_cell? w _ hx242_0)).trans hx242_0
          replace p242:=eq_true p242
          replace q242:=eq_true q242
          go_wp2
          go_ret
          exact ⟨by first|rfl|(simp [errW_none,errW_some] <;> rfl)|(simp [*,errW_none,errW_some] <;> rfl),by repeat (first|(with_reducible first|exact HB.out|apply ba_|apply bb_|apply bc_|refine below_set ?_ GE240.out)|exact HB.out)⟩
         ·rw [if_neg c17] at H
          have c17b0:=decide_eq_false c17
          clear c17
          by_cases c18 : (rd l1_1 x30_2) > 4
          ·rw [if_pos c18] at H
           have c18b0 : decide (4 < (rd l1_1 x30_2)) = true:=decide_eq_true c18
           clear c18
           obtain rfl:=Option.some.inj H
           have p242 : 0 ≤ (x30_2 : Int):=of_decide_eq_true (by first|(with_reducible assumption)|assumption)
           have q242 : x30_2 < (l1_1.length : Int):=of_decide_eq_true (by first|(with_reducible assumption)|assumption)
           obtain ⟨ad242,e242,hx242_0⟩:=Kd.at_int HR1_1.out x30_2 p242 q242
           cases e242
           replace hx242_0:=(HB.out.cell (World.block_lt_of_cell? w _ hx242_0)).trans hx242_0
           replace p242:=eq_true p242
           replace q242:=eq_true q242
           go_wp2
           go_ret
           exact ⟨by first|rfl|(simp [errW_none,errW_some] <;> rfl)|(simp [*,errW_none,errW_some] <;> rfl),by repeat (first|(with_reducible first|exact HB.out|apply ba_|apply bb_|apply bc_|refine below_set ?_ GE240.out)|exact HB.out)⟩
          ·rw [if_neg c18] at H
           have c18b0 : decide (4 < (rd l1_1 x30_2)) = false:=decide_eq_false c18
           clear c18
           have H':=ak_ H
           clear H
           have p242 : 0 ≤ (x30_2 : Int):=of_decide_eq_true (by first|(with_reducible assumption)|assumption)
           have q242 : x30_2 < (l1_1.length : Int):=of_decide_eq_true (by first|(with_reducible assumption)|assumption)
           obtain ⟨ad242,e242,hx242_0⟩:=Kd.at_int HR1_1.out x30_2 p242 q242
           cases e242
           replace hx242_0:=(HB.out.cell (World.block_lt_of_cell? w _ hx242_0)).trans hx242_0
           replace p242:=eq_true p242
           replace q242:=eq_true q242
           go_wp2
           go_roundg k2
           case measure => have:=HJ2.out;have:=HK2.out;omega
           case rel => exact ⟨(wrap64 (x30_2 + 1)),(by first|rfl|(simp;done)|(simp [*];done)),H',⟨by have:=HJ2.out;have:=HK2.out;omega⟩,⟨by (with_reducible repeat (first|refine blk_drewN ?_ _|refine blk_drew ?_|refine blk_alloc ?_ _));exact BK240.out⟩,⟨by repeat (first|(with_reducible first|exact HB.out|apply ba_|apply bb_|apply bc_|refine below_set ?_ GE240.out)|exact HB.out)⟩⟩
        ·rw [if_neg c16] at H
         exact absurd H (by simp)
       ·rw [if_neg c15] at H
        exact absurd H (by simp)
      ·rw [if_neg c14] at H
       have c14b0:=decide_eq_false c14
       clear c14
       obtain rfl:=Option.some.inj H
       go_wp2
       go_ret
       exact ⟨by first|rfl|(simp [errW_none,errW_some] <;> rfl)|(simp [*,errW_none,errW_some] <;> rfl),by repeat (first|(with_reducible first|exact HB.out|apply ba_|apply bb_|apply bc_|refine below_set ?_ GE240.out)|exact HB.out)⟩

end Go.Proofs.Ytllglpcpjeggcaa.P
