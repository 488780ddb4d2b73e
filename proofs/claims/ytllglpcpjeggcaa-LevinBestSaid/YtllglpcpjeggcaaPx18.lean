/- The machine side of the laws of one chapter, without conditions: each call of a Go function comes to what the Lean function of its name answers. Written for this claim by a program of the prover. -/
import Derived.Test.YtllglpcpjeggcaaPx0
import Derived.Test.YtllglpcpjeggcaaPx13
import Derived.Test.YtllglpcpjeggcaaPx14
import Derived.Test.YtllglpcpjeggcaaPx15
import Derived.Test.YtllglpcpjeggcaaPx17
namespace Go.Proofs.Ytllglpcpjeggcaa.P
open Go.RowKit Go.Proofs.YtllglpcpjeggcaaW.PrintWords Go.Proofs.YtllglpcpjeggcaaW.PrintLast Go.Proofs.YtllglpcpjeggcaaW.PrintMore
attribute [local go_sem] max2_int min2_int max_two min_two max_three min_three max_four min_four   -- for this text's walks alone
set_option linter.unusedVariables false
set_option linter.unusedSimpArgs false

/-! ### lsf_Decode: function 29 -/
def lsf_Decode.l0 : Nat → Int → List Int → Int → Int → Int → List Int → Option (List Int × Int)
 | 0,_,_,_,_,_,_ => none
 | k + 1,x0,x6,x17,x18,x263000,x263001 => if x18 < x17 then (if 0 ≤ x18 then (if x18 < (x6.length : Int) then ((lsf_unit.f x0).bind fun t268 => (if x18 < (x263001.length : Int) then (lsf_Decode.l0 k x0 (x6.set (x18 : Int).toNat (wrap64 ((rd x6 x18) + (wrap64 (t268 * (rd x263001 x18)))))) x17 (wrap64 (x18 + 1)) x263000 x263001) else (none))) else (none)) else (none)) else ((lsf_Steady.f k x6).bind fun t271 => (some (t271,0)))
def lsf_Decode.f (k : Nat) (a0 : Int) (a1_0 : Int) (l1_1 : List Int) : Option (List Int × Int):=(lsf_Good.f k a0 a1_0 l1_1).bind fun t263 => (if t263 = true then ((tabs_Lsf.f k a0 a1_0).bind fun t264 => (lsf_Decode.l0 k a0 t264 (t264.length : Int) 0 a1_0 l1_1)) else (some (([] : List Int),1)))
theorem lsf_Decode.mono_l : ∀ k,(∀ y0 y1 y2 y3 y4 y5,LeO (lsf_Decode.l0 k y0 y1 y2 y3 y4 y5) (lsf_Decode.l0 (k + 1) y0 y1 y2 y3 y4 y5))
 | 0 => fun _ _ _ _ _ _ r h => by simp [lsf_Decode.l0] at h
 | k + 1 => by
  have ih0:=lsf_Decode.mono_l k
  all_goals (intros;first|unfold lsf_Decode.l0)
  all_goals (repeat' first|(with_reducible first|exact ih0 _ _ _ _ _ _|exact lsf_Good.mono _ _ _ _|exact lsf_Steady.mono _ _|exact tabs_Lsf.mono _ _ _|exact LeO.refl _|exact LeO.none _|refine LeO.ite ?_ ?_|refine LeO.bind ?_ (fun _ => ?_))|exact ih0 _ _ _ _ _ _|exact lsf_Good.mono _ _ _ _|exact lsf_Steady.mono _ _|exact tabs_Lsf.mono _ _ _|exact LeO.none _|refine LeO.ite ?_ ?_|refine LeO.bind ?_ (fun _ => ?_))
theorem lsf_Decode.mono : ∀ a0 a1 a2 k,LeO (lsf_Decode.f k a0 a1 a2) (lsf_Decode.f (k + 1) a0 a1 a2):=by
 intro a0 a1 a2 k
 have ih0:=lsf_Decode.mono_l k
 unfold lsf_Decode.f
 repeat' first|(with_reducible first|exact ih0 _ _ _ _ _ _|exact lsf_Good.mono _ _ _ _|exact lsf_Steady.mono _ _|exact tabs_Lsf.mono _ _ _|exact LeO.refl _|exact LeO.none _|refine LeO.ite ?_ ?_|refine LeO.bind ?_ (fun _ => ?_))|exact ih0 _ _ _ _ _ _|exact lsf_Good.mono _ _ _ _|exact lsf_Steady.mono _ _|exact tabs_Lsf.mono _ _ _|exact LeO.none _|refine LeO.ite ?_ ?_|refine LeO.bind ?_ (fun _ => ?_)
def lsf_Decode.T7 : Bool × List (List Nat × List Nat):=(true,[([],[]),([],[]),([0,1],[0,1]),([2],[2]),([],[]),([4],[4]),([],[]),([6],[6]),([],[]),([7,8],[7,8]),([9],[9]),([5,10],[5,10]),([3,11],[3,11]),([0,1,0,1,2,3,4,5,6,7,8,9,10,11,12],[0,1]),([13,12,5,0,1,2,3,4,5,6,7,8,9,10,11,12],[12,13])])
def lsf_Decode.B7 : List Nat:=[0,0,3,7,0,16,0,64,0,448,960,2032,4095,8191,16383]
theorem lsf_Decode.tab7 : rtab .any (opsOf Try.f29 7) = lsf_Decode.T7:=by kernel_rfl
theorem lsf_Decode.bits7 : waitsOk lsf_Decode.T7.2 lsf_Decode.B7 = true:=by kernel_rfl
set_option maxHeartbeats 8000000 in
set_option maxRecDepth 100000 in
theorem lsf_Decode.calls (k : Nat) (a0 : Int) (a1_0 : Int) (A1_1 : Option Addr) (c1_1 : Nat) (l1_1 : List Int) (r1 : List Int) (r2 : Int) (w : World) (hr1_1 : Kd.C (Kd.int .i64) w A1_1 l1_1.length l1_1) (hc1_1 : l1_1.length ≤ c1_1) (h : lsf_Decode.f k a0 a1_0 l1_1 = some (r1,r2)) :
  Calls Try.prog 29 #[.int .i64 a0,.agg #[.int .i64 a1_0,.slice A1_1 l1_1.length c1_1]] w fun e w' => ∃ v0_ : Value,e = .returned (.tuple #[v0_,.int .i64 r2]) ∧ Kd.R (Kd.int .i64) 2 w' w.heap.size (fun _ => True) v0_ r1 ∧ Below w.heap.size w w':=by
 have hu46:=Try.underlying46
 have HR1_1:=ak_ hr1_1
 have HC1_1:=ak_ hc1_1
 clear hr1_1 hc1_1
 have HB:=ak_ (Below.refl w.heap.size w)
 have H : ((lsf_Good.f k a0 a1_0 l1_1).bind fun t263 => (if t263 = true then ((tabs_Lsf.f k a0 a1_0).bind fun t264 => (lsf_Decode.l0 k a0 t264 (t264.length : Int) 0 a1_0 l1_1)) else (some (([] : List Int),1)))) = some (r1,r2):=h
 clear h
 replace H:=Option.bind_eq_some_iff.mp H
 obtain ⟨t263,A30,H⟩:=H
 (try dsimp only at H)
 have A3:=ak_ A30
 clear A30
 by_cases c4 : t263 = true
 ·subst c4
  have H1 : ((tabs_Lsf.f k a0 a1_0).bind fun t264 => (lsf_Decode.l0 k a0 t264 (t264.length : Int) 0 a1_0 l1_1)) = some (r1,r2):=by rw [if_pos rfl] at H;exact H
  clear H
  have H:=H1
  clear H1
  replace H:=Option.bind_eq_some_iff.mp H
  obtain ⟨t264,A50,H⟩:=H
  (try dsimp only at H)
  have A5:=ak_ A50
  clear A50
  have H':=ak_ H
  clear H
  go_enter Try.func29,Try.ntmps29
  go_wp2_with (first|((with_reducible refine gate_dst (N:=3) rfl ?_);refine box_event ?hg (N:=3) ?hd (cs:=#[.int .i64 a1_0,.slice A1_1 l1_1.length c1_1]) (t:=46) ?hr ?_;(case hd => rfl);(case hg => rfl);(case hr => first|(go_simp;done)|(go_simp;rfl));intro gb262 hg w6 hbox hb;have n0_:=ak_ (below_step (by repeat (first|(with_reducible first|exact HB.out|apply ba_|apply bb_|apply bc_)|exact HB.out)) hb);have n1_:=ak_ (hbox);have n2_:=ak_ ((by rw [hg];exact (below_size (by repeat (first|(with_reducible first|exact HB.out|apply ba_|apply bb_|apply bc_)|exact HB.out))) : w.heap.size ≤ gb262));have n3_:=ak_ ((by rw [hg];exact (below_size (by repeat (first|(with_reducible first|exact HB.out|apply ba_|apply bb_|apply bc_)|exact HB.out))) : w.heap.size ≤ gb262));clear HB;have HB:=n0_;have BK262:=n1_;have GW262:=n2_;have GE262:=n3_;clear n0_ n1_ n2_ n3_;clear hb hbox hg;have hcz7_0 : w6.cell? ⟨gb262,0,none⟩ = some (.int .i64 a1_0):=(blk_cell BK262.out 0).trans rfl;have hcz7_1 : w6.cell? ⟨gb262,1,none⟩ = some (.slice A1_1 l1_1.length c1_1):=(blk_cell BK262.out 1).trans rfl;have hfz7_0:=blk_frozen BK262.out 0;have hfz7_1:=blk_frozen BK262.out 1)|((with_reducible refine gate_callee (f:=42) rfl ?_);refine goesL_ (some 10) rfl rfl Try.func42 (by kernel_rfl) rfl #[.int .i64 a0,.agg #[.int .i64 a1_0,.slice A1_1 l1_1.length c1_1]] rfl (by (try simp only [List.map_toArray,List.map_cons,List.map_nil]);first|done|rfl|(simp only [List.length_drop,List.length_take];rfl)) ?_;(with_reducible refine (lsf_Good.calls k a0 a1_0 _ _ l1_1 true _ ?side1 ?side2 A3.out).mono ?_);(case side1 => repeat (first|exact (Kd.C_below HR1_1.out HB.out)|(with_reducible refine Kd.C_alloc ?_ _)|(with_reducible refine Kd.C_drewN ?_ _)|(with_reducible refine Kd.C_drew ?_)));(case side2 => exact HC1_1.out);rintro e w8 ⟨rfl,hb⟩;refine ⟨_,rfl,?_⟩;have n0_:=ak_ (blk_below (g:=gb262) (o:=.cells #[.int .i64 a1_0,.slice A1_1 l1_1.length c1_1] 46 (0,0)) (by (with_reducible repeat (first|refine blk_drewN ?_ _|refine blk_drew ?_|refine blk_alloc ?_ _));exact BK262.out) hb);have n1_:=ak_ (below_step (by repeat (first|(with_reducible first|exact HB.out|apply ba_|apply bb_|apply bc_|refine below_set ?_ GE262.out)|exact HB.out)) hb);clear BK262;clear HB;have BK262:=n0_;have HB:=n1_;clear n0_ n1_;(try clear hb);have hcz9_0 : w8.cell? ⟨gb262,0,none⟩ = some (.int .i64 a1_0):=(blk_cell BK262.out 0).trans rfl;have hcz9_1 : w8.cell? ⟨gb262,1,none⟩ = some (.slice A1_1 l1_1.length c1_1):=(blk_cell BK262.out 1).trans rfl;have hfz9_0:=blk_frozen BK262.out 0;have hfz9_1:=blk_frozen BK262.out 1)|((with_reducible refine gate_callee (f:=43) rfl ?_);refine goesL_ (some 15) rfl rfl Try.func43 (by kernel_rfl) rfl #[.int .i64 a0,.int .i64 a1_0] rfl (by (try simp only [List.map_toArray,List.map_cons,List.map_nil]);first|done|rfl|(simp only [List.length_drop,List.length_take];rfl)) ?_;(with_reducible refine (tabs_Lsf.calls k a0 a1_0 t264 _ A5.out).mono ?_);rintro e w10 ⟨v265,rfl,ho0,hb⟩;refine ⟨_,rfl,?_⟩;have n0_:=ak_ (Kd.R_lower ho0 (below_size (by repeat (first|(with_reducible first|exact HB.out|apply ba_|apply bb_|apply bc_|refine below_set ?_ GE262.out)|exact HB.out))));have n1_:=ak_ (blk_below (g:=gb262) (o:=.cells #[.int .i64 a1_0,.slice A1_1 l1_1.length c1_1] 46 (0,0)) (by (with_reducible repeat (first|refine blk_drewN ?_ _|refine blk_drew ?_|refine blk_alloc ?_ _));exact BK262.out) hb);have n2_:=ak_ (below_step (by repeat (first|(with_reducible first|exact HB.out|apply ba_|apply bb_|apply bc_|refine below_set ?_ GE262.out)|exact HB.out)) hb);clear BK262;clear HB;have HO266:=n0_;have BK262:=n1_;have HB:=n2_;clear n0_ n1_ n2_;(try clear hb);(try clear ho0);obtain ⟨Ao11,co11,eo11⟩:=Kd.R_slice HO266.out;subst eo11))
  go_loopg [18] k (fun kq v18 w' => ∃ (x6_1 : List Int) (x18_1 : Int),v18 = .int .i64 x18_1 ∧ Aside0 (lsf_Decode.l0 kq a0 x6_1 (t264.length : Int) x18_1 a1_0 l1_1 = some (r1,r2)) ∧ Aside0 (kq ≤ k) ∧ Aside0 (Kd.R (Kd.int .i64) 2 w' w.heap.size (fun _ => True) (.slice Ao11 t264.length co11) x6_1) ∧ Aside0 (w'.heap[gb262]? = some (.cells #[.int .i64 a1_0,(.slice A1_1 l1_1.length c1_1)] 46 (0,0))) ∧ Aside0 (Below w.heap.size w w'))
  case atStart => exact ⟨(t264),(0),(by first|rfl|(simp;done)|(simp [*];done)),H',⟨Nat.le_refl _⟩,⟨by (with_reducible repeat (first|apply ra_|apply rb_|apply rc_));exact HO266.out⟩,⟨by (with_reducible repeat (first|refine blk_drewN ?_ _|refine blk_drew ?_|refine blk_alloc ?_ _));exact BK262.out⟩,⟨by repeat (first|(with_reducible first|exact HB.out|apply ba_|apply bb_|apply bc_|refine below_set ?_ GE262.out)|exact HB.out)⟩⟩
  case round =>
   clear H'
   try clear c1
   try clear c2
   try clear p2
   try clear c4
   try clear hcz7_0
   try clear hcz7_1
   try clear hcz9_0
   try clear hcz9_1
   try clear hfz7_0
   try clear hfz7_1
   try clear hfz9_0
   try clear hfz9_1
   obtain ⟨x6_1,x18_1,rfl,HA,HK1,HO_6,BK262,HB⟩:=hrel
   (try simp only [i64_w,i32_w])
   have hl6_1:=(Kd.R_reads' HO_6.out).1
   rw [hl6_1] at HO_6
   (try simp only [hl6_1])
   (try simp only [hl6_1] at BK262)
   cases gk with
   | zero => exact absurd HA.out (by simp [lsf_Decode.l0])
   | succ k1 =>
    have H:=HA.out
    clear HA
    simp only [lsf_Decode.l0] at H
    by_cases c12 : x18_1 < (t264.length : Int)
    ·rw [if_pos c12] at H
     have c12b0:=decide_eq_true c12
     (try (have c12h0:=c12b0;simp only [hl6_1] at c12h0))
     clear c12
     by_cases c13 : 0 ≤ x18_1
     ·rw [if_pos c13] at H
      have c13b0:=decide_eq_true c13
      (try (have c13h0:=c13b0;simp only [hl6_1] at c13h0))
      clear c13
      by_cases c14 : x18_1 < (x6_1.length : Int)
      ·rw [if_pos c14] at H
       have c14b0:=decide_eq_true c14
       (try (have c14h0:=c14b0;simp only [hl6_1] at c14h0))
       clear c14
       replace H:=Option.bind_eq_some_iff.mp H
       obtain ⟨t268,A150,H⟩:=H
       (try dsimp only at H)
       have A15:=ak_ A150
       clear A150
       by_cases c16 : x18_1 < (l1_1.length : Int)
       ·rw [if_pos c16] at H
        have c16b0:=decide_eq_true c16
        (try (have c16h0:=c16b0;simp only [hl6_1] at c16h0))
        clear c16
        obtain ⟨y270,hy270⟩ : ∃ y_ : List Int,y_ = (x6_1.set (x18_1 : Int).toNat (wrap64 ((rd x6_1 x18_1) + (wrap64 (t268 * (rd l1_1 x18_1)))))):=⟨_,rfl⟩
        replace H : (lsf_Decode.l0 k1 a0 y270 (t264.length : Int) (wrap64 (x18_1 + 1)) a1_0 l1_1) = some (r1,r2):=by first|(rw [hy270];with_reducible exact H)|(have H2_:=(Option.bind_some _ _).symm.trans H;rw [hy270];with_reducible exact H2_)|(have H2_:=(Option.bind_some _ _).symm.trans H;with_reducible exact H2_)|with_reducible exact H|(rw [hy270];exact H)|exact H
        have Ny270:=ak_ hy270
        clear hy270
        have H':=ak_ H
        clear H
        try go_wp2
        have n0_:=ak_ (Kd.R_drew HO_6.out)
        have n1_:=ak_ (blk_drew BK262.out)
        have n2_:=ak_ (below_drew1 HB.out)
        clear HO_6
        clear BK262
        clear HB
        have HO_6:=n0_
        have BK262:=n1_
        have HB:=n2_
        clear n0_ n1_ n2_
        have p267 : 0 ≤ (x18_1 : Int):=of_decide_eq_true (by first|(with_reducible assumption)|assumption)
        have q267 : x18_1 < (x6_1.length : Int):=of_decide_eq_true (by first|(with_reducible assumption)|assumption)
        obtain ⟨ad267,e267,hx267_0⟩:=Kd.at_int (Kd.R_reads' HO_6.out).2.2 x18_1 p267 q267
        cases e267
        replace p267:=eq_true p267
        replace q267:=eq_true q267
        have p269 : 0 ≤ (x18_1 : Int):=of_decide_eq_true (by first|(with_reducible assumption)|assumption)
        have q269 : x18_1 < (l1_1.length : Int):=of_decide_eq_true (by first|(with_reducible assumption)|assumption)
        obtain ⟨ad269,e269,hx269_0⟩:=Kd.at_int HR1_1.out x18_1 p269 q269
        have hw269_0:=hx269_0
        cases e269
        replace hx269_0:=(HB.out.cell (World.block_lt_of_cell? w _ hx269_0)).trans hx269_0
        replace p269:=eq_true p269
        replace q269:=eq_true q269
        refine start_ (n:=15) (S:=fun w' => w'.cell? ⟨gb262,0,none⟩ = some (.int .i64 a1_0) ∧ w'.cell? ⟨gb262,1,none⟩ = some (.slice (some ad269) l1_1.length c1_1) ∧ w'.cell? (ad267.add (x18_1).toNat) = some (.int .i64 (rd x6_1 x18_1)) ∧ w'.cell? (ad269.add (x18_1).toNat) = some (.int .i64 (rd l1_1 x18_1))) (ds:=[14]) #[false,false,false,false,false,false,false,false,false,false,false,false,false,false,false] (by kernel_rfl) rfl rfl ⟨(blk_cell BK262.out 0).trans rfl,(blk_cell BK262.out 1).trans rfl,hx267_0,((HB.out.cell (World.block_lt_of_cell? w _ hw269_0)).trans hw269_0)⟩ (fun hHeld => ?_);refine with_tabW lsf_Decode.tab7 lsf_Decode.bits7 (fun HT_ HW_ => ?_)
        generalize wr.drew = w18 at HO_6 BK262 HB hx267_0 hx269_0 hHeld ⊢
        refine pure_ (i:=0) (N:=some 21) (v:=?_) (a':=?_) #[true,false,false,false,false,false,false,false,false,false,false,false,false,false,false] rfl rfl (any_of HT_.out (by kernel_rfl)) (fun _ _ _ h => h) (Or.inl ⟨by rfl,?_⟩) ?_ ?_
        rotate_left
        ·intro w'
         go_simp
         with_reducible rfl
        rotate_left
        ·simp only [Act.put,List.setIfInBounds_toArray,List.set_cons_zero,List.set_cons_succ,i64_w,i32_w]
         rfl
        refine pure_ (i:=1) (N:=some 22) (v:=?_) (a':=?_) #[true,true,false,false,false,false,false,false,false,false,false,false,false,false,false] rfl rfl (any_of HT_.out (by kernel_rfl)) (fun _ _ _ h => h) (Or.inl ⟨by rfl,?_⟩) ?_ ?_
        rotate_left
        ·intro w'
         go_simp
         with_reducible rfl
        rotate_left
        ·simp only [Act.put,List.setIfInBounds_toArray,List.set_cons_zero,List.set_cons_succ,i64_w,i32_w]
         rfl
        refine pure_ (i:=2) (N:=some 23) (v:=?_) (a':=?_) #[true,true,true,false,false,false,false,false,false,false,false,false,false,false,false] rfl rfl (any_of HT_.out (by kernel_rfl)) (fun _ _ _ h => h) (Or.inl ⟨by rfl,?_⟩) ?_ ?_
        rotate_left
        ·intro w'
         go_simp
         with_reducible rfl
        rotate_left
        ·simp only [Act.put,List.setIfInBounds_toArray,List.set_cons_zero,List.set_cons_succ,i64_w,i32_w]
         rfl
        refine pure_ (i:=4) (N:=some 25) (v:=?_) (a':=?_) #[true,true,true,false,true,false,false,false,false,false,false,false,false,false,false] rfl rfl (any_of HT_.out (by kernel_rfl)) (fun _ _ _ h => h) (Or.inl ⟨by rfl,?_⟩) ?_ ?_
        rotate_left
        ·intro w'
         go_simp
         with_reducible rfl
        rotate_left
        ·simp only [Act.put,List.setIfInBounds_toArray,List.set_cons_zero,List.set_cons_succ,i64_w,i32_w]
         rfl
        refine pure_ (i:=6) (N:=some 27) (v:=?_) (a':=?_) #[true,true,true,false,true,false,true,false,false,false,false,false,false,false,false] rfl rfl (any_of HT_.out (by kernel_rfl)) (fun _ _ _ h => h) (Or.inl ⟨by rfl,?_⟩) ?_ ?_
        rotate_left
        ·intro w'
         go_simp
         with_reducible rfl
        rotate_left
        ·simp only [Act.put,List.setIfInBounds_toArray,List.set_cons_zero,List.set_cons_succ,i64_w,i32_w]
         rfl
        refine pure_ (i:=8) (N:=some 29) (v:=?_) (a':=?_) #[true,true,true,false,true,false,true,false,true,false,false,false,false,false,false] rfl rfl (any_of HT_.out (by kernel_rfl)) (fun _ _ _ h => h) (Or.inl ⟨by rfl,?_⟩) ?_ ?_
        rotate_left
        ·intro w'
         go_simp
         with_reducible rfl
        rotate_left
        ·simp only [Act.put,List.setIfInBounds_toArray,List.set_cons_zero,List.set_cons_succ,i64_w,i32_w]
         rfl
        refine take_ (i:=3) (N:=some 24) (v:=?_) (a':=?_) #[true,true,true,true,true,false,true,false,true,false,false,false,false,false,false] rfl rfl (take_ofW HT_.out HW_.out (by kernel_rfl)) (fun _ _ _ h => h) (Or.inl ⟨by rfl,?_⟩) hHeld ?_ ?_
        rotate_left
        ·rintro w' ⟨s0,s1,s2,s3⟩
         go_simp
         with_reducible rfl
        rotate_left
        ·simp only [Act.put,List.setIfInBounds_toArray,List.set_cons_zero,List.set_cons_succ,i64_w,i32_w]
         rfl
        refine take_ (i:=7) (N:=some 28) (v:=?_) (a':=?_) #[true,true,true,true,true,false,true,true,true,false,false,false,false,false,false] rfl rfl (take_ofW HT_.out HW_.out (by kernel_rfl)) (fun _ _ _ h => h) (Or.inl ⟨by rfl,?_⟩) hHeld ?_ ?_
        rotate_left
        ·rintro w' ⟨s0,s1,s2,s3⟩
         go_simp
         with_reducible rfl
        rotate_left
        ·simp only [Act.put,List.setIfInBounds_toArray,List.set_cons_zero,List.set_cons_succ,i64_w,i32_w]
         rfl
        refine pure_ (i:=9) (N:=some 30) (v:=?_) (a':=?_) #[true,true,true,true,true,false,true,true,true,true,false,false,false,false,false] rfl rfl (any_of HT_.out (by kernel_rfl)) (fun _ _ _ h => h) (Or.inl ⟨by rfl,?_⟩) ?_ ?_
        rotate_left
        ·intro w'
         go_simp
         with_reducible rfl
        rotate_left
        ·simp only [Act.put,List.setIfInBounds_toArray,List.set_cons_zero,List.set_cons_succ,i64_w,i32_w]
         rfl
        refine take_ (i:=10) (N:=some 31) (v:=?_) (a':=?_) #[true,true,true,true,true,false,true,true,true,true,true,false,false,false,false] rfl rfl (take_ofW HT_.out HW_.out (by kernel_rfl)) (fun _ _ _ h => h) (Or.inl ⟨by rfl,?_⟩) hHeld ?_ ?_
        rotate_left
        ·rintro w' ⟨s0,s1,s2,s3⟩
         go_simp
         with_reducible rfl
        rotate_left
        ·simp only [Act.put,List.setIfInBounds_toArray,List.set_cons_zero,List.set_cons_succ,i64_w,i32_w]
         rfl
        refine one_ (i:=5) (N:=some 26) #[true,true,true,true,true,true,true,true,true,true,true,false,false,false,false] rfl rfl (one_of HT_.out (by kernel_rfl)) (by decide) (fun K hK => ?_)
        refine goes_ Try.func44 (by kernel_rfl) rfl #[.int .i64 a0] (by rfl) rfl rfl (by (try simp only [List.map_toArray,List.map_cons,List.map_nil]);first|done|rfl|(simp only [List.length_drop,List.length_take];rfl)) ?_
        with_reducible refine (lsf_unit.calls a0 t268 _ A15.out).mono ?_
        rintro e w' ⟨rfl,⟨nd,rfl⟩⟩
        refine ⟨_,rfl,?_⟩
        have p17 : 0 ≤ (x18_1 : Int):=of_decide_eq_true (by first|(with_reducible assumption)|assumption)
        have q17 : (x18_1 : Int) < ((x6_1.length : Int) : Int):=of_decide_eq_true (by first|(with_reducible assumption)|assumption)
        obtain ⟨go17,co17,eo17,gb17,gl17,cl17,HG17⟩:=Kd.R_form HO_6.out (by omega)
        (first|cases eo17|(injection eo17 with ea_ en_ ec_;(first|subst ea_|(injection ea_ with ea_;subst ea_));subst ec_;clear en_))
        have GB17:=ak_ gb17
        have GG17:=ak_ HG17
        clear gb17 gl17 HG17
        (first|simp only [add_plain] at hx267_0|skip)
        obtain ⟨hx17_0,hf17_0⟩:=Kd.R_celln 0 HO_6.out (x18_1 : Int) p17 q17
        replace p17:=eq_true p17
        replace q17:=eq_true q17
        have HP19:=Kd.R_putn HO_6.out (x18_1 : Int) (wrap64 ((rd x6_1 x18_1) + (wrap64 (t268 * (rd l1_1 x18_1)))))
        rw [← Ny270.out] at HP19
        have HQ19:=ak_ HP19
        clear HP19
        refine hK.out _ _ ⟨(blk_cell BK262.out 0).trans rfl,(blk_cell BK262.out 1).trans rfl,hHeld.2.2.1,((HB.out.cell (World.block_lt_of_cell? w _ hw269_0)).trans hw269_0)⟩ (fun hHeld => ?_)
        clear hK K
        refine norm_ (a':=?_) ?_ ?_
        rotate_left
        ·show Act.put _ (some 26) _ = _
         simp only [Act.put,List.setIfInBounds_toArray,List.set_cons_zero,List.set_cons_succ,i64_w,i32_w]
         rfl
        refine pure_ (i:=11) (N:=some 32) (v:=?_) (a':=?_) #[true,true,true,true,true,true,true,true,true,true,true,true,false,false,false] rfl rfl (any_of HT_.out (by kernel_rfl)) (fun _ _ _ h => h) (Or.inl ⟨by rfl,?_⟩) ?_ ?_
        rotate_left
        ·intro w'
         go_simp
         with_reducible rfl
        rotate_left
        ·simp only [Act.put,List.setIfInBounds_toArray,List.set_cons_zero,List.set_cons_succ,i64_w,i32_w]
         rfl
        refine pure_ (i:=12) (N:=some 33) (v:=?_) (a':=?_) #[true,true,true,true,true,true,true,true,true,true,true,true,true,false,false] rfl rfl (any_of HT_.out (by kernel_rfl)) (fun _ _ _ h => h) (Or.inl ⟨by rfl,?_⟩) ?_ ?_
        rotate_left
        ·intro w'
         go_simp
         with_reducible rfl
        rotate_left
        ·simp only [Act.put,List.setIfInBounds_toArray,List.set_cons_zero,List.set_cons_succ,i64_w,i32_w]
         rfl
        refine pure_ (i:=13) (N:=some 34) (v:=?_) (a':=?_) #[true,true,true,true,true,true,true,true,true,true,true,true,true,true,false] rfl rfl (any_of HT_.out (by kernel_rfl)) (fun _ _ _ h => h) (Or.inl ⟨by rfl,?_⟩) ?_ ?_
        rotate_left
        ·intro w'
         go_simp
         with_reducible rfl
        rotate_left
        ·simp only [Act.put,List.setIfInBounds_toArray,List.set_cons_zero,List.set_cons_succ,i64_w,i32_w]
         rfl
        refine last_ (i:=14) (N:=none) #[true,true,true,true,true,true,true,true,true,true,true,true,true,true,true] rfl rfl (one_of HT_.out (by kernel_rfl)) (by decide) (fun K hK => ?_)
        refine skip_ (w1:=?_) (by rfl) rfl ?_ ?_
        rotate_left
        ·go_simp
         rfl
        refine hK.out _ _ ?_
        clear hK K
        refine done_ (done_of HT_.out (by kernel_rfl)) ?_
        try go_wp2
        (try simp only [← hl6_1])
        go_roundg k1
        case measure => have:=HK1.out;omega
        case rel => exact ⟨(y270),(wrap64 (x18_1 + 1)),(by first|rfl|(simp;done)|(simp [*];done)),H',⟨by have:=HK1.out;omega⟩,⟨by (try simp only [hl6_1]);(with_reducible repeat (first|apply ra_|apply rb_|apply rc_));exact HQ19.out⟩,⟨by (try simp only [hl6_1]);(with_reducible repeat (first|refine blk_drewN ?_ _|refine blk_drew ?_|refine blk_alloc ?_ _));refine blk_far ?_ (by have h_:=Kd.R_ne HO_6.out BK262.out (by decide);intro e_;exact h_ (by rw [e_];rfl)) _;(with_reducible repeat (first|refine blk_drewN ?_ _|refine blk_drew ?_|refine blk_alloc ?_ _));exact BK262.out⟩,⟨by repeat (first|(with_reducible first|exact HB.out|apply ba_|apply bb_|apply bc_|refine below_set ?_ GB17.out|refine below_set ?_ GE262.out)|exact HB.out)⟩⟩
       ·rw [if_neg c16] at H
        exact absurd H (by simp)
      ·rw [if_neg c14] at H
       exact absurd H (by simp)
     ·rw [if_neg c13] at H
      exact absurd H (by simp)
    ·rw [if_neg c12] at H
     have c12b0:=decide_eq_false c12
     (try (have c12h0:=c12b0;simp only [hl6_1] at c12h0))
     clear c12
     replace H:=Option.bind_eq_some_iff.mp H
     obtain ⟨t271,A200,H⟩:=H
     (try dsimp only at H)
     have A20:=ak_ A200
     clear A200
     simp only [Option.some.injEq,Prod.mk.injEq] at H
     obtain ⟨rfl,rfl⟩:=H
     go_wp2_with (first|((with_reducible refine gate_callee (f:=45) rfl ?_);refine goesL_ (some 37) rfl rfl Try.func45 (by kernel_rfl) rfl #[.slice Ao11 x6_1.length co11] rfl (by (try simp only [List.map_toArray,List.map_cons,List.map_nil]);first|done|rfl|(simp only [List.length_drop,List.length_take];rfl)) ?_;(with_reducible refine (lsf_Steady.calls k1 _ _ x6_1 t271 _ ?side1 ?side2 A20.out).mono ?_);(case side1 => repeat (first|exact (Kd.R_reads' HO_6.out).2.2|(with_reducible refine Kd.C_alloc ?_ _)|(with_reducible refine Kd.C_drewN ?_ _)|(with_reducible refine Kd.C_drew ?_)));(case side2 => exact (Kd.R_reads' HO_6.out).2.1);rintro e w21 ⟨v272,rfl,ho0,hb⟩;refine ⟨_,rfl,?_⟩;have n0_:=ak_ (Kd.R_elder' (by (with_reducible repeat (first|apply ra_|apply rb_|apply rc_));exact HO_6.out) (Kd.R_base ho0) hb);have n1_:=ak_ (Kd.R_lower (Kd.R_new' ho0 (Kd.R_lt (by (with_reducible repeat (first|apply ra_|apply rb_|apply rc_));exact HO_6.out))) (below_size (by repeat (first|(with_reducible first|exact HB.out|apply ba_|apply bb_|apply bc_|refine below_set ?_ GE262.out)|exact HB.out))));have n2_:=ak_ (blk_below (g:=gb262) (o:=.cells #[.int .i64 a1_0,.slice A1_1 l1_1.length c1_1] 46 (0,0)) (by (with_reducible repeat (first|refine blk_drewN ?_ _|refine blk_drew ?_|refine blk_alloc ?_ _));exact BK262.out) hb);have n3_:=ak_ (below_step (by repeat (first|(with_reducible first|exact HB.out|apply ba_|apply bb_|apply bc_|refine below_set ?_ GE262.out)|exact HB.out)) hb);clear HO_6;clear BK262;clear HB;have HO_6:=n0_;have HO273:=n1_;have BK262:=n2_;have HB:=n3_;clear n0_ n1_ n2_ n3_;(try clear hb);(try clear ho0)))
     go_ret2
     exact ⟨_,by first|rfl|(simp [errW_none,errW_some] <;> rfl)|(simp [*,errW_none,errW_some] <;> rfl),by (with_reducible repeat (first|apply ra_|apply rb_|apply rc_));exact Kd.R_mono HO273.out (fun _ hk => trivial),by repeat (first|(with_reducible first|exact HB.out|apply ba_|apply bb_|apply bc_|refine below_set ?_ GE262.out)|exact HB.out)⟩
 ·replace c4:=Bool.eq_false_iff.mpr c4
  subst c4
  have H1 : (some (([] : List Int),1)) = some (r1,r2):=by rw [if_neg (show ¬ (false = true) by decide)] at H;exact H
  clear H
  have H:=H1
  clear H1
  simp only [Option.some.injEq,Prod.mk.injEq] at H
  obtain ⟨rfl,rfl⟩:=H
  go_enter Try.func29,Try.ntmps29
  go_wp2_with (first|((with_reducible refine gate_dst (N:=3) rfl ?_);refine box_event ?hg (N:=3) ?hd (cs:=#[.int .i64 a1_0,.slice A1_1 l1_1.length c1_1]) (t:=46) ?hr ?_;(case hd => rfl);(case hg => rfl);(case hr => first|(go_simp;done)|(go_simp;rfl));intro gb262 hg w22 hbox hb;have n0_:=ak_ (below_step (by repeat (first|(with_reducible first|exact HB.out|apply ba_|apply bb_|apply bc_)|exact HB.out)) hb);have n1_:=ak_ (hbox);have n2_:=ak_ ((by rw [hg];exact (below_size (by repeat (first|(with_reducible first|exact HB.out|apply ba_|apply bb_|apply bc_)|exact HB.out))) : w.heap.size ≤ gb262));have n3_:=ak_ ((by rw [hg];exact (below_size (by repeat (first|(with_reducible first|exact HB.out|apply ba_|apply bb_|apply bc_)|exact HB.out))) : w.heap.size ≤ gb262));clear HB;have HB:=n0_;have BK262:=n1_;have GW262:=n2_;have GE262:=n3_;clear n0_ n1_ n2_ n3_;clear hb hbox hg;have hcz23_0 : w22.cell? ⟨gb262,0,none⟩ = some (.int .i64 a1_0):=(blk_cell BK262.out 0).trans rfl;have hcz23_1 : w22.cell? ⟨gb262,1,none⟩ = some (.slice A1_1 l1_1.length c1_1):=(blk_cell BK262.out 1).trans rfl;have hfz23_0:=blk_frozen BK262.out 0;have hfz23_1:=blk_frozen BK262.out 1)|((with_reducible refine gate_callee (f:=42) rfl ?_);refine goesL_ (some 10) rfl rfl Try.func42 (by kernel_rfl) rfl #[.int .i64 a0,.agg #[.int .i64 a1_0,.slice A1_1 l1_1.length c1_1]] rfl (by (try simp only [List.map_toArray,List.map_cons,List.map_nil]);first|done|rfl|(simp only [List.length_drop,List.length_take];rfl)) ?_;(with_reducible refine (lsf_Good.calls k a0 a1_0 _ _ l1_1 false _ ?side1 ?side2 A3.out).mono ?_);(case side1 => repeat (first|exact (Kd.C_below HR1_1.out HB.out)|(with_reducible refine Kd.C_alloc ?_ _)|(with_reducible refine Kd.C_drewN ?_ _)|(with_reducible refine Kd.C_drew ?_)));(case side2 => exact HC1_1.out);rintro e w24 ⟨rfl,hb⟩;refine ⟨_,rfl,?_⟩;have n0_:=ak_ (blk_below (g:=gb262) (o:=.cells #[.int .i64 a1_0,.slice A1_1 l1_1.length c1_1] 46 (0,0)) (by (with_reducible repeat (first|refine blk_drewN ?_ _|refine blk_drew ?_|refine blk_alloc ?_ _));exact BK262.out) hb);have n1_:=ak_ (below_step (by repeat (first|(with_reducible first|exact HB.out|apply ba_|apply bb_|apply bc_|refine below_set ?_ GE262.out)|exact HB.out)) hb);clear BK262;clear HB;have BK262:=n0_;have HB:=n1_;clear n0_ n1_;(try clear hb)))
  go_ret2
  exact ⟨_,by first|rfl|(simp [errW_none,errW_some] <;> rfl)|(simp [*,errW_none,errW_some] <;> rfl),by first|exact Kd.R_nil _ _ _ _ _|exact Kd.N_nil _ _ _ _ _|exact Kd.V_nil _ _ _ _ _|exact Kd.Q_nil _ _ _ _ _|exact Kd.S_nil _ _ _ _ _,by repeat (first|(with_reducible first|exact HB.out|apply ba_|apply bb_|apply bc_|refine below_set ?_ GE262.out)|exact HB.out)⟩

end Go.Proofs.Ytllglpcpjeggcaa.P
