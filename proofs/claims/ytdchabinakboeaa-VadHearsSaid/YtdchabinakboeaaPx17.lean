/- The machine side of the laws of one chapter, without conditions: each call of a Go function comes to what the Lean function of its name answers. Written for this claim by a program of the prover. -/
import Derived.Test.YtdchabinakboeaaPx0
import Derived.Test.YtdchabinakboeaaPx5
import Derived.Test.YtdchabinakboeaaPx6
import Derived.Test.YtdchabinakboeaaPx7
import Derived.Test.YtdchabinakboeaaPx8
import Derived.Test.YtdchabinakboeaaPx9
import Derived.Test.YtdchabinakboeaaPx10
import Derived.Test.YtdchabinakboeaaPx15
import Derived.Test.YtdchabinakboeaaPx16
namespace Go.Proofs.Ytdchabinakboeaa.P
open Go.RowKit Go.Proofs.YtdchabinakboeaaW.PrintWords Go.Proofs.YtdchabinakboeaaW.PrintLast Go.Proofs.YtdchabinakboeaaW.PrintMore
attribute [local go_sem] max2_int min2_int max_two min_two max_three min_three max_four min_four   -- for this text's walks alone
set_option linter.unusedVariables false
set_option linter.unusedSimpArgs false

/-! ### madrigallaw13_VadHears: function 4 -/
mutual
def madrigallaw13_VadHears.l0 : Nat → List (List Int) → List Bool → Int → Int → Int → Int → Int → Option (Bool)
 | 0,_,_,_,_,_,_,_ => none
 | k + 1,x0,x5,x6,x206000,x206001,x207000,x207001 => if x6 < (x0.length : Int) then (if 0 ≤ x6 then (if ((rd_L1 x0 x6).length : Int) > 1000 then (madrigallaw13_VadHears.j1 k x0 x5 x6 true x206000 x206001 x207000 x207001) else ((vad_Level.f k (rd_L1 x0 x6)).bind fun t209 => ((madrigalref6_Level.f k (rd_L1 x0 x6)).bind fun t211 => (madrigallaw13_VadHears.j1 k x0 x5 x6 (t209 != t211) x206000 x206001 x207000 x207001)))) else (none)) else ((vad_New.f).bind fun bt233 => ((vad_Meter_Each.f k bt233.1 bt233.2 x0).bind fun bt236 => (if (bt236.1.length : Int) = (x5.length : Int) then (madrigallaw13_VadHears.l1 k x5 bt236.1 0) else (none))))
def madrigallaw13_VadHears.j1 : Nat → List (List Int) → List Bool → Int → Bool → Int → Int → Int → Int → Option (Bool)
 | 0,_,_,_,_,_,_,_,_ => none
 | k + 1,x0,x5,x6,x41,x206000,x206001,x207000,x207001 => if x41 = true then (if 0 ≤ x6 then (if x6 < (x0.length : Int) then (some (decide (((rd_L1 x0 x6).length : Int) > 1000))) else (none)) else (none)) else (if 0 ≤ x6 then (if x6 < (x0.length : Int) then ((madrigalref6_Meter_Step.f k x207000 x207001 (rd_L1 x0 x6)).bind fun bt214 => (if x5.length < 140737488355328 then ((some (([] : List Int) : List Int)).bind fun y220 => (if y220.length + (rd_L1 x0 x6).length < 17592186044416 then ((vad_Meter_Step.f k x206000 x206001 (y220 ++ (rd_L1 x0 x6))).bind fun bt227 => (if (bt227.1 != bt214.1) = true then (none) else ((vad_Meter_Floor.f bt227.2.1 bt227.2.2).bind fun bt230 => (if bt230.1 = bt214.2.1 then (madrigallaw13_VadHears.l0 k x0 (x5 ++ [bt214.1]) (wrap64 (x6 + 1)) bt230.2.1 bt230.2.2 bt214.2.1 bt214.2.2) else (none))))) else (none))) else (none))) else (none)) else (none))
def madrigallaw13_VadHears.l1 : Nat → List Bool → List Bool → Int → Option (Bool)
 | 0,_,_,_ => none
 | k + 1,x5,x8,x9 => if x9 < (x8.length : Int) then (if 0 ≤ x9 then (if x9 < (x5.length : Int) then (if ((rdOf false x8 x9) != (rdOf false x5 x9)) = true then (none) else (madrigallaw13_VadHears.l1 k x5 x8 (wrap64 (x9 + 1)))) else (none)) else (none)) else (some true)
end
def madrigallaw13_VadHears.f (k : Nat) (l0 : List (List Int)) : Option (Bool):=(madrigallaw13_awake.f k).bind fun t202 => (if t202 = true then (if (l0.length : Int) > 60 then (some true) else ((vad_New.f).bind fun bt203 => (madrigallaw13_VadHears.l0 k l0 ([] : List Bool) 0 bt203.1 bt203.2 (-1) 0))) else (none))
theorem madrigallaw13_VadHears.mono_l : ∀ k,(∀ y0 y1 y2 y3 y4 y5 y6,LeO (madrigallaw13_VadHears.l0 k y0 y1 y2 y3 y4 y5 y6) (madrigallaw13_VadHears.l0 (k + 1) y0 y1 y2 y3 y4 y5 y6)) ∧ (∀ y0 y1 y2 y3 y4 y5 y6 y7,LeO (madrigallaw13_VadHears.j1 k y0 y1 y2 y3 y4 y5 y6 y7) (madrigallaw13_VadHears.j1 (k + 1) y0 y1 y2 y3 y4 y5 y6 y7)) ∧ (∀ y0 y1 y2,LeO (madrigallaw13_VadHears.l1 k y0 y1 y2) (madrigallaw13_VadHears.l1 (k + 1) y0 y1 y2))
 | 0 => ⟨fun _ _ _ _ _ _ _ r h => by simp [madrigallaw13_VadHears.l0] at h,fun _ _ _ _ _ _ _ _ r h => by simp [madrigallaw13_VadHears.j1] at h,fun _ _ _ r h => by simp [madrigallaw13_VadHears.l1] at h⟩
 | k + 1 => by
  obtain ⟨ih0,ih1,ih2⟩:=madrigallaw13_VadHears.mono_l k
  refine ⟨?_,?_,?_⟩
  all_goals (intros;first|unfold madrigallaw13_VadHears.l0|unfold madrigallaw13_VadHears.j1|unfold madrigallaw13_VadHears.l1)
  all_goals (repeat' first|(with_reducible first|exact ih0 _ _ _ _ _ _ _|exact ih1 _ _ _ _ _ _ _ _|exact ih2 _ _ _|exact madrigallaw13_awake.mono _|exact madrigalref6_Level.mono _ _|exact madrigalref6_Meter_Step.mono _ _ _ _|exact vad_Level.mono _ _|exact vad_Meter_Each.mono _ _ _ _|exact vad_Meter_Step.mono _ _ _ _|exact LeO.refl _|exact LeO.none _|refine LeO.ite ?_ ?_|refine LeO.bind ?_ (fun _ => ?_))|exact ih0 _ _ _ _ _ _ _|exact ih1 _ _ _ _ _ _ _ _|exact ih2 _ _ _|exact madrigallaw13_awake.mono _|exact madrigalref6_Level.mono _ _|exact madrigalref6_Meter_Step.mono _ _ _ _|exact vad_Level.mono _ _|exact vad_Meter_Each.mono _ _ _ _|exact vad_Meter_Step.mono _ _ _ _|exact LeO.none _|refine LeO.ite ?_ ?_|refine LeO.bind ?_ (fun _ => ?_))
theorem madrigallaw13_VadHears.mono : ∀ a0 k,LeO (madrigallaw13_VadHears.f k a0) (madrigallaw13_VadHears.f (k + 1) a0):=by
 intro a0 k
 obtain ⟨ih0,ih1,ih2⟩:=madrigallaw13_VadHears.mono_l k
 unfold madrigallaw13_VadHears.f
 repeat' first|(with_reducible first|exact ih0 _ _ _ _ _ _ _|exact ih1 _ _ _ _ _ _ _ _|exact ih2 _ _ _|exact madrigallaw13_awake.mono _|exact madrigalref6_Level.mono _ _|exact madrigalref6_Meter_Step.mono _ _ _ _|exact vad_Level.mono _ _|exact vad_Meter_Each.mono _ _ _ _|exact vad_Meter_Step.mono _ _ _ _|exact LeO.refl _|exact LeO.none _|refine LeO.ite ?_ ?_|refine LeO.bind ?_ (fun _ => ?_))|exact ih0 _ _ _ _ _ _ _|exact ih1 _ _ _ _ _ _ _ _|exact ih2 _ _ _|exact madrigallaw13_awake.mono _|exact madrigalref6_Level.mono _ _|exact madrigalref6_Meter_Step.mono _ _ _ _|exact vad_Level.mono _ _|exact vad_Meter_Each.mono _ _ _ _|exact vad_Meter_Step.mono _ _ _ _|exact LeO.none _|refine LeO.ite ?_ ?_|refine LeO.bind ?_ (fun _ => ?_)
def madrigallaw13_VadHears.T11 : Bool × List (List Nat × List Nat):=(true,[([],[]),([],[]),([0,1],[0,1]),([2],[2]),([3],[3]),([4],[4]),([5],[5]),([6],[6]),([6],[6]),([7,8,6],[6,7,8]),([9,6],[6,9]),([10,6,6],[6,10]),([6],[6]),([6],[6]),([12,13,6],[6,12,13]),([14,6],[6,14]),([15,11,6],[6,15]),([11,16,6],[6,11,16]),([6,17],[6,17])])
def madrigallaw13_VadHears.B11 : List Nat:=[0,0,3,7,15,31,63,127,127,511,1023,2047,127,127,12415,28799,65535,131071,262143]
theorem madrigallaw13_VadHears.tab11 : rtab .any (opsOf Try.f4 11) = madrigallaw13_VadHears.T11:=by kernel_rfl
theorem madrigallaw13_VadHears.bits11 : waitsOk madrigallaw13_VadHears.T11.2 madrigallaw13_VadHears.B11 = true:=by kernel_rfl
def madrigallaw13_VadHears.T15 : Bool × List (List Nat × List Nat):=(true,[([],[]),([],[]),([],[]),([],[]),([2,3],[2,3]),([4],[4]),([1,5],[1,5]),([0,6,6],[0,6]),([],[]),([7,8],[7,8]),([9,7],[9]),([10],[10]),([11,10,10],[10,11]),([10],[10]),([13,10],[10,13]),([12,14,10],[10,12,14]),([10,15],[10,15])])
def madrigallaw13_VadHears.B15 : List Nat:=[0,0,0,0,12,28,62,127,0,511,1023,2047,4095,2047,10239,32767,65535]
theorem madrigallaw13_VadHears.tab15 : rtab .any (opsOf Try.f4 15) = madrigallaw13_VadHears.T15:=by kernel_rfl
theorem madrigallaw13_VadHears.bits15 : waitsOk madrigallaw13_VadHears.T15.2 madrigallaw13_VadHears.B15 = true:=by kernel_rfl
def madrigallaw13_VadHears.T23 : Bool × List (List Nat × List Nat):=(true,[([],[]),([],[]),([0,1],[0,1]),([2],[2]),([],[]),([],[]),([4,5],[4,5]),([6],[6]),([3,7],[3,7])])
def madrigallaw13_VadHears.B23 : List Nat:=[0,0,3,7,0,0,48,112,255]
theorem madrigallaw13_VadHears.tab23 : rtab .any (opsOf Try.f4 23) = madrigallaw13_VadHears.T23:=by kernel_rfl
theorem madrigallaw13_VadHears.bits23 : waitsOk madrigallaw13_VadHears.T23.2 madrigallaw13_VadHears.B23 = true:=by kernel_rfl
set_option maxHeartbeats 8000000 in
set_option maxRecDepth 100000 in
theorem madrigallaw13_VadHears.calls (k : Nat) (A0 : Option Addr) (c0 : Nat) (l0 : List (List Int)) (r : Bool) (w : World) (hr0 : Kd.C (Kd.slice 2 (Kd.int .i64)) w A0 l0.length l0) (hc0 : l0.length ≤ c0) (h : madrigallaw13_VadHears.f k l0 = some r) :
  Calls Try.prog 4 #[.slice A0 l0.length c0] w fun e w' => e = .returned (.bool r) ∧ Below w.heap.size w w':=by
 have hu31:=Try.underlying31
 have HR0:=ak_ hr0
 have HC0:=ak_ hc0
 clear hr0 hc0
 have HB:=ak_ (Below.refl w.heap.size w)
 have H : ((madrigallaw13_awake.f k).bind fun t202 => (if t202 = true then (if (l0.length : Int) > 60 then (some true) else ((vad_New.f).bind fun bt203 => (madrigallaw13_VadHears.l0 k l0 ([] : List Bool) 0 bt203.1 bt203.2 (-1) 0))) else (none))) = some r:=h
 clear h
 replace H:=Option.bind_eq_some_iff.mp H
 obtain ⟨t202,A20,H⟩:=H
 (try dsimp only at H)
 have A2:=ak_ A20
 clear A20
 by_cases c3 : t202 = true
 ·subst c3
  have H1 : (if (l0.length : Int) > 60 then (some true) else ((vad_New.f).bind fun bt203 => (madrigallaw13_VadHears.l0 k l0 ([] : List Bool) 0 bt203.1 bt203.2 (-1) 0))) = some r:=by rw [if_pos rfl] at H;exact H
  clear H
  have H:=H1
  clear H1
  by_cases c4 : (l0.length : Int) > 60
  ·rw [if_pos c4] at H
   have c4b0 : decide (60 < (l0.length : Int)) = true:=decide_eq_true c4
   have c4b1 : decide (60 < l0.length) = true:=decide_eq_true (by omega)
   clear c4
   obtain rfl:=Option.some.inj H
   go_enter Try.func4,Try.ntmps4
   go_wp2_with (first|((with_reducible refine gate_callee (f:=14) rfl ?_);refine goesL_ (some 10) rfl rfl Try.func14 (by kernel_rfl) rfl #[] rfl (by (try simp only [List.map_toArray,List.map_cons,List.map_nil]);first|done|rfl|(simp only [List.length_drop,List.length_take];rfl)) ?_;(with_reducible refine (madrigallaw13_awake.calls k  true _ A2.out).mono ?_);rintro e w5 ⟨rfl,hb⟩;refine ⟨_,rfl,?_⟩;have n0_:=ak_ (below_step (by repeat (first|(with_reducible first|exact HB.out|apply ba_|apply bb_|apply bc_)|exact HB.out)) hb);clear HB;have HB:=n0_;clear n0_;(try clear hb)))
   go_ret
   exact ⟨by first|rfl|(simp [errW_none,errW_some] <;> rfl)|(simp [*,errW_none,errW_some] <;> rfl),by repeat (first|(with_reducible first|exact HB.out|apply ba_|apply bb_|apply bc_)|exact HB.out)⟩
  ·rw [if_neg c4] at H
   have c4b0 : decide (60 < (l0.length : Int)) = false:=decide_eq_false c4
   have c4b1 : decide (60 < l0.length) = false:=decide_eq_false (by omega)
   clear c4
   replace H:=Option.bind_eq_some_iff.mp H
   obtain ⟨⟨t203,t204⟩,A60,H⟩:=H
   (try dsimp only at H)
   have A6:=ak_ A60
   clear A60
   have H':=ak_ H
   clear H
   go_enter Try.func4,Try.ntmps4
   go_wp2_with (first|((with_reducible refine gate_callee (f:=14) rfl ?_);refine goesL_ (some 10) rfl rfl Try.func14 (by kernel_rfl) rfl #[] rfl (by (try simp only [List.map_toArray,List.map_cons,List.map_nil]);first|done|rfl|(simp only [List.length_drop,List.length_take];rfl)) ?_;(with_reducible refine (madrigallaw13_awake.calls k  true _ A2.out).mono ?_);rintro e w7 ⟨rfl,hb⟩;refine ⟨_,rfl,?_⟩;have n0_:=ak_ (below_step (by repeat (first|(with_reducible first|exact HB.out|apply ba_|apply bb_|apply bc_)|exact HB.out)) hb);clear HB;have HB:=n0_;clear n0_;(try clear hb))|((with_reducible refine gate_callee (f:=16) rfl ?_);refine goesL_ (some 15) rfl rfl Try.func16 (by kernel_rfl) rfl #[] rfl (by (try simp only [List.map_toArray,List.map_cons,List.map_nil]);first|done|rfl|(simp only [List.length_drop,List.length_take];rfl)) ?_;(with_reducible refine (vad_New.calls  t203 t204 w _ ?side1 A6.out).mono ?_);(case side1 => repeat (first|(with_reducible first|exact HB.out|apply ba_|apply bb_|apply bc_)|exact HB.out));rintro e w8 ⟨g205,rfl,hi,hb,hb2,hge⟩;refine ⟨_,rfl,?_⟩;have n0_:=ak_ (hb);have n1_:=ak_ (hi);clear HB;have HB:=n0_;have HI205:=n1_;clear n0_ n1_;(try clear hb);(try clear hb2);(try clear hi);(try clear hge))|((with_reducible refine gate_dst (N:=4) rfl ?_);refine box_event ?hg (N:=4) ?hd (cs:=#[.int .i64 0,.int .i64 0]) (t:=31) ?hr ?_;(case hd => rfl);(case hg => rfl);(case hr => first|(go_simp;done)|(go_simp;rfl));intro gb206 hg w9 hbox hb;have n0_:=ak_ (IsS62.below (by repeat (first|(with_reducible first|exact HI205.out|apply IsS62.alloc|apply IsS62.drewN|apply IsS62.drew|apply IsS62.set_0|apply IsS62.set_1)|exact HI205.out)) hb);have n1_:=ak_ (below_step (by repeat (first|(with_reducible first|exact HB.out|apply ba_|apply bb_|apply bc_|refine below_set ?_ (IsS62.ge HI205.out))|exact HB.out)) hb);have n2_:=ak_ ((by rw [hg];exact (below_size (by repeat (first|(with_reducible first|exact HB.out|apply ba_|apply bb_|apply bc_|refine below_set ?_ (IsS62.ge HI205.out))|exact HB.out))) : w.heap.size ≤ gb206));have n3_:=ak_ ((by rw [hg];exact (below_size (by repeat (first|(with_reducible first|exact HB.out|apply ba_|apply bb_|apply bc_|refine below_set ?_ (IsS62.ge HI205.out))|exact HB.out))) : w.heap.size ≤ gb206));have n4_:=ak_ ((by rw [hg];exact Nat.ne_of_lt (IsS62.lt (show IsS62 w _ g205 t203 t204 from by repeat (first|(with_reducible first|exact HI205.out|apply IsS62.alloc|apply IsS62.drewN|apply IsS62.drew|apply IsS62.set_0|apply IsS62.set_1)|exact HI205.out))) : g205 ≠ gb206));have n5_:=ak_ ((by rw [hg];exact Nat.ne_of_gt (IsS62.lt (show IsS62 w _ g205 t203 t204 from by repeat (first|(with_reducible first|exact HI205.out|apply IsS62.alloc|apply IsS62.drewN|apply IsS62.drew|apply IsS62.set_0|apply IsS62.set_1)|exact HI205.out))) : gb206 ≠ g205));have n6_:=ak_ ((show IsS31 w w9 gb206 0 0 from ⟨hbox,(by rw [hg];exact (below_size (by repeat (first|(with_reducible first|exact HB.out|apply ba_|apply bb_|apply bc_|refine below_set ?_ (IsS62.ge HI205.out))|exact HB.out))) : w.heap.size ≤ gb206)⟩));have n7_:=ak_ ((by rw [hg];exact Nat.ne_of_gt (IsS62.lt (show IsS62 w _ g205 t203 t204 from by repeat (first|(with_reducible first|exact HI205.out|apply IsS62.alloc|apply IsS62.drewN|apply IsS62.drew|apply IsS62.set_0|apply IsS62.set_1)|exact HI205.out))) : gb206 ≠ g205));clear HI205;clear HB;have HI205:=n0_;have HB:=n1_;have GW206:=n2_;have GE206:=n3_;have NB205_206:=n4_;have NB206_205:=n5_;have HI206:=n6_;have NS206_205:=n7_;clear n0_ n1_ n2_ n3_ n4_ n5_ n6_ n7_;clear hb hbox hg;obtain ⟨HGz10,hgz10⟩:=HI206.out;have hcz10_0:=cellS31_0 HGz10;have hcz10_1:=cellS31_1 HGz10;have hfz10_0:=blk_frozen HGz10 0;have hfz10_1:=blk_frozen HGz10 1;clear HGz10 hgz10))
   go_loopg [5,6] k (fun kq v5 v6 w' => ∃ (x5_1 : List Bool) (x6_1 : Int) (x206000_1 : Int) (x206001_1 : Int) (x207000_1 : Int) (x207001_1 : Int),v6 = .int .i64 x6_1 ∧ Aside0 (madrigallaw13_VadHears.l0 kq l0 x5_1 x6_1 x206000_1 x206001_1 x207000_1 x207001_1 = some r) ∧ Aside0 (kq ≤ k) ∧ Aside0 (Kd.R Kd.bool 4 w' w.heap.size (fun _ => True) v5 x5_1) ∧ Aside0 (IsS62 w w' g205 x206000_1 x206001_1) ∧ Aside0 (IsS31 w w' gb206 x207000_1 x207001_1) ∧ Aside0 (Below w.heap.size w w'))
   case atStart => exact ⟨(([] : List Bool)),(0),(t203),(t204),((-1)),(0),(by first|rfl|(simp;done)|(simp [*];done)),H',⟨Nat.le_refl _⟩,⟨by first|exact Kd.R_nil _ _ _ _ _|exact Kd.N_nil _ _ _ _ _|exact Kd.V_nil _ _ _ _ _|exact Kd.Q_nil _ _ _ _ _|exact Kd.S_nil _ _ _ _ _⟩,⟨by repeat (first|(with_reducible first|exact HI205.out|apply IsS62.alloc|apply IsS62.drewN|apply IsS62.drew|apply IsS62.set_0|apply IsS62.set_1|refine IsS62.far ?_ (Ne.symm NS206_205.out) _)|exact HI205.out)⟩,⟨by repeat (first|(with_reducible first|exact HI206.out|apply IsS31.alloc|apply IsS31.drewN|apply IsS31.drew|apply IsS31.set_0|apply IsS31.set_1)|exact HI206.out)⟩,⟨by repeat (first|(with_reducible first|exact HB.out|apply ba_|apply bb_|apply bc_|refine below_set ?_ (IsS62.ge HI205.out)|refine below_set ?_ (IsS31.ge HI206.out))|exact HB.out)⟩⟩
   case round => as_aux_lemma =>
    clear H'
    try clear c1
    try clear p2
    try clear c3
    try clear c4
    try clear c4b0
    try clear c4b1
    try clear hcz10_0
    try clear hcz10_1
    try clear hfz10_0
    try clear hfz10_1
    obtain ⟨x5_1,x6_1,x206000_1,x206001_1,x207000_1,x207001_1,rfl,HA,HK1,HO_5,HI205,HI206,HB⟩:=hrel
    (try simp only [i64_w,i32_w])
    cases gk with
    | zero => exact absurd HA.out (by simp [madrigallaw13_VadHears.l0])
    | succ k1 =>
     have H:=HA.out
     clear HA
     simp only [madrigallaw13_VadHears.l0] at H
     by_cases c11 : x6_1 < (l0.length : Int)
     ·rw [if_pos c11] at H
      have c11b0:=decide_eq_true c11
      clear c11
      have HC12:=ak_ H
      clear H
      go_upto_region 11 with (fail)
      go_cut [41] (fun v41 wc => ∃ (kq : Nat) (x41_11 : Bool),v41 = .bool x41_11 ∧ Aside0 (madrigallaw13_VadHears.j1 kq l0 x5_1 x6_1 x41_11 x206000_1 x206001_1 x207000_1 x207001_1 = some r) ∧ Aside0 (kq ≤ k1) ∧ Aside0 (Kd.R Kd.bool 4 wc w.heap.size (fun _ => True) u5 x5_1) ∧ Aside0 (IsS62 w wc g205 x206000_1 x206001_1) ∧ Aside0 (IsS31 w wc gb206 x207000_1 x207001_1) ∧ Aside0 (Below w.heap.size w wc))
      case first =>
       have H:=HC12.out
       clear HC12
       by_cases c13 : 0 ≤ x6_1
       ·rw [if_pos c13] at H
        have c13b0:=decide_eq_true c13
        clear c13
        (first|rw [c13b0]|(simp only [i64_w,i32_w];rw [c13b0])|skip)
        by_cases c14 : ((rd_L1 l0 x6_1).length : Int) > 1000
        ·rw [if_pos c14] at H
         have c14b0 : decide (1000 < ((rd_L1 l0 x6_1).length : Int)) = true:=decide_eq_true c14
         have c14b1 : decide (1000 < (rd_L1 l0 x6_1).length) = true:=decide_eq_true (by omega)
         clear c14
         have H':=ak_ H
         clear H
         try go_wp2
         have n0_:=ak_ (Kd.R_drew HO_5.out)
         have n1_:=ak_ (IsS62.drew HI205.out)
         have n2_:=ak_ (IsS31.drew HI206.out)
         have n3_:=ak_ (below_drew1 HB.out)
         clear HO_5
         clear HI205
         clear HI206
         clear HB
         have HO_5:=n0_
         have HI205:=n1_
         have HI206:=n2_
         have HB:=n3_
         clear n0_ n1_ n2_ n3_
         have p207 : 0 ≤ (x6_1 : Int):=of_decide_eq_true (by first|(with_reducible assumption)|assumption)
         have q207 : x6_1 < (l0.length : Int):=of_decide_eq_true (by first|(with_reducible assumption)|assumption)
         obtain ⟨ad207,A207_0,c207_0,e207,hx207_0,hl207_0,hi207_0⟩:=at_L1 HR0.out x6_1 p207 q207
         have hw207_0:=hx207_0
         cases e207
         replace hx207_0:=(HB.out.cell (World.block_lt_of_cell? w _ hx207_0)).trans hx207_0
         have HR207_0:=ak_ hi207_0
         have HC207_0:=ak_ hl207_0
         clear hi207_0 hl207_0
         replace p207:=eq_true p207
         replace q207:=eq_true q207
         refine start_ (n:=19) (S:=fun w' => w'.cell? (ad207.add (x6_1).toNat) = some (.slice A207_0 (rd_L1 l0 x6_1).length c207_0)) (ds:=[]) #[false,false,false,false,false,false,false,false,false,false,false,false,false,false,false,false,false,false,false] (by kernel_rfl) rfl rfl (((HB.out.cell (World.block_lt_of_cell? w _ hw207_0)).trans hw207_0)) (fun hHeld => ?_);refine with_tabW madrigallaw13_VadHears.tab11 madrigallaw13_VadHears.bits11 (fun HT_ HW_ => ?_)
         generalize wr.drew = w15 at HO_5 HI205 HI206 HB HR207_0 hx207_0 hHeld ⊢
         refine pure_ (i:=0) (N:=some 23) (v:=?_) (a':=?_) #[true,false,false,false,false,false,false,false,false,false,false,false,false,false,false,false,false,false,false] rfl rfl (any_of HT_.out (by kernel_rfl)) (fun _ _ _ h => h) (Or.inl ⟨by rfl,?_⟩) ?_ ?_
         rotate_left
         ·intro w'
          go_simp
          with_reducible rfl
         rotate_left
         ·simp only [Act.put,List.setIfInBounds_toArray,List.set_cons_zero,List.set_cons_succ,i64_w,i32_w]
          rfl
         refine pure_ (i:=1) (N:=some 24) (v:=?_) (a':=?_) #[true,true,false,false,false,false,false,false,false,false,false,false,false,false,false,false,false,false,false] rfl rfl (any_of HT_.out (by kernel_rfl)) (fun _ _ _ h => h) (Or.inl ⟨by rfl,?_⟩) ?_ ?_
         rotate_left
         ·intro w'
          go_simp
          with_reducible rfl
         rotate_left
         ·simp only [Act.put,List.setIfInBounds_toArray,List.set_cons_zero,List.set_cons_succ,i64_w,i32_w]
          rfl
         refine pure_ (i:=2) (N:=some 25) (v:=?_) (a':=?_) #[true,true,true,false,false,false,false,false,false,false,false,false,false,false,false,false,false,false,false] rfl rfl (any_of HT_.out (by kernel_rfl)) (fun _ _ _ h => h) (Or.inl ⟨by rfl,?_⟩) ?_ ?_
         rotate_left
         ·intro w'
          go_simp
          with_reducible rfl
         rotate_left
         ·simp only [Act.put,List.setIfInBounds_toArray,List.set_cons_zero,List.set_cons_succ,i64_w,i32_w]
          rfl
         refine take_ (i:=3) (N:=some 26) (v:=?_) (a':=?_) #[true,true,true,true,false,false,false,false,false,false,false,false,false,false,false,false,false,false,false] rfl rfl (take_ofW HT_.out HW_.out (by kernel_rfl)) (fun _ _ _ h => h) (Or.inl ⟨by rfl,?_⟩) hHeld ?_ ?_
         rotate_left
         ·intro w' s0
          go_simp
          with_reducible rfl
         rotate_left
         ·simp only [Act.put,List.setIfInBounds_toArray,List.set_cons_zero,List.set_cons_succ,i64_w,i32_w]
          rfl
         refine pure_ (i:=4) (N:=some 27) (v:=?_) (a':=?_) #[true,true,true,true,true,false,false,false,false,false,false,false,false,false,false,false,false,false,false] rfl rfl (any_of HT_.out (by kernel_rfl)) (fun _ _ _ h => h) (Or.inl ⟨by rfl,?_⟩) ?_ ?_
         rotate_left
         ·intro w'
          go_simp
          with_reducible rfl
         rotate_left
         ·simp only [Act.put,List.setIfInBounds_toArray,List.set_cons_zero,List.set_cons_succ,i64_w,i32_w]
          rfl
         refine pure_ (i:=5) (N:=some 28) (v:=?_) (a':=?_) #[true,true,true,true,true,true,false,false,false,false,false,false,false,false,false,false,false,false,false] rfl rfl (any_of HT_.out (by kernel_rfl)) (fun _ _ _ h => h) (Or.inl ⟨by rfl,?_⟩) ?_ ?_
         rotate_left
         ·intro w'
          go_simp
          with_reducible rfl
         rotate_left
         ·simp only [Act.put,List.setIfInBounds_toArray,List.set_cons_zero,List.set_cons_succ,i64_w,i32_w]
          rfl
         refine pure_ (i:=6) (N:=some 29) (v:=?_) (a':=?_) #[true,true,true,true,true,true,true,false,false,false,false,false,false,false,false,false,false,false,false] rfl rfl (any_of HT_.out (by kernel_rfl)) (fun _ _ _ h => h) (Or.inl ⟨by rfl,?_⟩) ?_ ?_
         rotate_left
         ·intro w'
          go_simp
          with_reducible rfl
         rotate_left
         ·simp only [Act.put,List.setIfInBounds_toArray,List.set_cons_zero,List.set_cons_succ,i64_w,i32_w]
          rfl
         refine pure_ (i:=7) (N:=some 30) (v:=undef) (a':=?_) #[true,true,true,true,true,true,true,true,false,false,false,false,false,false,false,false,false,false,false] rfl rfl (any_of HT_.out (by kernel_rfl)) (fun _ _ _ h => h) (Or.inr ⟨by rfl,rfl⟩) ?_ ?_
         rotate_left
         ·simp only [Act.put,List.setIfInBounds_toArray,List.set_cons_zero,List.set_cons_succ,i64_w,i32_w]
          rfl
         refine pure_ (i:=8) (N:=some 31) (v:=undef) (a':=?_) #[true,true,true,true,true,true,true,true,true,false,false,false,false,false,false,false,false,false,false] rfl rfl (any_of HT_.out (by kernel_rfl)) (fun _ _ _ h => h) (Or.inr ⟨by rfl,rfl⟩) ?_ ?_
         rotate_left
         ·simp only [Act.put,List.setIfInBounds_toArray,List.set_cons_zero,List.set_cons_succ,i64_w,i32_w]
          rfl
         refine pure_ (i:=9) (N:=some 32) (v:=undef) (a':=?_) #[true,true,true,true,true,true,true,true,true,true,false,false,false,false,false,false,false,false,false] rfl rfl (any_of HT_.out (by kernel_rfl)) (fun _ _ _ h => h) (Or.inr ⟨by rfl,rfl⟩) ?_ ?_
         rotate_left
         ·simp only [Act.put,List.setIfInBounds_toArray,List.set_cons_zero,List.set_cons_succ,i64_w,i32_w]
          rfl
         refine pure_ (i:=10) (N:=some 33) (v:=undef) (a':=?_) #[true,true,true,true,true,true,true,true,true,true,true,false,false,false,false,false,false,false,false] rfl rfl (any_of HT_.out (by kernel_rfl)) (fun _ _ _ h => h) (Or.inr ⟨by rfl,rfl⟩) ?_ ?_
         rotate_left
         ·simp only [Act.put,List.setIfInBounds_toArray,List.set_cons_zero,List.set_cons_succ,i64_w,i32_w]
          rfl
         refine pure_ (i:=11) (N:=some 34) (v:=undef) (a':=?_) #[true,true,true,true,true,true,true,true,true,true,true,true,false,false,false,false,false,false,false] rfl rfl (any_of HT_.out (by kernel_rfl)) (fun _ _ _ h => h) (Or.inr ⟨by rfl,rfl⟩) ?_ ?_
         rotate_left
         ·simp only [Act.put,List.setIfInBounds_toArray,List.set_cons_zero,List.set_cons_succ,i64_w,i32_w]
          rfl
         refine pure_ (i:=12) (N:=some 35) (v:=undef) (a':=?_) #[true,true,true,true,true,true,true,true,true,true,true,true,true,false,false,false,false,false,false] rfl rfl (any_of HT_.out (by kernel_rfl)) (fun _ _ _ h => h) (Or.inr ⟨by rfl,rfl⟩) ?_ ?_
         rotate_left
         ·simp only [Act.put,List.setIfInBounds_toArray,List.set_cons_zero,List.set_cons_succ,i64_w,i32_w]
          rfl
         refine pure_ (i:=13) (N:=some 36) (v:=undef) (a':=?_) #[true,true,true,true,true,true,true,true,true,true,true,true,true,true,false,false,false,false,false] rfl rfl (any_of HT_.out (by kernel_rfl)) (fun _ _ _ h => h) (Or.inr ⟨by rfl,rfl⟩) ?_ ?_
         rotate_left
         ·simp only [Act.put,List.setIfInBounds_toArray,List.set_cons_zero,List.set_cons_succ,i64_w,i32_w]
          rfl
         refine pure_ (i:=14) (N:=some 37) (v:=undef) (a':=?_) #[true,true,true,true,true,true,true,true,true,true,true,true,true,true,true,false,false,false,false] rfl rfl (any_of HT_.out (by kernel_rfl)) (fun _ _ _ h => h) (Or.inr ⟨by rfl,rfl⟩) ?_ ?_
         rotate_left
         ·simp only [Act.put,List.setIfInBounds_toArray,List.set_cons_zero,List.set_cons_succ,i64_w,i32_w]
          rfl
         refine pure_ (i:=15) (N:=some 38) (v:=undef) (a':=?_) #[true,true,true,true,true,true,true,true,true,true,true,true,true,true,true,true,false,false,false] rfl rfl (any_of HT_.out (by kernel_rfl)) (fun _ _ _ h => h) (Or.inr ⟨by rfl,rfl⟩) ?_ ?_
         rotate_left
         ·simp only [Act.put,List.setIfInBounds_toArray,List.set_cons_zero,List.set_cons_succ,i64_w,i32_w]
          rfl
         refine pure_ (i:=16) (N:=some 39) (v:=undef) (a':=?_) #[true,true,true,true,true,true,true,true,true,true,true,true,true,true,true,true,true,false,false] rfl rfl (any_of HT_.out (by kernel_rfl)) (fun _ _ _ h => h) (Or.inr ⟨by rfl,rfl⟩) ?_ ?_
         rotate_left
         ·simp only [Act.put,List.setIfInBounds_toArray,List.set_cons_zero,List.set_cons_succ,i64_w,i32_w]
          rfl
         refine pure_ (i:=17) (N:=some 40) (v:=undef) (a':=?_) #[true,true,true,true,true,true,true,true,true,true,true,true,true,true,true,true,true,true,false] rfl rfl (any_of HT_.out (by kernel_rfl)) (fun _ _ _ h => h) (Or.inr ⟨by rfl,rfl⟩) ?_ ?_
         rotate_left
         ·simp only [Act.put,List.setIfInBounds_toArray,List.set_cons_zero,List.set_cons_succ,i64_w,i32_w]
          rfl
         refine pure_ (i:=18) (N:=some 41) (v:=?_) (a':=?_) #[true,true,true,true,true,true,true,true,true,true,true,true,true,true,true,true,true,true,true] rfl rfl (any_of HT_.out (by kernel_rfl)) (fun _ _ _ h => h) (Or.inl ⟨by rfl,?_⟩) ?_ ?_
         rotate_left
         ·intro w'
          go_simp
          with_reducible rfl
         rotate_left
         ·simp only [Act.put,List.setIfInBounds_toArray,List.set_cons_zero,List.set_cons_succ,i64_w,i32_w]
          rfl
         refine done_ (done_of HT_.out (by kernel_rfl)) ?_
         try go_wp2
         refine Met.intro ?_
         go_step
         (repeat apply Exists.intro)
         first|refine ⟨?rel264,rfl⟩|(refine ⟨?rel264,?st264⟩;case' st264 => (first|rw [c14b0]|simp only [c14b0]))
         case rel264 => exact ⟨_,(true),(by first|rfl|(simp;done)|(simp [*];done)),H',⟨by have:=HK1.out;first|omega|exact Nat.le_refl _⟩,⟨by (with_reducible repeat (first|apply ra_|apply rb_|apply rc_));exact HO_5.out⟩,⟨by repeat (first|(with_reducible first|exact HI205.out|apply IsS62.alloc|apply IsS62.drewN|apply IsS62.drew|apply IsS62.set_0|apply IsS62.set_1)|exact HI205.out)⟩,⟨by repeat (first|(with_reducible first|exact HI206.out|apply IsS31.alloc|apply IsS31.drewN|apply IsS31.drew|apply IsS31.set_0|apply IsS31.set_1)|exact HI206.out)⟩,⟨by repeat (first|(with_reducible first|exact HB.out|apply ba_|apply bb_|apply bc_|refine below_set ?_ (IsS62.ge HI205.out)|refine below_set ?_ (IsS31.ge HI206.out))|exact HB.out)⟩⟩
        ·rw [if_neg c14] at H
         have c14b0 : decide (1000 < ((rd_L1 l0 x6_1).length : Int)) = false:=decide_eq_false c14
         have c14b1 : decide (1000 < (rd_L1 l0 x6_1).length) = false:=decide_eq_false (by omega)
         clear c14
         replace H:=Option.bind_eq_some_iff.mp H
         obtain ⟨t209,A160,H⟩:=H
         (try dsimp only at H)
         have A16:=ak_ A160
         clear A160
         replace H:=Option.bind_eq_some_iff.mp H
         obtain ⟨t211,A170,H⟩:=H
         (try dsimp only at H)
         have A17:=ak_ A170
         clear A170
         have H':=ak_ H
         clear H
         try go_wp2
         have n0_:=ak_ (Kd.R_drew HO_5.out)
         have n1_:=ak_ (IsS62.drew HI205.out)
         have n2_:=ak_ (IsS31.drew HI206.out)
         have n3_:=ak_ (below_drew1 HB.out)
         clear HO_5
         clear HI205
         clear HI206
         clear HB
         have HO_5:=n0_
         have HI205:=n1_
         have HI206:=n2_
         have HB:=n3_
         clear n0_ n1_ n2_ n3_
         have p207 : 0 ≤ (x6_1 : Int):=of_decide_eq_true (by first|(with_reducible assumption)|assumption)
         have q207 : x6_1 < (l0.length : Int):=of_decide_eq_true (by first|(with_reducible assumption)|assumption)
         obtain ⟨ad207,A207_0,c207_0,e207,hx207_0,hl207_0,hi207_0⟩:=at_L1 HR0.out x6_1 p207 q207
         have hw207_0:=hx207_0
         cases e207
         replace hx207_0:=(HB.out.cell (World.block_lt_of_cell? w _ hx207_0)).trans hx207_0
         have HR207_0:=ak_ hi207_0
         have HC207_0:=ak_ hl207_0
         clear hi207_0 hl207_0
         replace p207:=eq_true p207
         replace q207:=eq_true q207
         have p208 : 0 ≤ (x6_1 : Int):=of_decide_eq_true (by first|(with_reducible assumption)|assumption)
         have q208 : x6_1 < (l0.length : Int):=of_decide_eq_true (by first|(with_reducible assumption)|assumption)
         obtain ⟨ad208,A208_0,c208_0,e208,hx208_0,hl208_0,hi208_0⟩:=at_L1 HR0.out x6_1 p208 q208
         have hw208_0:=hx208_0
         obtain rfl : ad207 = ad208:=(by injection e208)
         replace hx208_0:=(HB.out.cell (World.block_lt_of_cell? w _ hx208_0)).trans hx208_0
         have HR208_0:=ak_ hi208_0
         have HC208_0:=ak_ hl208_0
         clear hi208_0 hl208_0
         replace p208:=eq_true p208
         replace q208:=eq_true q208
         have ea_:=Option.some.inj (hx207_0.symm.trans hx208_0)
         injection ea_ with ea_ en_ ec_
         subst ea_
         subst ec_
         clear en_
         have p210 : 0 ≤ (x6_1 : Int):=of_decide_eq_true (by first|(with_reducible assumption)|assumption)
         have q210 : x6_1 < (l0.length : Int):=of_decide_eq_true (by first|(with_reducible assumption)|assumption)
         obtain ⟨ad210,A210_0,c210_0,e210,hx210_0,hl210_0,hi210_0⟩:=at_L1 HR0.out x6_1 p210 q210
         have hw210_0:=hx210_0
         obtain rfl : ad207 = ad210:=(by injection e210)
         replace hx210_0:=(HB.out.cell (World.block_lt_of_cell? w _ hx210_0)).trans hx210_0
         have HR210_0:=ak_ hi210_0
         have HC210_0:=ak_ hl210_0
         clear hi210_0 hl210_0
         replace p210:=eq_true p210
         replace q210:=eq_true q210
         have ea_:=Option.some.inj (hx207_0.symm.trans hx210_0)
         injection ea_ with ea_ en_ ec_
         subst ea_
         subst ec_
         clear en_
         refine start_ (n:=19) (S:=fun w' => w'.cell? (ad207.add (x6_1).toNat) = some (.slice A207_0 (rd_L1 l0 x6_1).length c207_0) ∧ w'.cell? (ad207.add (x6_1).toNat) = some (.slice A207_0 (rd_L1 l0 x6_1).length c207_0) ∧ w'.cell? (ad207.add (x6_1).toNat) = some (.slice A207_0 (rd_L1 l0 x6_1).length c207_0)) (ds:=[]) #[false,false,false,false,false,false,false,false,false,false,false,false,false,false,false,false,false,false,false] (by kernel_rfl) rfl rfl ⟨((HB.out.cell (World.block_lt_of_cell? w _ hw207_0)).trans hw207_0),((HB.out.cell (World.block_lt_of_cell? w _ hw208_0)).trans hw208_0),((HB.out.cell (World.block_lt_of_cell? w _ hw210_0)).trans hw210_0)⟩ (fun hHeld => ?_);refine with_tabW madrigallaw13_VadHears.tab11 madrigallaw13_VadHears.bits11 (fun HT_ HW_ => ?_)
         generalize wr.drew = w18 at HO_5 HI205 HI206 HB HR207_0 HR208_0 HR210_0 hx207_0 hx208_0 hx210_0 hHeld ⊢
         refine pure_ (i:=0) (N:=some 23) (v:=?_) (a':=?_) #[true,false,false,false,false,false,false,false,false,false,false,false,false,false,false,false,false,false,false] rfl rfl (any_of HT_.out (by kernel_rfl)) (fun _ _ _ h => h) (Or.inl ⟨by rfl,?_⟩) ?_ ?_
         rotate_left
         ·intro w'
          go_simp
          with_reducible rfl
         rotate_left
         ·simp only [Act.put,List.setIfInBounds_toArray,List.set_cons_zero,List.set_cons_succ,i64_w,i32_w]
          rfl
         refine pure_ (i:=1) (N:=some 24) (v:=?_) (a':=?_) #[true,true,false,false,false,false,false,false,false,false,false,false,false,false,false,false,false,false,false] rfl rfl (any_of HT_.out (by kernel_rfl)) (fun _ _ _ h => h) (Or.inl ⟨by rfl,?_⟩) ?_ ?_
         rotate_left
         ·intro w'
          go_simp
          with_reducible rfl
         rotate_left
         ·simp only [Act.put,List.setIfInBounds_toArray,List.set_cons_zero,List.set_cons_succ,i64_w,i32_w]
          rfl
         refine pure_ (i:=2) (N:=some 25) (v:=?_) (a':=?_) #[true,true,true,false,false,false,false,false,false,false,false,false,false,false,false,false,false,false,false] rfl rfl (any_of HT_.out (by kernel_rfl)) (fun _ _ _ h => h) (Or.inl ⟨by rfl,?_⟩) ?_ ?_
         rotate_left
         ·intro w'
          go_simp
          with_reducible rfl
         rotate_left
         ·simp only [Act.put,List.setIfInBounds_toArray,List.set_cons_zero,List.set_cons_succ,i64_w,i32_w]
          rfl
         refine take_ (i:=3) (N:=some 26) (v:=?_) (a':=?_) #[true,true,true,true,false,false,false,false,false,false,false,false,false,false,false,false,false,false,false] rfl rfl (take_ofW HT_.out HW_.out (by kernel_rfl)) (fun _ _ _ h => h) (Or.inl ⟨by rfl,?_⟩) hHeld ?_ ?_
         rotate_left
         ·rintro w' ⟨s0,s1,s2⟩
          go_simp
          with_reducible rfl
         rotate_left
         ·simp only [Act.put,List.setIfInBounds_toArray,List.set_cons_zero,List.set_cons_succ,i64_w,i32_w]
          rfl
         refine pure_ (i:=4) (N:=some 27) (v:=?_) (a':=?_) #[true,true,true,true,true,false,false,false,false,false,false,false,false,false,false,false,false,false,false] rfl rfl (any_of HT_.out (by kernel_rfl)) (fun _ _ _ h => h) (Or.inl ⟨by rfl,?_⟩) ?_ ?_
         rotate_left
         ·intro w'
          go_simp
          with_reducible rfl
         rotate_left
         ·simp only [Act.put,List.setIfInBounds_toArray,List.set_cons_zero,List.set_cons_succ,i64_w,i32_w]
          rfl
         refine pure_ (i:=5) (N:=some 28) (v:=?_) (a':=?_) #[true,true,true,true,true,true,false,false,false,false,false,false,false,false,false,false,false,false,false] rfl rfl (any_of HT_.out (by kernel_rfl)) (fun _ _ _ h => h) (Or.inl ⟨by rfl,?_⟩) ?_ ?_
         rotate_left
         ·intro w'
          go_simp
          with_reducible rfl
         rotate_left
         ·simp only [Act.put,List.setIfInBounds_toArray,List.set_cons_zero,List.set_cons_succ,i64_w,i32_w]
          rfl
         refine pure_ (i:=6) (N:=some 29) (v:=?_) (a':=?_) #[true,true,true,true,true,true,true,false,false,false,false,false,false,false,false,false,false,false,false] rfl rfl (any_of HT_.out (by kernel_rfl)) (fun _ _ _ h => h) (Or.inl ⟨by rfl,?_⟩) ?_ ?_
         rotate_left
         ·intro w'
          go_simp
          with_reducible rfl
         rotate_left
         ·simp only [Act.put,List.setIfInBounds_toArray,List.set_cons_zero,List.set_cons_succ,i64_w,i32_w]
          rfl
         refine pure_ (i:=7) (N:=some 30) (v:=?_) (a':=?_) #[true,true,true,true,true,true,true,true,false,false,false,false,false,false,false,false,false,false,false] rfl rfl (any_of HT_.out (by kernel_rfl)) (fun _ _ _ h => h) (Or.inl ⟨by rfl,?_⟩) ?_ ?_
         rotate_left
         ·intro w'
          go_simp
          with_reducible rfl
         rotate_left
         ·simp only [Act.put,List.setIfInBounds_toArray,List.set_cons_zero,List.set_cons_succ,i64_w,i32_w]
          rfl
         refine pure_ (i:=8) (N:=some 31) (v:=?_) (a':=?_) #[true,true,true,true,true,true,true,true,true,false,false,false,false,false,false,false,false,false,false] rfl rfl (any_of HT_.out (by kernel_rfl)) (fun _ _ _ h => h) (Or.inl ⟨by rfl,?_⟩) ?_ ?_
         rotate_left
         ·intro w'
          go_simp
          with_reducible rfl
         rotate_left
         ·simp only [Act.put,List.setIfInBounds_toArray,List.set_cons_zero,List.set_cons_succ,i64_w,i32_w]
          rfl
         refine pure_ (i:=9) (N:=some 32) (v:=?_) (a':=?_) #[true,true,true,true,true,true,true,true,true,true,false,false,false,false,false,false,false,false,false] rfl rfl (any_of HT_.out (by kernel_rfl)) (fun _ _ _ h => h) (Or.inl ⟨by rfl,?_⟩) ?_ ?_
         rotate_left
         ·intro w'
          go_simp
          with_reducible rfl
         rotate_left
         ·simp only [Act.put,List.setIfInBounds_toArray,List.set_cons_zero,List.set_cons_succ,i64_w,i32_w]
          rfl
         refine pure_ (i:=12) (N:=some 35) (v:=?_) (a':=?_) #[true,true,true,true,true,true,true,true,true,true,false,false,true,false,false,false,false,false,false] rfl rfl (any_of HT_.out (by kernel_rfl)) (fun _ _ _ h => h) (Or.inl ⟨by rfl,?_⟩) ?_ ?_
         rotate_left
         ·intro w'
          go_simp
          with_reducible rfl
         rotate_left
         ·simp only [Act.put,List.setIfInBounds_toArray,List.set_cons_zero,List.set_cons_succ,i64_w,i32_w]
          rfl
         refine pure_ (i:=13) (N:=some 36) (v:=?_) (a':=?_) #[true,true,true,true,true,true,true,true,true,true,false,false,true,true,false,false,false,false,false] rfl rfl (any_of HT_.out (by kernel_rfl)) (fun _ _ _ h => h) (Or.inl ⟨by rfl,?_⟩) ?_ ?_
         rotate_left
         ·intro w'
          go_simp
          with_reducible rfl
         rotate_left
         ·simp only [Act.put,List.setIfInBounds_toArray,List.set_cons_zero,List.set_cons_succ,i64_w,i32_w]
          rfl
         refine pure_ (i:=14) (N:=some 37) (v:=?_) (a':=?_) #[true,true,true,true,true,true,true,true,true,true,false,false,true,true,true,false,false,false,false] rfl rfl (any_of HT_.out (by kernel_rfl)) (fun _ _ _ h => h) (Or.inl ⟨by rfl,?_⟩) ?_ ?_
         rotate_left
         ·intro w'
          go_simp
          with_reducible rfl
         rotate_left
         ·simp only [Act.put,List.setIfInBounds_toArray,List.set_cons_zero,List.set_cons_succ,i64_w,i32_w]
          rfl
         refine take_ (i:=10) (N:=some 33) (v:=?_) (a':=?_) #[true,true,true,true,true,true,true,true,true,true,true,false,true,true,true,false,false,false,false] rfl rfl (take_ofW HT_.out HW_.out (by kernel_rfl)) (fun _ _ _ h => h) (Or.inl ⟨by rfl,?_⟩) hHeld ?_ ?_
         rotate_left
         ·rintro w' ⟨s0,s1,s2⟩
          go_simp
          with_reducible rfl
         rotate_left
         ·simp only [Act.put,List.setIfInBounds_toArray,List.set_cons_zero,List.set_cons_succ,i64_w,i32_w]
          rfl
         refine take_ (i:=15) (N:=some 38) (v:=?_) (a':=?_) #[true,true,true,true,true,true,true,true,true,true,true,false,true,true,true,true,false,false,false] rfl rfl (take_ofW HT_.out HW_.out (by kernel_rfl)) (fun _ _ _ h => h) (Or.inl ⟨by rfl,?_⟩) hHeld ?_ ?_
         rotate_left
         ·rintro w' ⟨s0,s1,s2⟩
          go_simp
          with_reducible rfl
         rotate_left
         ·simp only [Act.put,List.setIfInBounds_toArray,List.set_cons_zero,List.set_cons_succ,i64_w,i32_w]
          rfl
         refine one_ (i:=11) (N:=some 34) #[true,true,true,true,true,true,true,true,true,true,true,true,true,true,true,true,false,false,false] rfl rfl (one_of HT_.out (by kernel_rfl)) (by decide) (fun K hK => ?_)
         refine goes_ Try.func15 (by kernel_rfl) rfl #[.slice A207_0 (rd_L1 l0 x6_1).length c207_0] (by rfl) rfl rfl (by (try simp only [List.map_toArray,List.map_cons,List.map_nil]);first|done|rfl|(simp only [List.length_drop,List.length_take];rfl)) ?_
         with_reducible refine (vad_Level.calls k1 _ _ (rd_L1 l0 x6_1) t209 _ ?side1 ?side2 A16.out).mono ?_
         (case side1 => repeat (first|exact (Kd.C_below HR208_0.out HB.out)|(with_reducible refine Kd.C_alloc ?_ _)|(with_reducible refine Kd.C_drewN ?_ _)|(with_reducible refine Kd.C_drew ?_)))
         (case side2 => exact HC208_0.out)
         rintro e w19 ⟨rfl,hb⟩
         refine ⟨_,rfl,?_⟩
         have n0_:=ak_ (Kd.R_below (by (with_reducible repeat (first|apply ra_|apply rb_|apply rc_));exact HO_5.out) hb)
         have n1_:=ak_ (IsS62.below (by repeat (first|(with_reducible first|exact HI205.out|apply IsS62.alloc|apply IsS62.drewN|apply IsS62.drew|apply IsS62.set_0|apply IsS62.set_1)|exact HI205.out)) hb)
         have n2_:=ak_ (IsS31.below (by repeat (first|(with_reducible first|exact HI206.out|apply IsS31.alloc|apply IsS31.drewN|apply IsS31.drew|apply IsS31.set_0|apply IsS31.set_1)|exact HI206.out)) hb)
         have n3_:=ak_ (below_step (by repeat (first|(with_reducible first|exact HB.out|apply ba_|apply bb_|apply bc_|refine below_set ?_ (IsS62.ge HI205.out)|refine below_set ?_ (IsS31.ge HI206.out))|exact HB.out)) hb)
         clear HO_5
         clear HI205
         clear HI206
         clear HB
         have HO_5:=n0_
         have HI205:=n1_
         have HI206:=n2_
         have HB:=n3_
         clear n0_ n1_ n2_ n3_
         (try clear hb)
         refine hK.out _ _ ⟨((HB.out.cell (World.block_lt_of_cell? w _ hw207_0)).trans hw207_0),((HB.out.cell (World.block_lt_of_cell? w _ hw208_0)).trans hw208_0),((HB.out.cell (World.block_lt_of_cell? w _ hw210_0)).trans hw210_0)⟩ (fun hHeld => ?_)
         clear hK K
         refine norm_ (a':=?_) ?_ ?_
         rotate_left
         ·show Act.put _ (some 34) _ = _
          simp only [Act.put,List.setIfInBounds_toArray,List.set_cons_zero,List.set_cons_succ,i64_w,i32_w]
          rfl
         refine one_ (i:=16) (N:=some 39) #[true,true,true,true,true,true,true,true,true,true,true,true,true,true,true,true,true,false,false] rfl rfl (one_of HT_.out (by kernel_rfl)) (by decide) (fun K hK => ?_)
         refine goes_ Try.func18 (by kernel_rfl) rfl #[.slice A207_0 (rd_L1 l0 x6_1).length c207_0] (by rfl) rfl rfl (by (try simp only [List.map_toArray,List.map_cons,List.map_nil]);first|done|rfl|(simp only [List.length_drop,List.length_take];rfl)) ?_
         with_reducible refine (madrigalref6_Level.calls k1 (fun k_ => k_ < w.heap.size) _ _ (rd_L1 l0 x6_1) t211 _ ?side1 A17.out).mono ?_
         (case side1 => exact Kd.V_mk HC210_0.out (Kd.F_below (Kd.C_F (Kd.heap_int .i64) HR210_0.out) (by repeat (first|(with_reducible first|exact HB.out|apply ba_|apply bb_|apply bc_|refine below_set ?_ (IsS62.ge HI205.out)|refine below_set ?_ (IsS31.ge HI206.out))|exact HB.out))))
         rintro e w20 ⟨rfl,hb⟩
         refine ⟨_,rfl,?_⟩
         have n0_:=ak_ (Kd.R_below (by (with_reducible repeat (first|apply ra_|apply rb_|apply rc_));exact HO_5.out) hb)
         have n1_:=ak_ (IsS62.below (by repeat (first|(with_reducible first|exact HI205.out|apply IsS62.alloc|apply IsS62.drewN|apply IsS62.drew|apply IsS62.set_0|apply IsS62.set_1)|exact HI205.out)) hb)
         have n2_:=ak_ (IsS31.below (by repeat (first|(with_reducible first|exact HI206.out|apply IsS31.alloc|apply IsS31.drewN|apply IsS31.drew|apply IsS31.set_0|apply IsS31.set_1)|exact HI206.out)) hb)
         have n3_:=ak_ (below_step (by repeat (first|(with_reducible first|exact HB.out|apply ba_|apply bb_|apply bc_|refine below_set ?_ (IsS62.ge HI205.out)|refine below_set ?_ (IsS31.ge HI206.out))|exact HB.out)) hb)
         clear HO_5
         clear HI205
         clear HI206
         clear HB
         have HO_5:=n0_
         have HI205:=n1_
         have HI206:=n2_
         have HB:=n3_
         clear n0_ n1_ n2_ n3_
         (try clear hb)
         refine hK.out _ _ ⟨((HB.out.cell (World.block_lt_of_cell? w _ hw207_0)).trans hw207_0),((HB.out.cell (World.block_lt_of_cell? w _ hw208_0)).trans hw208_0),((HB.out.cell (World.block_lt_of_cell? w _ hw210_0)).trans hw210_0)⟩ (fun hHeld => ?_)
         clear hK K
         refine norm_ (a':=?_) ?_ ?_
         rotate_left
         ·show Act.put _ (some 39) _ = _
          simp only [Act.put,List.setIfInBounds_toArray,List.set_cons_zero,List.set_cons_succ,i64_w,i32_w]
          rfl
         refine pure_ (i:=17) (N:=some 40) (v:=?_) (a':=?_) #[true,true,true,true,true,true,true,true,true,true,true,true,true,true,true,true,true,true,false] rfl rfl (any_of HT_.out (by kernel_rfl)) (fun _ _ _ h => h) (Or.inl ⟨by rfl,?_⟩) ?_ ?_
         rotate_left
         ·intro w'
          go_simp
          with_reducible rfl
         rotate_left
         ·simp only [Act.put,List.setIfInBounds_toArray,List.set_cons_zero,List.set_cons_succ,i64_w,i32_w]
          rfl
         refine pure_ (i:=18) (N:=some 41) (v:=?_) (a':=?_) #[true,true,true,true,true,true,true,true,true,true,true,true,true,true,true,true,true,true,true] rfl rfl (any_of HT_.out (by kernel_rfl)) (fun _ _ _ h => h) (Or.inl ⟨by rfl,?_⟩) ?_ ?_
         rotate_left
         ·intro w'
          go_simp
          with_reducible rfl
         rotate_left
         ·simp only [Act.put,List.setIfInBounds_toArray,List.set_cons_zero,List.set_cons_succ,i64_w,i32_w]
          rfl
         refine done_ (done_of HT_.out (by kernel_rfl)) ?_
         try go_wp2
         refine Met.intro ?_
         go_step
         (repeat apply Exists.intro)
         first|refine ⟨?rel534,rfl⟩|(refine ⟨?rel534,?st534⟩;case' st534 => (first|rw [c14b0]|simp only [c14b0]))
         case rel534 => exact ⟨_,((t209 != t211)),(by first|rfl|(simp;done)|(simp [*];done)),H',⟨by have:=HK1.out;first|omega|exact Nat.le_refl _⟩,⟨by (with_reducible repeat (first|apply ra_|apply rb_|apply rc_));exact HO_5.out⟩,⟨by repeat (first|(with_reducible first|exact HI205.out|apply IsS62.alloc|apply IsS62.drewN|apply IsS62.drew|apply IsS62.set_0|apply IsS62.set_1)|exact HI205.out)⟩,⟨by repeat (first|(with_reducible first|exact HI206.out|apply IsS31.alloc|apply IsS31.drewN|apply IsS31.drew|apply IsS31.set_0|apply IsS31.set_1)|exact HI206.out)⟩,⟨by repeat (first|(with_reducible first|exact HB.out|apply ba_|apply bb_|apply bc_|refine below_set ?_ (IsS62.ge HI205.out)|refine below_set ?_ (IsS31.ge HI206.out))|exact HB.out)⟩⟩
       ·rw [if_neg c13] at H
        exact absurd H (by simp)
      case rest => as_aux_lemma =>
       clear HC12
       try clear c1
       try clear c2
       try clear p2
       try clear q2
       try clear hx2
       try clear c3
       try clear c4
       try clear c4b0
       try clear c4b1
       try clear c11
       try clear c11b0
       try clear c13
       try clear c13b0
       try clear c14
       try clear c14b0
       try clear c14b1
       try clear c15
       try clear c16
       try clear c18
       try clear c20
       try clear p20
       try clear q20
       try clear hx20
       try clear hcz10_0
       try clear hcz10_1
       try clear hfz10_0
       try clear hfz10_1
       try clear hx207_0
       try clear hx208_0
       try clear hx210_0
       try clear p2
       try clear p207
       try clear p208
       try clear p210
       try clear q207
       try clear q208
       try clear q210
       obtain ⟨kq,x41_11,rfl,HA,HJ11,HO_5,HI205,HI206,HB⟩:=hcut
       (try simp only [i64_w,i32_w])
       cases kq with
       | zero => exact absurd HA.out (by simp [madrigallaw13_VadHears.j1])
       | succ kj11 =>
        have H:=HA.out
        clear HA
        simp only [madrigallaw13_VadHears.j1] at H
        by_cases c21 : x41_11 = true
        ·subst c21
         have H1 : (if 0 ≤ x6_1 then (if x6_1 < (l0.length : Int) then (some (decide (((rd_L1 l0 x6_1).length : Int) > 1000))) else (none)) else (none)) = some r:=by rw [if_pos rfl] at H;exact H
         clear H
         have H:=H1
         clear H1
         by_cases c22 : 0 ≤ x6_1
         ·rw [if_pos c22] at H
          have c22b0:=decide_eq_true c22
          clear c22
          by_cases c23 : x6_1 < (l0.length : Int)
          ·rw [if_pos c23] at H
           have c23b0:=decide_eq_true c23
           clear c23
           obtain rfl:=Option.some.inj H
           have p212 : 0 ≤ (x6_1 : Int):=of_decide_eq_true (by first|(with_reducible assumption)|assumption)
           have q212 : x6_1 < (l0.length : Int):=of_decide_eq_true (by first|(with_reducible assumption)|assumption)
           obtain ⟨ad212,A212_0,c212_0,e212,hx212_0,hl212_0,hi212_0⟩:=at_L1 HR0.out x6_1 p212 q212
           cases e212
           replace hx212_0:=(HB.out.cell (World.block_lt_of_cell? w _ hx212_0)).trans hx212_0
           have HR212_0:=ak_ hi212_0
           have HC212_0:=ak_ hl212_0
           clear hi212_0 hl212_0
           replace p212:=eq_true p212
           replace q212:=eq_true q212
           go_wp2
           go_ret
           exact ⟨by first|rfl|(simp [errW_none,errW_some] <;> rfl)|(simp [*,errW_none,errW_some] <;> rfl),by repeat (first|(with_reducible first|exact HB.out|apply ba_|apply bb_|apply bc_|refine below_set ?_ (IsS62.ge HI205.out)|refine below_set ?_ (IsS31.ge HI206.out))|exact HB.out)⟩
          ·rw [if_neg c23] at H
           exact absurd H (by simp)
         ·rw [if_neg c22] at H
          exact absurd H (by simp)
        ·replace c21:=Bool.eq_false_iff.mpr c21
         subst c21
         have H1 : (if 0 ≤ x6_1 then (if x6_1 < (l0.length : Int) then ((madrigalref6_Meter_Step.f kj11 x207000_1 x207001_1 (rd_L1 l0 x6_1)).bind fun bt214 => (if x5_1.length < 140737488355328 then ((some (([] : List Int) : List Int)).bind fun y220 => (if y220.length + (rd_L1 l0 x6_1).length < 17592186044416 then ((vad_Meter_Step.f kj11 x206000_1 x206001_1 (y220 ++ (rd_L1 l0 x6_1))).bind fun bt227 => (if (bt227.1 != bt214.1) = true then (none) else ((vad_Meter_Floor.f bt227.2.1 bt227.2.2).bind fun bt230 => (if bt230.1 = bt214.2.1 then (madrigallaw13_VadHears.l0 kj11 l0 (x5_1 ++ [bt214.1]) (wrap64 (x6_1 + 1)) bt230.2.1 bt230.2.2 bt214.2.1 bt214.2.2) else (none))))) else (none))) else (none))) else (none)) else (none)) = some r:=by rw [if_neg (show ¬ (false = true) by decide)] at H;exact H
         clear H
         have H:=H1
         clear H1
         by_cases c24 : 0 ≤ x6_1
         ·rw [if_pos c24] at H
          have c24b0:=decide_eq_true c24
          clear c24
          by_cases c25 : x6_1 < (l0.length : Int)
          ·rw [if_pos c25] at H
           have c25b0:=decide_eq_true c25
           clear c25
           replace H:=Option.bind_eq_some_iff.mp H
           obtain ⟨⟨t214,t215,t216⟩,A260,H⟩:=H
           (try dsimp only at H)
           have A26:=ak_ A260
           clear A260
           by_cases c27 : x5_1.length < 140737488355328
           ·rw [if_pos c27] at H
            have LMc27:=ak_ c27
            clear c27
            obtain ⟨y217,hy217⟩ : ∃ y_ : List Bool,y_ = (x5_1 ++ [t214]):=⟨_,rfl⟩
            replace H : ((some (([] : List Int) : List Int)).bind fun y220 => (if y220.length + (rd_L1 l0 x6_1).length < 17592186044416 then ((vad_Meter_Step.f kj11 x206000_1 x206001_1 (y220 ++ (rd_L1 l0 x6_1))).bind fun bt227 => (if (bt227.1 != t214) = true then (none) else ((vad_Meter_Floor.f bt227.2.1 bt227.2.2).bind fun bt230 => (if bt230.1 = t215 then (madrigallaw13_VadHears.l0 kj11 l0 y217 (wrap64 (x6_1 + 1)) bt230.2.1 bt230.2.2 t215 t216) else (none))))) else (none))) = some r:=by first|(rw [hy217];with_reducible exact H)|(have H2_:=(Option.bind_some _ _).symm.trans H;rw [hy217];with_reducible exact H2_)|(have H2_:=(Option.bind_some _ _).symm.trans H;with_reducible exact H2_)|with_reducible exact H|(rw [hy217];exact H)|exact H
            have Ny217:=ak_ hy217
            clear hy217
            obtain ⟨y220,hy220⟩ : ∃ y_ : List Int,y_ = (([] : List Int)):=⟨_,rfl⟩
            replace H : (if y220.length + (rd_L1 l0 x6_1).length < 17592186044416 then ((vad_Meter_Step.f kj11 x206000_1 x206001_1 (y220 ++ (rd_L1 l0 x6_1))).bind fun bt227 => (if (bt227.1 != t214) = true then (none) else ((vad_Meter_Floor.f bt227.2.1 bt227.2.2).bind fun bt230 => (if bt230.1 = t215 then (madrigallaw13_VadHears.l0 kj11 l0 y217 (wrap64 (x6_1 + 1)) bt230.2.1 bt230.2.2 t215 t216) else (none))))) else (none)) = some r:=by first|(rw [hy220];with_reducible exact H)|(have H2_:=(Option.bind_some _ _).symm.trans H;rw [hy220];with_reducible exact H2_)|(have H2_:=(Option.bind_some _ _).symm.trans H;with_reducible exact H2_)|with_reducible exact H|(rw [hy220];exact H)|exact H
            have Ny220:=ak_ hy220
            clear hy220
            by_cases c28 : y220.length + (rd_L1 l0 x6_1).length < 17592186044416
            ·rw [if_pos c28] at H
             have LMc28:=ak_ c28
             clear c28
             obtain ⟨y224,hy224⟩ : ∃ y_ : List Int,y_ = (y220 ++ (rd_L1 l0 x6_1)):=⟨_,rfl⟩
             replace H : ((vad_Meter_Step.f kj11 x206000_1 x206001_1 y224).bind fun bt227 => (if (bt227.1 != t214) = true then (none) else ((vad_Meter_Floor.f bt227.2.1 bt227.2.2).bind fun bt230 => (if bt230.1 = t215 then (madrigallaw13_VadHears.l0 kj11 l0 y217 (wrap64 (x6_1 + 1)) bt230.2.1 bt230.2.2 t215 t216) else (none))))) = some r:=by first|(rw [hy224];with_reducible exact H)|(have H2_:=(Option.bind_some _ _).symm.trans H;rw [hy224];with_reducible exact H2_)|(have H2_:=(Option.bind_some _ _).symm.trans H;with_reducible exact H2_)|with_reducible exact H|(rw [hy224];exact H)|exact H
             have Ny224:=ak_ hy224
             clear hy224
             replace H:=Option.bind_eq_some_iff.mp H
             obtain ⟨⟨t227,t228,t229⟩,A290,H⟩:=H
             (try dsimp only at H)
             have A29:=ak_ A290
             clear A290
             by_cases c30 : (t227 != t214) = true
             ·rw [if_pos c30] at H
              have c30b0 : (t227 != t214) = true:=c30
              (try (have c30b1 : decide (t227 = t214) = false:=by simpa using c30))
              (try (have c30b2 : (t227 == t214) = false:=by simpa using c30))
              (try (have c30b3 : ¬ (t227 = t214):=by simpa using c30))
              clear c30
              exact absurd H (by simp)
             ·rw [if_neg c30] at H
              have c30b0 : (t227 != t214) = false:=by simpa using c30
              (try (have c30b1 : decide (t227 = t214) = true:=by simpa using c30))
              (try (have c30b2 : (t227 == t214) = true:=by simpa using c30))
              clear c30
              replace H:=Option.bind_eq_some_iff.mp H
              obtain ⟨⟨t230,t231,t232⟩,A310,H⟩:=H
              (try dsimp only at H)
              have A31:=ak_ A310
              clear A310
              by_cases c32 : t230 = t215
              ·rw [if_pos c32] at H
               have c32b0 : (t230 == t215) = true:=beq_iff_eq.mpr c32
               have c32b1 : (t230 != t215) = false:=bne_eq_false_iff_eq.mpr c32
               clear c32
               have H':=ak_ H
               clear H
               have p213 : 0 ≤ (x6_1 : Int):=of_decide_eq_true (by first|(with_reducible assumption)|assumption)
               have q213 : x6_1 < (l0.length : Int):=of_decide_eq_true (by first|(with_reducible assumption)|assumption)
               obtain ⟨ad213,A213_0,c213_0,e213,hx213_0,hl213_0,hi213_0⟩:=at_L1 HR0.out x6_1 p213 q213
               cases e213
               replace hx213_0:=(HB.out.cell (World.block_lt_of_cell? w _ hx213_0)).trans hx213_0
               have HR213_0:=ak_ hi213_0
               have HC213_0:=ak_ hl213_0
               clear hi213_0 hl213_0
               replace p213:=eq_true p213
               replace q213:=eq_true q213
               try go_wp2_with (first|((with_reducible refine gate_callee (f:=19) rfl ?_);refine goesL_ (some 52) rfl rfl Try.func19 (by kernel_rfl) rfl #[.pointer (some ⟨gb206,0,none⟩),.slice A213_0 (rd_L1 l0 x6_1).length c213_0] rfl (by (try simp only [List.map_toArray,List.map_cons,List.map_nil]);first|done|rfl|(simp only [List.length_drop,List.length_take];rfl)) ?_;(with_reducible refine (madrigalref6_Meter_Step.calls kj11 gb206 x207000_1 x207001_1 (fun k_ => k_ < w.heap.size) _ _ (rd_L1 l0 x6_1) t214 t215 t216 w _ ?side1 ?side2 ?side3 A26.out).mono ?_);(case side1 => repeat (first|(with_reducible first|exact HI206.out|apply IsS31.alloc|apply IsS31.drewN|apply IsS31.drew|apply IsS31.set_0|apply IsS31.set_1)|exact HI206.out));(case side2 => repeat (first|(with_reducible first|exact HB.out|apply ba_|apply bb_|apply bc_|refine below_set ?_ (IsS62.ge HI205.out)|refine below_set ?_ (IsS31.ge HI206.out))|exact HB.out));(case side3 => exact Kd.V_mono (Kd.V_mk HC213_0.out (Kd.F_below (Kd.C_F (Kd.heap_int .i64) HR213_0.out) (by repeat (first|(with_reducible first|exact HB.out|apply ba_|apply bb_|apply bc_|refine below_set ?_ (IsS62.ge HI205.out)|refine below_set ?_ (IsS31.ge HI206.out))|exact HB.out)))) (fun k_ hk_ => ⟨hk_,fun e_ => Nat.not_le.2 hk_ (by rw [e_];exact IsS31.ge HI206.out)⟩));rintro e w33 ⟨rfl,hi,hb,hk⟩;refine ⟨_,rfl,?_⟩;have n0_:=ak_ (Kd.R_mono (Kd.R_keep (IsS31.apart (show IsS31 w _ gb206 x207000_1 x207001_1 from by repeat (first|(with_reducible first|exact HI206.out|apply IsS31.alloc|apply IsS31.drewN|apply IsS31.drew|apply IsS31.set_0|apply IsS31.set_1)|exact HI206.out)) (by (with_reducible repeat (first|apply ra_|apply rb_|apply rc_));exact HO_5.out) (by decide)) hk (fun _ h => h.2)) (fun _ h => h.1));have n1_:=ak_ (IsS62.keepB (show IsS62 w _ g205 x206000_1 x206001_1 from by repeat (first|(with_reducible first|exact HI205.out|apply IsS62.alloc|apply IsS62.drewN|apply IsS62.drew|apply IsS62.set_0|apply IsS62.set_1)|exact HI205.out)) hk (Ne.symm NS206_205.out));have n2_:=ak_ (hb);have n3_:=ak_ (hi);clear HO_5;clear HI205;clear HB;clear HI206;have HO_5:=n0_;have HI205:=n1_;have HB:=n2_;have HI206:=n3_;clear n0_ n1_ n2_ n3_;(try clear hb);(try clear hk);(try clear hi))|((with_reducible refine gate_builtin (b:=.append) (xs:=#[.tmp 53,.tmp 55]) rfl ?_);at_builtin;refine Kd.R_append Kd.bool (w0:=w) w.heap.size rfl (.tmp 53) (.tmp 55) 24 4 (.bool false) 1 rfl Try.underlying24 info4 rfl (by decide) (by omega) u5 x5_1 t214 [.bool t214] (fun _ => True) (fun _ => False) rfl rfl ?aP (fun _ hk => hk.elim) ?aF ?aO ?aB ?aS ?aL ?_;(case aP => exact rfl);(case aB => exact (by repeat (first|(with_reducible first|exact HB.out|apply ba_|apply bb_|apply bc_|refine below_set ?_ (IsS62.ge HI205.out)|refine below_set ?_ (IsS31.ge HI206.out))|exact HB.out)));(case aF => exact (fun _ _ => trivial));(case aO => exact (by (with_reducible repeat (first|apply ra_|apply rb_|apply rc_));exact HO_5.out));(case aS => exact (below_size (by repeat (first|(with_reducible first|exact HB.out|apply ba_|apply bb_|apply bc_|refine below_set ?_ (IsS62.ge HI205.out)|refine below_set ?_ (IsS31.ge HI206.out))|exact HB.out))));(case aL => have:=LMc27.out;omega);intro v218 w34 ho hb hg hat;rw [← Ny217.out] at ho;have n0_:=ak_ (IsS62.grown (by repeat (first|(with_reducible first|exact HI205.out|apply IsS62.alloc|apply IsS62.drewN|apply IsS62.drew|apply IsS62.set_0|apply IsS62.set_1)|exact HI205.out)) hg (IsS62.own_ne HI205.out HO_5.out (by decide)));have n1_:=ak_ (IsS31.grown (by repeat (first|(with_reducible first|exact HI206.out|apply IsS31.alloc|apply IsS31.drewN|apply IsS31.drew|apply IsS31.set_0|apply IsS31.set_1)|exact HI206.out)) hg (IsS31.own_ne HI206.out HO_5.out (by decide)));have n2_:=ak_ (hb);have n3_:=ak_ (ho);clear HI205;clear HI206;clear HB;clear HO_5;have HI205:=n0_;have HI206:=n1_;have HB:=n2_;have HO219:=n3_;clear n0_ n1_ n2_ n3_;clear ho hb hg hat))
               have n0_:=ak_ (Kd.R_drew HO219.out)
               have n1_:=ak_ (IsS62.drew HI205.out)
               have n2_:=ak_ (IsS31.drew HI206.out)
               have n3_:=ak_ (below_drew1 HB.out)
               clear HO219
               clear HI205
               clear HI206
               clear HB
               have HO219:=n0_
               have HI205:=n1_
               have HI206:=n2_
               have HB:=n3_
               clear n0_ n1_ n2_ n3_
               have p223 : 0 ≤ (x6_1 : Int):=of_decide_eq_true (by first|(with_reducible assumption)|assumption)
               have q223 : x6_1 < (l0.length : Int):=of_decide_eq_true (by first|(with_reducible assumption)|assumption)
               obtain ⟨ad223,A223_0,c223_0,e223,hx223_0,hl223_0,hi223_0⟩:=at_L1 HR0.out x6_1 p223 q223
               have hw223_0:=hx223_0
               obtain rfl : ad213 = ad223:=(by injection e223)
               replace hx223_0:=(HB.out.cell (World.block_lt_of_cell? w _ hx223_0)).trans hx223_0
               have HR223_0:=ak_ hi223_0
               have HC223_0:=ak_ hl223_0
               clear hi223_0 hl223_0
               replace p223:=eq_true p223
               replace q223:=eq_true q223
               refine start_ (n:=17) (S:=fun w' => w'.cell? ⟨gb206,0,none⟩ = some (.int .i64 t215) ∧ w'.cell? ⟨gb206,1,none⟩ = some (.int .i64 t216) ∧ w'.cell? (ad213.add (x6_1).toNat) = some (.slice A223_0 (rd_L1 l0 x6_1).length c223_0)) (ds:=[]) #[false,false,false,false,false,false,false,false,false,false,false,false,false,false,false,false,false] (by kernel_rfl) rfl rfl ⟨(blk_cell (ak_ HI206.out.1).out 0).trans rfl,(blk_cell (ak_ HI206.out.1).out 1).trans rfl,((HB.out.cell (World.block_lt_of_cell? w _ hw223_0)).trans hw223_0)⟩ (fun hHeld => ?_);refine with_tabW madrigallaw13_VadHears.tab15 madrigallaw13_VadHears.bits15 (fun HT_ HW_ => ?_)
               generalize w34.drew = w35 at HO219 HI205 HI206 HB HR223_0 hx223_0 hHeld ⊢
               refine pure_ (i:=0) (N:=some 57) (v:=?_) (a':=?_) #[true,false,false,false,false,false,false,false,false,false,false,false,false,false,false,false,false] rfl rfl (any_of HT_.out (by kernel_rfl)) (fun _ _ _ h => h) (Or.inl ⟨by rfl,?_⟩) ?_ ?_
               rotate_left
               ·intro w'
                go_simp
                with_reducible rfl
               rotate_left
               ·simp only [Act.put,List.setIfInBounds_toArray,List.set_cons_zero,List.set_cons_succ,i64_w,i32_w]
                rfl
               refine pure_ (i:=2) (N:=some 59) (v:=?_) (a':=?_) #[true,false,true,false,false,false,false,false,false,false,false,false,false,false,false,false,false] rfl rfl (any_of HT_.out (by kernel_rfl)) (fun _ _ _ h => h) (Or.inl ⟨by rfl,?_⟩) ?_ ?_
               rotate_left
               ·intro w'
                go_simp
                with_reducible rfl
               rotate_left
               ·simp only [Act.put,List.setIfInBounds_toArray,List.set_cons_zero,List.set_cons_succ,i64_w,i32_w]
                rfl
               refine pure_ (i:=3) (N:=some 60) (v:=?_) (a':=?_) #[true,false,true,true,false,false,false,false,false,false,false,false,false,false,false,false,false] rfl rfl (any_of HT_.out (by kernel_rfl)) (fun _ _ _ h => h) (Or.inl ⟨by rfl,?_⟩) ?_ ?_
               rotate_left
               ·intro w'
                go_simp
                with_reducible rfl
               rotate_left
               ·simp only [Act.put,List.setIfInBounds_toArray,List.set_cons_zero,List.set_cons_succ,i64_w,i32_w]
                rfl
               refine pure_ (i:=4) (N:=some 61) (v:=?_) (a':=?_) #[true,false,true,true,true,false,false,false,false,false,false,false,false,false,false,false,false] rfl rfl (any_of HT_.out (by kernel_rfl)) (fun _ _ _ h => h) (Or.inl ⟨by rfl,?_⟩) ?_ ?_
               rotate_left
               ·intro w'
                go_simp
                with_reducible rfl
               rotate_left
               ·simp only [Act.put,List.setIfInBounds_toArray,List.set_cons_zero,List.set_cons_succ,i64_w,i32_w]
                rfl
               refine pure_ (i:=8) (N:=some 65) (v:=?_) (a':=?_) #[true,false,true,true,true,false,false,false,true,false,false,false,false,false,false,false,false] rfl rfl (any_of HT_.out (by kernel_rfl)) (fun _ _ _ h => h) (Or.inl ⟨by rfl,?_⟩) ?_ ?_
               rotate_left
               ·intro w'
                go_simp
                with_reducible rfl
               rotate_left
               ·simp only [Act.put,List.setIfInBounds_toArray,List.set_cons_zero,List.set_cons_succ,i64_w,i32_w]
                rfl
               refine take_ (i:=5) (N:=some 62) (v:=?_) (a':=?_) #[true,false,true,true,true,true,false,false,true,false,false,false,false,false,false,false,false] rfl rfl (take_ofW HT_.out HW_.out (by kernel_rfl)) (fun _ _ _ h => h) (Or.inl ⟨by rfl,?_⟩) hHeld ?_ ?_
               rotate_left
               ·rintro w' ⟨s0,s1,s2⟩
                go_simp
                with_reducible rfl
               rotate_left
               ·simp only [Act.put,List.setIfInBounds_toArray,List.set_cons_zero,List.set_cons_succ,i64_w,i32_w]
                rfl
               refine one_ (i:=1) (N:=some 58) #[true,true,true,true,true,true,false,false,true,false,false,false,false,false,false,false,false] rfl rfl (one_of HT_.out (by kernel_rfl)) (by decide) (fun K hK => ?_)
               refine Kd.R_lit_step (Kd.int .i64) _ 2 ?hg (N:=58) ?hd (xs:=([] : List Int)) (inner:=[]) (ok:=fun _ => True) (okp:=fun _ => True) ?hr ?hp (fun _ hk => hk) trivial (Below.refl _ _) (Nat.le_refl _) (by simp) ?_;(case hd => rfl);(case hg => rfl);(case hr => first|(go_simp;done)|(go_simp;rfl));(case hp => exact (Reps.none _ _))
               intro v221 w36 ho37 hb hg_ hnew_
               clear hg_ hnew_
               (first|rw [← Ny220.out] at ho37|(simp only [Int.reduceToNat] at ho37;rw [← Ny220.out] at ho37))
               have n0_:=ak_ (Kd.R_below (by (with_reducible repeat (first|apply ra_|apply rb_|apply rc_));exact HO219.out) hb)
               have n1_:=ak_ (Kd.R_lower ho37 (below_size (by repeat (first|(with_reducible first|exact HB.out|apply ba_|apply bb_|apply bc_|refine below_set ?_ (IsS62.ge HI205.out)|refine below_set ?_ (IsS31.ge HI206.out))|exact HB.out))))
               have n2_:=ak_ (IsS62.below (by repeat (first|(with_reducible first|exact HI205.out|apply IsS62.alloc|apply IsS62.drewN|apply IsS62.drew|apply IsS62.set_0|apply IsS62.set_1)|exact HI205.out)) hb)
               have n3_:=ak_ (IsS31.below (by repeat (first|(with_reducible first|exact HI206.out|apply IsS31.alloc|apply IsS31.drewN|apply IsS31.drew|apply IsS31.set_0|apply IsS31.set_1)|exact HI206.out)) hb)
               have n4_:=ak_ (below_step (by repeat (first|(with_reducible first|exact HB.out|apply ba_|apply bb_|apply bc_|refine below_set ?_ (IsS62.ge HI205.out)|refine below_set ?_ (IsS31.ge HI206.out))|exact HB.out)) hb)
               clear HO219
               clear HI205
               clear HI206
               clear HB
               have HO219:=n0_
               have HO222:=n1_
               have HI205:=n2_
               have HI206:=n3_
               have HB:=n4_
               clear n0_ n1_ n2_ n3_ n4_
               clear hb ho37
               refine hK.out _ _ ⟨(blk_cell (ak_ HI206.out.1).out 0).trans rfl,(blk_cell (ak_ HI206.out.1).out 1).trans rfl,((HB.out.cell (World.block_lt_of_cell? w _ hw223_0)).trans hw223_0)⟩ (fun hHeld => ?_)
               clear hK K
               refine norm_ (a':=?_) ?_ ?_
               rotate_left
               ·show Act.put _ (some 58) _ = _
                simp only [Act.put,List.setIfInBounds_toArray,List.set_cons_zero,List.set_cons_succ,i64_w,i32_w]
                rfl
               refine one_ (i:=6) (N:=some 63) #[true,true,true,true,true,true,true,false,true,false,false,false,false,false,false,false,false] rfl rfl (one_of HT_.out (by kernel_rfl)) (by decide) (fun K hK => ?_)
               refine Kd.R_append_rows_step (Kd.int .i64) (w0:=w) w.heap.size (by rfl) (.tmp 58) (.tmp 62) 28 2 (.int .i64 0) 8 rfl Try.underlying28 info2 rfl (by decide) (by omega) v221 y220 (rd_L1 l0 x6_1) _ _ _ (fun _ => True) (fun _ => False) rfl rfl ?aO ?aR (fun _ _ h => h) (fun _ h => h.elim) ?aF ?aB ?aS ?aL ?_
               (case aR => repeat (first|exact (Kd.C_below HR223_0.out HB.out)|(with_reducible refine Kd.C_alloc ?_ _)|(with_reducible refine Kd.C_drewN ?_ _)|(with_reducible refine Kd.C_drew ?_)))
               (case aB => exact (by repeat (first|(with_reducible first|exact HB.out|apply ba_|apply bb_|apply bc_|refine below_set ?_ (IsS62.ge HI205.out)|refine below_set ?_ (IsS31.ge HI206.out))|exact HB.out)))
               (case aF => exact (fun _ _ => trivial))
               (case aO => exact (by (with_reducible repeat (first|apply ra_|apply rb_|apply rc_));exact HO222.out))
               (case aS => exact (below_size (by repeat (first|(with_reducible first|exact HB.out|apply ba_|apply bb_|apply bc_|refine below_set ?_ (IsS62.ge HI205.out)|refine below_set ?_ (IsS31.ge HI206.out))|exact HB.out))))
               (case aL => have:=LMc28.out;omega)
               intro v225 w38 ho hb hg hat
               rw [← Ny224.out] at ho
               have n0_:=ak_ (IsS62.grown (by repeat (first|(with_reducible first|exact HI205.out|apply IsS62.alloc|apply IsS62.drewN|apply IsS62.drew|apply IsS62.set_0|apply IsS62.set_1)|exact HI205.out)) hg (IsS62.own_ne HI205.out HO222.out (by decide)))
               have n1_:=ak_ (IsS31.grown (by repeat (first|(with_reducible first|exact HI206.out|apply IsS31.alloc|apply IsS31.drewN|apply IsS31.drew|apply IsS31.set_0|apply IsS31.set_1)|exact HI206.out)) hg (IsS31.own_ne HI206.out HO222.out (by decide)))
               have n2_:=ak_ (Kd.R_over' (by (with_reducible repeat (first|apply ra_|apply rb_|apply rc_));exact HO219.out) (Kd.R_typed (by (with_reducible repeat (first|apply ra_|apply rb_|apply rc_));exact HO222.out)) (by decide) hg)
               have n3_:=ak_ (hb)
               have n4_:=ak_ (ho)
               clear HI205
               clear HI206
               clear HO219
               clear HB
               clear HO222
               have HI205:=n0_
               have HI206:=n1_
               have HO219:=n2_
               have HB:=n3_
               have HO226:=n4_
               clear n0_ n1_ n2_ n3_ n4_
               clear ho hb hg hat
               obtain ⟨Ao39,co39,eo39⟩:=Kd.R_slice HO226.out
               (first|subst eo39|(injection eo39 with f1_ f2_ f3_;have f4_:=f1_.symm;have f5_:=f3_.symm;clear f1_ f2_ f3_;subst f4_;subst f5_))
               refine hK.out _ _ ⟨(blk_cell (ak_ HI206.out.1).out 0).trans rfl,(blk_cell (ak_ HI206.out.1).out 1).trans rfl,((HB.out.cell (World.block_lt_of_cell? w _ hw223_0)).trans hw223_0)⟩ (fun hHeld => ?_)
               clear hK K
               refine norm_ (a':=?_) ?_ ?_
               rotate_left
               ·show Act.put _ (some 63) _ = _
                simp only [Act.put,List.setIfInBounds_toArray,List.set_cons_zero,List.set_cons_succ,i64_w,i32_w]
                rfl
               refine one_ (i:=7) (N:=some 64) #[true,true,true,true,true,true,true,true,true,false,false,false,false,false,false,false,false] rfl rfl (one_of HT_.out (by kernel_rfl)) (by decide) (fun K hK => ?_)
               refine goes_ Try.func20 (by kernel_rfl) rfl #[.pointer (some ⟨g205,0,none⟩),.slice Ao39 y224.length co39] (by rfl) rfl rfl (by (try simp only [List.map_toArray,List.map_cons,List.map_nil]);first|done|rfl|(simp only [List.length_drop,List.length_take];rfl)) ?_
               with_reducible refine (vad_Meter_Step.calls kj11 g205 x206000_1 x206001_1 _ _ y224 t227 t228 t229 w _ ?side1 ?side2 ?side3 ?side4 ?side5 A29.out).mono ?_
               (case side1 => repeat (first|(with_reducible first|exact HI205.out|apply IsS62.alloc|apply IsS62.drewN|apply IsS62.drew|apply IsS62.set_0|apply IsS62.set_1)|exact HI205.out))
               (case side2 => repeat (first|(with_reducible first|exact HB.out|apply ba_|apply bb_|apply bc_|refine below_set ?_ (IsS62.ge HI205.out)|refine below_set ?_ (IsS31.ge HI206.out))|exact HB.out))
               (case side3 => repeat (first|exact (Kd.R_reads' HO226.out).2.2|(with_reducible refine Kd.C_alloc ?_ _)|(with_reducible refine Kd.C_drewN ?_ _)|(with_reducible refine Kd.C_drew ?_)))
               (case side4 => exact (Kd.R_reads' HO226.out).2.1)
               (case side5 => exact far_slice (IsS62.own_ne HI205.out HO226.out (by decide)))
               rintro e w40 ⟨rfl,hi,hb,hk⟩
               refine ⟨_,rfl,?_⟩
               have n0_:=ak_ (IsS31.keepB (show IsS31 w _ gb206 t215 t216 from by repeat (first|(with_reducible first|exact HI206.out|apply IsS31.alloc|apply IsS31.drewN|apply IsS31.drew|apply IsS31.set_0|apply IsS31.set_1)|exact HI206.out)) hk NS206_205.out)
               have n1_:=ak_ (Kd.R_mono (Kd.R_keep (IsS62.apart (show IsS62 w _ g205 x206000_1 x206001_1 from by repeat (first|(with_reducible first|exact HI205.out|apply IsS62.alloc|apply IsS62.drewN|apply IsS62.drew|apply IsS62.set_0|apply IsS62.set_1)|exact HI205.out)) (by (with_reducible repeat (first|apply ra_|apply rb_|apply rc_));exact HO219.out) (by decide)) hk (fun _ h => h.2)) (fun _ h => h.1))
               have n2_:=ak_ (Kd.R_mono (Kd.R_keep (IsS62.apart (show IsS62 w _ g205 x206000_1 x206001_1 from by repeat (first|(with_reducible first|exact HI205.out|apply IsS62.alloc|apply IsS62.drewN|apply IsS62.drew|apply IsS62.set_0|apply IsS62.set_1)|exact HI205.out)) (by (with_reducible repeat (first|apply ra_|apply rb_|apply rc_));exact HO226.out) (by decide)) hk (fun _ h => h.2)) (fun _ h => h.1))
               have n3_:=ak_ (hb)
               have n4_:=ak_ (hi)
               clear HI206
               clear HO219
               clear HO226
               clear HB
               clear HI205
               have HI206:=n0_
               have HO219:=n1_
               have HO226:=n2_
               have HB:=n3_
               have HI205:=n4_
               clear n0_ n1_ n2_ n3_ n4_
               (try clear hb)
               (try clear hk)
               (try clear hi)
               refine hK.out _ _ ⟨(blk_cell (ak_ HI206.out.1).out 0).trans rfl,(blk_cell (ak_ HI206.out.1).out 1).trans rfl,((HB.out.cell (World.block_lt_of_cell? w _ hw223_0)).trans hw223_0)⟩ (fun hHeld => ?_)
               clear hK K
               refine norm_ (a':=?_) ?_ ?_
               rotate_left
               ·show Act.put _ (some 64) _ = _
                simp only [Act.put,List.setIfInBounds_toArray,List.set_cons_zero,List.set_cons_succ,i64_w,i32_w]
                rfl
               refine pure_ (i:=9) (N:=some 66) (v:=?_) (a':=?_) #[true,true,true,true,true,true,true,true,true,true,false,false,false,false,false,false,false] rfl rfl (any_of HT_.out (by kernel_rfl)) (fun _ _ _ h => h) (Or.inl ⟨by rfl,?_⟩) ?_ ?_
               rotate_left
               ·intro w'
                go_simp
                with_reducible rfl
               rotate_left
               ·simp only [Act.put,List.setIfInBounds_toArray,List.set_cons_zero,List.set_cons_succ,i64_w,i32_w]
                rfl
               refine pure_ (i:=10) (N:=some 67) (v:=?_) (a':=?_) #[true,true,true,true,true,true,true,true,true,true,true,false,false,false,false,false,false] rfl rfl (any_of HT_.out (by kernel_rfl)) (fun _ _ _ h => h) (Or.inl ⟨by rfl,?_⟩) ?_ ?_
               rotate_left
               ·intro w'
                go_simp
                with_reducible rfl
               rotate_left
               ·simp only [Act.put,List.setIfInBounds_toArray,List.set_cons_zero,List.set_cons_succ,i64_w,i32_w]
                rfl
               refine pure_ (i:=11) (N:=some 68) (v:=?_) (a':=?_) #[true,true,true,true,true,true,true,true,true,true,true,true,false,false,false,false,false] rfl rfl (any_of HT_.out (by kernel_rfl)) (fun _ _ _ h => h) (Or.inl ⟨by rfl,?_⟩) ?_ ?_
               rotate_left
               ·intro w'
                go_simp
                with_reducible rfl
               rotate_left
               ·simp only [Act.put,List.setIfInBounds_toArray,List.set_cons_zero,List.set_cons_succ,i64_w,i32_w]
                rfl
               refine pure_ (i:=13) (N:=some 70) (v:=?_) (a':=?_) #[true,true,true,true,true,true,true,true,true,true,true,true,false,true,false,false,false] rfl rfl (any_of HT_.out (by kernel_rfl)) (fun _ _ _ h => h) (Or.inl ⟨by rfl,?_⟩) ?_ ?_
               rotate_left
               ·intro w'
                go_simp
                with_reducible rfl
               rotate_left
               ·simp only [Act.put,List.setIfInBounds_toArray,List.set_cons_zero,List.set_cons_succ,i64_w,i32_w]
                rfl
               refine take_ (i:=14) (N:=some 71) (v:=?_) (a':=?_) #[true,true,true,true,true,true,true,true,true,true,true,true,false,true,true,false,false] rfl rfl (take_ofW HT_.out HW_.out (by kernel_rfl)) (fun _ _ _ h => h) (Or.inl ⟨by rfl,?_⟩) hHeld ?_ ?_
               rotate_left
               ·rintro w' ⟨s0,s1,s2⟩
                go_simp
                with_reducible rfl
               rotate_left
               ·simp only [Act.put,List.setIfInBounds_toArray,List.set_cons_zero,List.set_cons_succ,i64_w,i32_w]
                rfl
               refine one_ (i:=12) (N:=some 69) #[true,true,true,true,true,true,true,true,true,true,true,true,true,true,true,false,false] rfl rfl (one_of HT_.out (by kernel_rfl)) (by decide) (fun K hK => ?_)
               refine goes_ Try.func21 (by kernel_rfl) rfl #[.pointer (some ⟨g205,0,none⟩)] (by rfl) rfl rfl (by (try simp only [List.map_toArray,List.map_cons,List.map_nil]);first|done|rfl|(simp only [List.length_drop,List.length_take];rfl)) ?_
               with_reducible refine (vad_Meter_Floor.calls g205 t228 t229 t230 t231 t232 w _ ?side1 ?side2 A31.out).mono ?_
               (case side1 => repeat (first|(with_reducible first|exact HI205.out|apply IsS62.alloc|apply IsS62.drewN|apply IsS62.drew|apply IsS62.set_0|apply IsS62.set_1)|exact HI205.out))
               (case side2 => repeat (first|(with_reducible first|exact HB.out|apply ba_|apply bb_|apply bc_|refine below_set ?_ (IsS62.ge HI205.out)|refine below_set ?_ (IsS31.ge HI206.out))|exact HB.out))
               rintro e w41 ⟨rfl,hi,hb,hk⟩
               refine ⟨_,rfl,?_⟩
               have n0_:=ak_ (IsS31.keepB (show IsS31 w _ gb206 t215 t216 from by repeat (first|(with_reducible first|exact HI206.out|apply IsS31.alloc|apply IsS31.drewN|apply IsS31.drew|apply IsS31.set_0|apply IsS31.set_1)|exact HI206.out)) hk NS206_205.out)
               have n1_:=ak_ (Kd.R_mono (Kd.R_keep (IsS62.apart (show IsS62 w _ g205 t228 t229 from by repeat (first|(with_reducible first|exact HI205.out|apply IsS62.alloc|apply IsS62.drewN|apply IsS62.drew|apply IsS62.set_0|apply IsS62.set_1)|exact HI205.out)) (by (with_reducible repeat (first|apply ra_|apply rb_|apply rc_));exact HO219.out) (by decide)) hk (fun _ h => h.2)) (fun _ h => h.1))
               have n2_:=ak_ (Kd.R_mono (Kd.R_keep (IsS62.apart (show IsS62 w _ g205 t228 t229 from by repeat (first|(with_reducible first|exact HI205.out|apply IsS62.alloc|apply IsS62.drewN|apply IsS62.drew|apply IsS62.set_0|apply IsS62.set_1)|exact HI205.out)) (by (with_reducible repeat (first|apply ra_|apply rb_|apply rc_));exact HO226.out) (by decide)) hk (fun _ h => h.2)) (fun _ h => h.1))
               have n3_:=ak_ (hb)
               have n4_:=ak_ (hi)
               clear HI206
               clear HO219
               clear HO226
               clear HB
               clear HI205
               have HI206:=n0_
               have HO219:=n1_
               have HO226:=n2_
               have HB:=n3_
               have HI205:=n4_
               clear n0_ n1_ n2_ n3_ n4_
               (try clear hb)
               (try clear hk)
               (try clear hi)
               refine hK.out _ _ ⟨(blk_cell (ak_ HI206.out.1).out 0).trans rfl,(blk_cell (ak_ HI206.out.1).out 1).trans rfl,((HB.out.cell (World.block_lt_of_cell? w _ hw223_0)).trans hw223_0)⟩ (fun hHeld => ?_)
               clear hK K
               refine norm_ (a':=?_) ?_ ?_
               rotate_left
               ·show Act.put _ (some 69) _ = _
                simp only [Act.put,List.setIfInBounds_toArray,List.set_cons_zero,List.set_cons_succ,i64_w,i32_w]
                rfl
               refine pure_ (i:=15) (N:=some 72) (v:=?_) (a':=?_) #[true,true,true,true,true,true,true,true,true,true,true,true,true,true,true,true,false] rfl rfl (any_of HT_.out (by kernel_rfl)) (fun _ _ _ h => h) (Or.inl ⟨by rfl,?_⟩) ?_ ?_
               rotate_left
               ·intro w'
                go_simp
                with_reducible rfl
               rotate_left
               ·simp only [Act.put,List.setIfInBounds_toArray,List.set_cons_zero,List.set_cons_succ,i64_w,i32_w]
                rfl
               refine pure_ (i:=16) (N:=some 73) (v:=?_) (a':=?_) #[true,true,true,true,true,true,true,true,true,true,true,true,true,true,true,true,true] rfl rfl (any_of HT_.out (by kernel_rfl)) (fun _ _ _ h => h) (Or.inl ⟨by rfl,?_⟩) ?_ ?_
               rotate_left
               ·intro w'
                go_simp
                with_reducible rfl
               rotate_left
               ·simp only [Act.put,List.setIfInBounds_toArray,List.set_cons_zero,List.set_cons_succ,i64_w,i32_w]
                rfl
               refine done_ (done_of HT_.out (by kernel_rfl)) ?_
               try go_wp2
               go_roundg kj11
               case measure => have:=HK1.out;have:=HJ11.out;omega
               case rel => exact ⟨(y217),(wrap64 (x6_1 + 1)),(t231),(t232),(t215),(t216),(by first|rfl|(simp;done)|(simp [*];done)),H',⟨by have:=HK1.out;have:=HJ11.out;omega⟩,⟨by (with_reducible repeat (first|apply ra_|apply rb_|apply rc_));exact HO219.out⟩,⟨by repeat (first|(with_reducible first|exact HI205.out|apply IsS62.alloc|apply IsS62.drewN|apply IsS62.drew|apply IsS62.set_0|apply IsS62.set_1)|exact HI205.out)⟩,⟨by repeat (first|(with_reducible first|exact HI206.out|apply IsS31.alloc|apply IsS31.drewN|apply IsS31.drew|apply IsS31.set_0|apply IsS31.set_1)|exact HI206.out)⟩,⟨by repeat (first|(with_reducible first|exact HB.out|apply ba_|apply bb_|apply bc_|refine below_set ?_ (IsS62.ge HI205.out)|refine below_set ?_ (IsS31.ge HI206.out))|exact HB.out)⟩⟩
              ·rw [if_neg c32] at H
               exact absurd H (by simp)
            ·rw [if_neg c28] at H
             exact absurd H (by simp)
           ·rw [if_neg c27] at H
            exact absurd H (by simp)
          ·rw [if_neg c25] at H
           exact absurd H (by simp)
         ·rw [if_neg c24] at H
          exact absurd H (by simp)
     ·rw [if_neg c11] at H
      have c11b0:=decide_eq_false c11
      clear c11
      replace H:=Option.bind_eq_some_iff.mp H
      obtain ⟨⟨t233,t234⟩,A420,H⟩:=H
      (try dsimp only at H)
      have A42:=ak_ A420
      clear A420
      replace H:=Option.bind_eq_some_iff.mp H
      obtain ⟨⟨t236,t239,t240⟩,A430,H⟩:=H
      (try dsimp only at H)
      have A43:=ak_ A430
      clear A430
      by_cases c44 : (t236.length : Int) = (x5_1.length : Int)
      ·rw [if_pos c44] at H
       have c44b0 : ((t236.length : Int) == (x5_1.length : Int)) = true:=beq_iff_eq.mpr c44
       have c44b1 : ((t236.length : Int) != (x5_1.length : Int)) = false:=bne_eq_false_iff_eq.mpr c44
       have c44b2 : (t236.length == x5_1.length) = true:=by first|simpa using c44|(simp at c44 ⊢;omega)
       clear c44
       have H':=ak_ H
       clear H
       go_wp2_with (first|((with_reducible refine gate_callee (f:=16) rfl ?_);refine goesL_ (some 74) rfl rfl Try.func16 (by kernel_rfl) rfl #[] rfl (by (try simp only [List.map_toArray,List.map_cons,List.map_nil]);first|done|rfl|(simp only [List.length_drop,List.length_take];rfl)) ?_;(with_reducible refine (vad_New.calls  t233 t234 w _ ?side1 A42.out).mono ?_);(case side1 => repeat (first|(with_reducible first|exact HB.out|apply ba_|apply bb_|apply bc_|refine below_set ?_ (IsS62.ge HI205.out)|refine below_set ?_ (IsS31.ge HI206.out))|exact HB.out));rintro e w45 ⟨g235,rfl,hi,hb,hb2,hge⟩;refine ⟨_,rfl,?_⟩;have n0_:=ak_ (Kd.R_below (by (with_reducible repeat (first|apply ra_|apply rb_|apply rc_));exact HO_5.out) hb2);have n1_:=ak_ (IsS62.below (by repeat (first|(with_reducible first|exact HI205.out|apply IsS62.alloc|apply IsS62.drewN|apply IsS62.drew|apply IsS62.set_0|apply IsS62.set_1)|exact HI205.out)) hb2);have n2_:=ak_ (IsS31.below (by repeat (first|(with_reducible first|exact HI206.out|apply IsS31.alloc|apply IsS31.drewN|apply IsS31.drew|apply IsS31.set_0|apply IsS31.set_1)|exact HI206.out)) hb2);have n3_:=ak_ (Nat.ne_of_gt (Nat.lt_of_lt_of_le (IsS62.lt (show IsS62 w _ g205 x206000_1 x206001_1 from by repeat (first|(with_reducible first|exact HI205.out|apply IsS62.alloc|apply IsS62.drewN|apply IsS62.drew|apply IsS62.set_0|apply IsS62.set_1)|exact HI205.out))) hge));have n4_:=ak_ (Nat.ne_of_gt (Nat.lt_of_lt_of_le (IsS31.lt (show IsS31 w _ gb206 x207000_1 x207001_1 from by repeat (first|(with_reducible first|exact HI206.out|apply IsS31.alloc|apply IsS31.drewN|apply IsS31.drew|apply IsS31.set_0|apply IsS31.set_1)|exact HI206.out))) hge));have n5_:=ak_ (hb);have n6_:=ak_ (hi);clear HO_5;clear HI205;clear HI206;clear HB;have HO_5:=n0_;have HI205:=n1_;have HI206:=n2_;have NS235_205:=n3_;have NS235_206:=n4_;have HB:=n5_;have HI235:=n6_;clear n0_ n1_ n2_ n3_ n4_ n5_ n6_;(try clear hb);(try clear hb2);(try clear hi);(try clear hge))|((with_reducible refine gate_callee (f:=17) rfl ?_);refine goesL_ (some 76) rfl rfl Try.func17 (by kernel_rfl) rfl #[.pointer (some ⟨g235,0,none⟩),.slice A0 l0.length c0] rfl (by (try simp only [List.map_toArray,List.map_cons,List.map_nil]);first|done|rfl|(simp only [List.length_drop,List.length_take];rfl)) ?_;(with_reducible refine (vad_Meter_Each.calls k1 g235 t233 t234 _ _ l0 t236 t239 t240 w _ ?side1 ?side2 ?side3 ?side4 A43.out).mono ?_);(case side1 => repeat (first|(with_reducible first|exact HI235.out|apply IsS62.alloc|apply IsS62.drewN|apply IsS62.drew|apply IsS62.set_0|apply IsS62.set_1)|exact HI235.out));(case side2 => repeat (first|(with_reducible first|exact HB.out|apply ba_|apply bb_|apply bc_|refine below_set ?_ (IsS62.ge HI205.out)|refine below_set ?_ (IsS31.ge HI206.out)|refine below_set ?_ (IsS62.ge HI235.out))|exact HB.out));(case side3 => exact Kd.C_foot_came (Kd.heap_slice 2 (Kd.heap_int .i64)) HR0.out (by repeat (first|(with_reducible first|exact HB.out|apply ba_|apply bb_|apply bc_|refine below_set ?_ (IsS62.ge HI205.out)|refine below_set ?_ (IsS31.ge HI206.out)|refine below_set ?_ (IsS62.ge HI235.out))|exact HB.out)) (IsS62.ge HI235.out));(case side4 => exact HC0.out);rintro e w46 ⟨v237,rfl,ho0,hi,hb,hk⟩;refine ⟨_,rfl,?_⟩;have n0_:=ak_ (Kd.R_mono (Kd.R_told (Kd.R_oldK (IsS62.apart (show IsS62 w _ g235 t233 t234 from by repeat (first|(with_reducible first|exact HI235.out|apply IsS62.alloc|apply IsS62.drewN|apply IsS62.drew|apply IsS62.set_0|apply IsS62.set_1)|exact HI235.out)) (by (with_reducible repeat (first|apply ra_|apply rb_|apply rc_));exact HO_5.out) (by decide)) hk) (Kd.R_base ho0)) (fun _ h_ => h_.1));have n1_:=ak_ (IsS62.keepB (show IsS62 w _ g205 x206000_1 x206001_1 from by repeat (first|(with_reducible first|exact HI205.out|apply IsS62.alloc|apply IsS62.drewN|apply IsS62.drew|apply IsS62.set_0|apply IsS62.set_1)|exact HI205.out)) hk (Ne.symm NS235_205.out));have n2_:=ak_ (IsS31.keepB (show IsS31 w _ gb206 x207000_1 x207001_1 from by repeat (first|(with_reducible first|exact HI206.out|apply IsS31.alloc|apply IsS31.drewN|apply IsS31.drew|apply IsS31.set_0|apply IsS31.set_1)|exact HI206.out)) hk (Ne.symm NS235_206.out));have n3_:=ak_ (Kd.R_lower (Kd.R_new' ho0 (Kd.R_lt (by (with_reducible repeat (first|apply ra_|apply rb_|apply rc_));exact HO_5.out))) (below_size (by repeat (first|(with_reducible first|exact HB.out|apply ba_|apply bb_|apply bc_|refine below_set ?_ (IsS62.ge HI205.out)|refine below_set ?_ (IsS31.ge HI206.out)|refine below_set ?_ (IsS62.ge HI235.out))|exact HB.out))));have n4_:=ak_ (hb);have n5_:=ak_ (hi);clear HO_5;clear HI205;clear HI206;clear HB;clear HI235;have HO_5:=n0_;have HI205:=n1_;have HI206:=n2_;have HO238:=n3_;have HB:=n4_;have HI235:=n5_;clear n0_ n1_ n2_ n3_ n4_ n5_;(try clear hb);(try clear hk);(try clear hi);(try clear ho0);obtain ⟨Ao47,co47,eo47⟩:=Kd.R_slice HO238.out;subst eo47;obtain ⟨Ao48,co48,eo48⟩:=Kd.R_slice HO_5.out;subst eo48))
       go_loopg [9] k1 (fun kq v9 w' => ∃ (x9_2 : Int),v9 = .int .i64 x9_2 ∧ Aside0 (madrigallaw13_VadHears.l1 kq x5_1 t236 x9_2 = some r) ∧ Aside0 (kq ≤ k1) ∧ Aside0 (Kd.R Kd.bool 4 w' w.heap.size (fun k_ => some k_ ≠ ((.slice Ao47 t236.length co47) : Value).ownBlock) (.slice Ao48 x5_1.length co48) x5_1) ∧ Aside0 (Kd.R Kd.bool 4 w' w.heap.size (fun k_ => some k_ ≠ ((.slice Ao48 x5_1.length co48) : Value).ownBlock) (.slice Ao47 t236.length co47) t236) ∧ Aside0 (Below w.heap.size w w'))
       case atStart => exact ⟨(0),(by first|rfl|(simp;done)|(simp [*];done)),H',⟨Nat.le_refl _⟩,⟨by (with_reducible repeat (first|apply ra_|apply rb_|apply rc_));exact Kd.R_mono HO_5.out (fun _ hk => hk.2)⟩,⟨by (with_reducible repeat (first|apply ra_|apply rb_|apply rc_));exact Kd.R_mono HO238.out (fun _ hk => hk.2)⟩,⟨by repeat (first|(with_reducible first|exact HB.out|apply ba_|apply bb_|apply bc_|refine below_set ?_ (IsS62.ge HI205.out)|refine below_set ?_ (IsS31.ge HI206.out)|refine below_set ?_ (IsS62.ge HI235.out))|exact HB.out)⟩⟩
       case round => as_aux_lemma =>
        clear H'
        try clear c1
        try clear c2
        try clear p2
        try clear q2
        try clear hx2
        try clear c3
        try clear c4
        try clear c4b0
        try clear c4b1
        try clear p6
        try clear c11
        try clear c11b0
        try clear c13
        try clear c13b0
        try clear c14
        try clear c14b0
        try clear c14b1
        try clear c15
        try clear c16
        try clear c17
        try clear c18
        try clear c19
        try clear c20
        try clear p20
        try clear q20
        try clear hx20
        try clear c21
        try clear p21
        try clear q21
        try clear hx21
        try clear c22
        try clear c22b0
        try clear p22
        try clear q22
        try clear hx22
        try clear c23
        try clear c23b0
        try clear c24
        try clear c24b0
        try clear c25
        try clear c25b0
        try clear c27
        try clear c28
        try clear c30
        try clear c30b0
        try clear c30b1
        try clear c30b2
        try clear c32
        try clear c32b0
        try clear c32b1
        try clear c44
        try clear c44b0
        try clear c44b1
        try clear c44b2
        try clear hcz10_0
        try clear hcz10_1
        try clear hfz10_0
        try clear hfz10_1
        try clear hx207_0
        try clear hx208_0
        try clear hx210_0
        try clear hx212_0
        try clear hx213_0
        try clear hx223_0
        try clear p2
        try clear p20
        try clear p207
        try clear p208
        try clear p210
        try clear p212
        try clear p213
        try clear p223
        try clear q2
        try clear q20
        try clear q207
        try clear q208
        try clear q210
        try clear q212
        try clear q213
        try clear q223
        obtain ⟨x9_2,rfl,HA,HK2,HO_5,HO_8,HB⟩:=hrel
        (try simp only [i64_w,i32_w])
        cases gk with
        | zero => exact absurd HA.out (by simp [madrigallaw13_VadHears.l1])
        | succ k2 =>
         have H:=HA.out
         clear HA
         simp only [madrigallaw13_VadHears.l1] at H
         by_cases c49 : x9_2 < (t236.length : Int)
         ·rw [if_pos c49] at H
          have c49b0:=decide_eq_true c49
          clear c49
          by_cases c50 : 0 ≤ x9_2
          ·rw [if_pos c50] at H
           have c50b0:=decide_eq_true c50
           clear c50
           by_cases c51 : x9_2 < (x5_1.length : Int)
           ·rw [if_pos c51] at H
            have c51b0:=decide_eq_true c51
            clear c51
            by_cases c52 : ((rdOf false t236 x9_2) != (rdOf false x5_1 x9_2)) = true
            ·rw [if_pos c52] at H
             exact absurd H (by simp)
            ·rw [if_neg c52] at H
             have c52b0 : ((rdOf false t236 x9_2) != (rdOf false x5_1 x9_2)) = false:=by simpa using c52
             (try (have c52b1 : decide ((rdOf false t236 x9_2) = (rdOf false x5_1 x9_2)) = true:=by simpa using c52))
             (try (have c52b2 : ((rdOf false t236 x9_2) == (rdOf false x5_1 x9_2)) = true:=by simpa using c52))
             clear c52
             have H':=ak_ H
             clear H
             try go_wp2
             have n0_:=ak_ (Kd.R_drew HO_5.out)
             have n1_:=ak_ (Kd.R_drew HO_8.out)
             have n2_:=ak_ (below_drew1 HB.out)
             clear HO_5
             clear HO_8
             clear HB
             have HO_5:=n0_
             have HO_8:=n1_
             have HB:=n2_
             clear n0_ n1_ n2_
             have p241 : 0 ≤ (x9_2 : Int):=of_decide_eq_true (by first|(with_reducible assumption)|assumption)
             have q241 : x9_2 < (t236.length : Int):=of_decide_eq_true (by first|(with_reducible assumption)|assumption)
             obtain ⟨ad241,e241,hx241_0⟩:=Kd.at_bool (Kd.R_reads' HO_8.out).2.2 x9_2 p241 q241
             cases e241
             replace p241:=eq_true p241
             replace q241:=eq_true q241
             have p242 : 0 ≤ (x9_2 : Int):=of_decide_eq_true (by first|(with_reducible assumption)|assumption)
             have q242 : x9_2 < (x5_1.length : Int):=of_decide_eq_true (by first|(with_reducible assumption)|assumption)
             obtain ⟨ad242,e242,hx242_0⟩:=Kd.at_bool (Kd.R_reads' HO_5.out).2.2 x9_2 p242 q242
             cases e242
             replace p242:=eq_true p242
             replace q242:=eq_true q242
             refine start_ (n:=9) (S:=fun w' => w'.cell? (ad241.add (x9_2).toNat) = some (.bool (rdOf false t236 x9_2)) ∧ w'.cell? (ad242.add (x9_2).toNat) = some (.bool (rdOf false x5_1 x9_2))) (ds:=[]) #[false,false,false,false,false,false,false,false,false] (by kernel_rfl) rfl rfl ⟨hx241_0,hx242_0⟩ (fun hHeld => ?_);refine with_tabW madrigallaw13_VadHears.tab23 madrigallaw13_VadHears.bits23 (fun HT_ HW_ => ?_)
             generalize wr.drew = w53 at HO_5 HO_8 HB hx241_0 hx242_0 hHeld ⊢
             refine pure_ (i:=0) (N:=some 88) (v:=?_) (a':=?_) #[true,false,false,false,false,false,false,false,false] rfl rfl (any_of HT_.out (by kernel_rfl)) (fun _ _ _ h => h) (Or.inl ⟨by rfl,?_⟩) ?_ ?_
             rotate_left
             ·intro w'
              go_simp
              with_reducible rfl
             rotate_left
             ·simp only [Act.put,List.setIfInBounds_toArray,List.set_cons_zero,List.set_cons_succ,i64_w,i32_w]
              rfl
             refine pure_ (i:=1) (N:=some 89) (v:=?_) (a':=?_) #[true,true,false,false,false,false,false,false,false] rfl rfl (any_of HT_.out (by kernel_rfl)) (fun _ _ _ h => h) (Or.inl ⟨by rfl,?_⟩) ?_ ?_
             rotate_left
             ·intro w'
              go_simp
              with_reducible rfl
             rotate_left
             ·simp only [Act.put,List.setIfInBounds_toArray,List.set_cons_zero,List.set_cons_succ,i64_w,i32_w]
              rfl
             refine pure_ (i:=2) (N:=some 90) (v:=?_) (a':=?_) #[true,true,true,false,false,false,false,false,false] rfl rfl (any_of HT_.out (by kernel_rfl)) (fun _ _ _ h => h) (Or.inl ⟨by rfl,?_⟩) ?_ ?_
             rotate_left
             ·intro w'
              go_simp
              with_reducible rfl
             rotate_left
             ·simp only [Act.put,List.setIfInBounds_toArray,List.set_cons_zero,List.set_cons_succ,i64_w,i32_w]
              rfl
             refine pure_ (i:=4) (N:=some 92) (v:=?_) (a':=?_) #[true,true,true,false,true,false,false,false,false] rfl rfl (any_of HT_.out (by kernel_rfl)) (fun _ _ _ h => h) (Or.inl ⟨by rfl,?_⟩) ?_ ?_
             rotate_left
             ·intro w'
              go_simp
              with_reducible rfl
             rotate_left
             ·simp only [Act.put,List.setIfInBounds_toArray,List.set_cons_zero,List.set_cons_succ,i64_w,i32_w]
              rfl
             refine pure_ (i:=5) (N:=some 93) (v:=?_) (a':=?_) #[true,true,true,false,true,true,false,false,false] rfl rfl (any_of HT_.out (by kernel_rfl)) (fun _ _ _ h => h) (Or.inl ⟨by rfl,?_⟩) ?_ ?_
             rotate_left
             ·intro w'
              go_simp
              with_reducible rfl
             rotate_left
             ·simp only [Act.put,List.setIfInBounds_toArray,List.set_cons_zero,List.set_cons_succ,i64_w,i32_w]
              rfl
             refine pure_ (i:=6) (N:=some 94) (v:=?_) (a':=?_) #[true,true,true,false,true,true,true,false,false] rfl rfl (any_of HT_.out (by kernel_rfl)) (fun _ _ _ h => h) (Or.inl ⟨by rfl,?_⟩) ?_ ?_
             rotate_left
             ·intro w'
              go_simp
              with_reducible rfl
             rotate_left
             ·simp only [Act.put,List.setIfInBounds_toArray,List.set_cons_zero,List.set_cons_succ,i64_w,i32_w]
              rfl
             refine take_ (i:=3) (N:=some 91) (v:=?_) (a':=?_) #[true,true,true,true,true,true,true,false,false] rfl rfl (take_ofW HT_.out HW_.out (by kernel_rfl)) (fun _ _ _ h => h) (Or.inl ⟨by rfl,?_⟩) hHeld ?_ ?_
             rotate_left
             ·rintro w' ⟨s0,s1⟩
              go_simp
              with_reducible rfl
             rotate_left
             ·simp only [Act.put,List.setIfInBounds_toArray,List.set_cons_zero,List.set_cons_succ,i64_w,i32_w]
              rfl
             refine take_ (i:=7) (N:=some 95) (v:=?_) (a':=?_) #[true,true,true,true,true,true,true,true,false] rfl rfl (take_ofW HT_.out HW_.out (by kernel_rfl)) (fun _ _ _ h => h) (Or.inl ⟨by rfl,?_⟩) hHeld ?_ ?_
             rotate_left
             ·rintro w' ⟨s0,s1⟩
              go_simp
              with_reducible rfl
             rotate_left
             ·simp only [Act.put,List.setIfInBounds_toArray,List.set_cons_zero,List.set_cons_succ,i64_w,i32_w]
              rfl
             refine pure_ (i:=8) (N:=some 96) (v:=?_) (a':=?_) #[true,true,true,true,true,true,true,true,true] rfl rfl (any_of HT_.out (by kernel_rfl)) (fun _ _ _ h => h) (Or.inl ⟨by rfl,?_⟩) ?_ ?_
             rotate_left
             ·intro w'
              go_simp
              with_reducible rfl
             rotate_left
             ·simp only [Act.put,List.setIfInBounds_toArray,List.set_cons_zero,List.set_cons_succ,i64_w,i32_w]
              rfl
             refine done_ (done_of HT_.out (by kernel_rfl)) ?_
             try go_wp2
             go_roundg k2
             case measure => have:=HK1.out;have:=HK2.out;omega
             case rel => exact ⟨(wrap64 (x9_2 + 1)),(by first|rfl|(simp;done)|(simp [*];done)),H',⟨by have:=HK1.out;have:=HK2.out;omega⟩,⟨by (with_reducible repeat (first|apply ra_|apply rb_|apply rc_));exact HO_5.out⟩,⟨by (with_reducible repeat (first|apply ra_|apply rb_|apply rc_));exact HO_8.out⟩,⟨by repeat (first|(with_reducible first|exact HB.out|apply ba_|apply bb_|apply bc_)|exact HB.out)⟩⟩
           ·rw [if_neg c51] at H
            exact absurd H (by simp)
          ·rw [if_neg c50] at H
           exact absurd H (by simp)
         ·rw [if_neg c49] at H
          have c49b0:=decide_eq_false c49
          clear c49
          obtain rfl:=Option.some.inj H
          go_wp2
          go_ret
          exact ⟨by first|rfl|(simp [errW_none,errW_some] <;> rfl)|(simp [*,errW_none,errW_some] <;> rfl),by repeat (first|(with_reducible first|exact HB.out|apply ba_|apply bb_|apply bc_)|exact HB.out)⟩
      ·rw [if_neg c44] at H
       exact absurd H (by simp)
 ·replace c3:=Bool.eq_false_iff.mpr c3
  subst c3
  have H1 : (none) = some r:=by rw [if_neg (show ¬ (false = true) by decide)] at H;exact H
  clear H
  have H:=H1
  clear H1
  exact absurd H (by simp)

/-- THE ONE PURE STATEMENT of madrigallaw13_VadHears. -/
def madrigallaw13_VadHears.Pure : Prop:=∀ (l0 : List (List Int)),l0.length ≤ maxLen → (∀ z ∈ l0,z.length ≤ maxLen ∧ ∀ x ∈ z,(Lit.int .i64 x).wf = true) → ∃ k,madrigallaw13_VadHears.f k l0 = some true
theorem madrigallaw13_VadHears.walk (P : madrigallaw13_VadHears.Pure) (a0 : Option Addr) (len0 cap0 : Nat) (z0 : List (List Int)) (w : World) (w0 : Kd.C (Kd.slice 2 (Kd.int .i64)) w a0 len0 z0) (y0 : len0 ≤ cap0 ∧ z0.length ≤ maxLen ∧ ∀ z ∈ z0,z.length ≤ maxLen ∧ ∀ x ∈ z,(Lit.int .i64 x).wf = true) :
  Calls Try.prog 4 #[.slice a0 len0 cap0] w fun e w' => e = .returned (.bool true) ∧ Below w.heap.size w w':=by
 obtain ⟨y0,hm0,hw0⟩:=y0
 obtain rfl : z0.length = len0:=w0.1
 obtain ⟨k,h⟩:=P z0 hm0 hw0
 refine (madrigallaw13_VadHears.calls k _ _ z0 true w w0 y0 h).mono ?_
 rintro e w' ⟨rfl,hd⟩
 exact ⟨rfl,hd⟩

end Go.Proofs.Ytdchabinakboeaa.P
