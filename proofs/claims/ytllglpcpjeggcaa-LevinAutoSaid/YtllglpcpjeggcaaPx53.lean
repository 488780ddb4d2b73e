/- The machine side of the laws of one chapter, without conditions: each call of a Go function comes to what the Lean function of its name answers. Written for this claim by a program of the prover. -/
import Derived.Test.YtllglpcpjeggcaaPx0
import Derived.Test.YtllglpcpjeggcaaPx3
import Derived.Test.YtllglpcpjeggcaaPx12
import Derived.Test.YtllglpcpjeggcaaPx25
namespace Go.Proofs.Ytllglpcpjeggcaa.P
open Go.RowKit Go.Proofs.YtllglpcpjeggcaaW.PrintWords Go.Proofs.YtllglpcpjeggcaaW.PrintLast Go.Proofs.YtllglpcpjeggcaaW.PrintMore
attribute [local go_sem] max2_int min2_int max_two min_two max_three min_three max_four min_four   -- for this text's walks alone
set_option linter.unusedVariables false
set_option linter.unusedSimpArgs false

/-! ### madrigallaw12_LevinAuto: function 8 -/
mutual
def madrigallaw12_LevinAuto.l0 : Nat → List Int → List Int → Int → Option (Bool)
 | 0,_,_,_ => none
 | k + 1,x0,x5,x7 => if x7 < (x5.length : Int) then (if 0 ≤ x7 then (if 0 < (x5.length : Int) then (if (rd x5 x7) > (rd x5 0) then (none) else (if (wrap64 (-(rd x5 x7))) > (rd x5 0) then (none) else (madrigallaw12_LevinAuto.l0 k x0 x5 (wrap64 (x7 + 1))))) else (none)) else (none)) else (madrigallaw12_LevinAuto.l1 k x0 x5 0)
def madrigallaw12_LevinAuto.l1 : Nat → List Int → List Int → Int → Option (Bool)
 | 0,_,_,_ => none
 | k + 1,x0,x5,x8 => if x8 < (x0.length : Int) then (if 0 ≤ x8 then (if (rd x0 x8) < (-32768) then (if 0 < (x5.length : Int) then (some (decide ((rd x5 0) ≥ 0))) else (none)) else (if (rd x0 x8) > 32767 then (if 0 < (x5.length : Int) then (some (decide ((rd x5 0) ≥ 0))) else (none)) else (madrigallaw12_LevinAuto.l1 k x0 x5 (wrap64 (x8 + 1))))) else (none)) else (if 0 < (x5.length : Int) then ((levin_Power.f k x0).bind fun t775 => (some ((rd x5 0) == t775))) else (none))
end
def madrigallaw12_LevinAuto.f (k : Nat) (l0 : List Int) (a1 : Int) : Option (Bool):=(madrigallaw12_awake.f k).bind fun t761 => (if t761 = true then ((levin_Auto.f k l0 a1).bind fun bt762 => (if bt762.2 = 0 then (madrigallaw12_LevinAuto.l0 k l0 bt762.1 1) else (some true))) else (none))
theorem madrigallaw12_LevinAuto.mono_l : ∀ k,(∀ y0 y1 y2,LeO (madrigallaw12_LevinAuto.l0 k y0 y1 y2) (madrigallaw12_LevinAuto.l0 (k + 1) y0 y1 y2)) ∧ (∀ y0 y1 y2,LeO (madrigallaw12_LevinAuto.l1 k y0 y1 y2) (madrigallaw12_LevinAuto.l1 (k + 1) y0 y1 y2))
 | 0 => ⟨fun _ _ _ r h => by simp [madrigallaw12_LevinAuto.l0] at h,fun _ _ _ r h => by simp [madrigallaw12_LevinAuto.l1] at h⟩
 | k + 1 => by
  obtain ⟨ih0,ih1⟩:=madrigallaw12_LevinAuto.mono_l k
  refine ⟨?_,?_⟩
  all_goals (intros;first|unfold madrigallaw12_LevinAuto.l0|unfold madrigallaw12_LevinAuto.l1)
  all_goals (repeat' first|(with_reducible first|exact ih0 _ _ _|exact ih1 _ _ _|exact levin_Auto.mono _ _ _|exact levin_Power.mono _ _|exact madrigallaw12_awake.mono _|exact LeO.refl _|exact LeO.none _|refine LeO.ite ?_ ?_|refine LeO.bind ?_ (fun _ => ?_))|exact ih0 _ _ _|exact ih1 _ _ _|exact levin_Auto.mono _ _ _|exact levin_Power.mono _ _|exact madrigallaw12_awake.mono _|exact LeO.none _|refine LeO.ite ?_ ?_|refine LeO.bind ?_ (fun _ => ?_))
theorem madrigallaw12_LevinAuto.mono : ∀ a0 a1 k,LeO (madrigallaw12_LevinAuto.f k a0 a1) (madrigallaw12_LevinAuto.f (k + 1) a0 a1):=by
 intro a0 a1 k
 obtain ⟨ih0,ih1⟩:=madrigallaw12_LevinAuto.mono_l k
 unfold madrigallaw12_LevinAuto.f
 repeat' first|(with_reducible first|exact ih0 _ _ _|exact ih1 _ _ _|exact levin_Auto.mono _ _ _|exact levin_Power.mono _ _|exact madrigallaw12_awake.mono _|exact LeO.refl _|exact LeO.none _|refine LeO.ite ?_ ?_|refine LeO.bind ?_ (fun _ => ?_))|exact ih0 _ _ _|exact ih1 _ _ _|exact levin_Auto.mono _ _ _|exact levin_Power.mono _ _|exact madrigallaw12_awake.mono _|exact LeO.none _|refine LeO.ite ?_ ?_|refine LeO.bind ?_ (fun _ => ?_)
def madrigallaw12_LevinAuto.T9 : Bool × List (List Nat × List Nat):=(true,[([],[]),([],[]),([0,1],[0,1]),([2],[2]),([],[]),([4],[4]),([5],[5]),([3,6],[3,6]),([7],[7]),([8],[8]),([8],[8]),([9,10,8],[8,9,10]),([11,8],[8,11]),([12,8],[8,12]),([8],[8]),([14,8],[8,14]),([15,8],[8,15]),([13,16,8],[8,13,16]),([8,17],[8,17])])
def madrigallaw12_LevinAuto.B9 : List Nat:=[0,0,3,7,0,16,48,127,255,511,511,2047,4095,8191,511,16895,49663,131071,262143]
theorem madrigallaw12_LevinAuto.tab9 : rtab .any (opsOf Try.f8 9) = madrigallaw12_LevinAuto.T9:=by kernel_rfl
theorem madrigallaw12_LevinAuto.bits9 : waitsOk madrigallaw12_LevinAuto.T9.2 madrigallaw12_LevinAuto.B9 = true:=by kernel_rfl
set_option maxHeartbeats 8000000 in
set_option maxRecDepth 100000 in
theorem madrigallaw12_LevinAuto.calls (k : Nat) (A0 : Option Addr) (c0 : Nat) (l0 : List Int) (a1 : Int) (r : Bool) (w : World) (hr0 : Kd.C (Kd.int .i64) w A0 l0.length l0) (hc0 : l0.length ≤ c0) (h : madrigallaw12_LevinAuto.f k l0 a1 = some r) :
  Calls Try.prog 8 #[.slice A0 l0.length c0,.int .i64 a1] w fun e w' => e = .returned (.bool r) ∧ Below w.heap.size w w':=by
 have HR0:=ak_ hr0
 have HC0:=ak_ hc0
 clear hr0 hc0
 have HB:=ak_ (Below.refl w.heap.size w)
 have H : ((madrigallaw12_awake.f k).bind fun t761 => (if t761 = true then ((levin_Auto.f k l0 a1).bind fun bt762 => (if bt762.2 = 0 then (madrigallaw12_LevinAuto.l0 k l0 bt762.1 1) else (some true))) else (none))) = some r:=h
 clear h
 replace H:=Option.bind_eq_some_iff.mp H
 obtain ⟨t761,A30,H⟩:=H
 (try dsimp only at H)
 have A3:=ak_ A30
 clear A30
 by_cases c4 : t761 = true
 ·subst c4
  have H1 : ((levin_Auto.f k l0 a1).bind fun bt762 => (if bt762.2 = 0 then (madrigallaw12_LevinAuto.l0 k l0 bt762.1 1) else (some true))) = some r:=by rw [if_pos rfl] at H;exact H
  clear H
  have H:=H1
  clear H1
  replace H:=Option.bind_eq_some_iff.mp H
  obtain ⟨⟨t762,t763⟩,A50,H⟩:=H
  (try dsimp only at H)
  have A5:=ak_ A50
  clear A50
  by_cases c6 : t763 = 0
  ·rw [if_pos c6] at H
   have c6b0 : (t763 == 0) = true:=beq_iff_eq.mpr c6
   have c6b1 : (t763 != 0) = false:=bne_eq_false_iff_eq.mpr c6
   clear c6
   have H':=ak_ H
   clear H
   go_enter Try.func8,Try.ntmps8
   go_wp2_with (first|((with_reducible refine gate_callee (f:=10) rfl ?_);refine goesL_ (some 9) rfl rfl Try.func10 (by kernel_rfl) rfl #[] rfl (by (try simp only [List.map_toArray,List.map_cons,List.map_nil]);first|done|rfl|(simp only [List.length_drop,List.length_take];rfl)) ?_;(with_reducible refine (madrigallaw12_awake.calls k  true _ A3.out).mono ?_);rintro e w7 ⟨rfl,hb⟩;refine ⟨_,rfl,?_⟩;have n0_:=ak_ (below_step (by repeat (first|(with_reducible first|exact HB.out|apply ba_|apply bb_|apply bc_)|exact HB.out)) hb);clear HB;have HB:=n0_;clear n0_;(try clear hb))|((with_reducible refine gate_callee (f:=11) rfl ?_);refine goesL_ (some 14) rfl rfl Try.func11 (by kernel_rfl) rfl #[.slice A0 l0.length c0,.int .i64 a1] rfl (by (try simp only [List.map_toArray,List.map_cons,List.map_nil]);first|done|rfl|(simp only [List.length_drop,List.length_take];rfl)) ?_;(with_reducible refine (levin_Auto.calls k _ _ l0 a1 t762 t763 _ ?side1 ?side2 A5.out).mono ?_);(case side1 => repeat (first|exact (Kd.C_below HR0.out HB.out)|(with_reducible refine Kd.C_alloc ?_ _)|(with_reducible refine Kd.C_drewN ?_ _)|(with_reducible refine Kd.C_drew ?_)));(case side2 => exact HC0.out);rintro e w8 ⟨v764,rfl,ho0,hb⟩;refine ⟨_,rfl,?_⟩;have n0_:=ak_ (Kd.R_lower ho0 (below_size (by repeat (first|(with_reducible first|exact HB.out|apply ba_|apply bb_|apply bc_)|exact HB.out))));have n1_:=ak_ (below_step (by repeat (first|(with_reducible first|exact HB.out|apply ba_|apply bb_|apply bc_)|exact HB.out)) hb);clear HB;have HO765:=n0_;have HB:=n1_;clear n0_ n1_;(try clear hb);(try clear ho0)))
   go_loopg [7] k (fun kq v7 w' => ∃ (x7_1 : Int),v7 = .int .i64 x7_1 ∧ Aside0 (madrigallaw12_LevinAuto.l0 kq l0 t762 x7_1 = some r) ∧ Aside0 (kq ≤ k) ∧ Aside0 (Kd.R (Kd.int .i64) 2 w' w.heap.size (fun _ => True) v764 t762) ∧ Aside0 (Below w.heap.size w w'))
   case atStart => exact ⟨(1),(by first|rfl|(simp;done)|(simp [*];done)),H',⟨Nat.le_refl _⟩,⟨by (with_reducible repeat (first|apply ra_|apply rb_|apply rc_));exact HO765.out⟩,⟨by repeat (first|(with_reducible first|exact HB.out|apply ba_|apply bb_|apply bc_)|exact HB.out)⟩⟩
   case round =>
    clear H'
    try clear c1
    try clear p2
    try clear c4
    try clear c6
    try clear c6b0
    try clear c6b1
    try clear c8
    obtain ⟨x7_1,rfl,HA,HK1,HO_5,HB⟩:=hrel
    (try simp only [i64_w,i32_w])
    cases gk with
    | zero => exact absurd HA.out (by simp [madrigallaw12_LevinAuto.l0])
    | succ k1 =>
     have H:=HA.out
     clear HA
     simp only [madrigallaw12_LevinAuto.l0] at H
     by_cases c9 : x7_1 < (t762.length : Int)
     ·rw [if_pos c9] at H
      have c9b0:=decide_eq_true c9
      clear c9
      by_cases c10 : 0 ≤ x7_1
      ·rw [if_pos c10] at H
       have c10b0:=decide_eq_true c10
       clear c10
       by_cases c11 : 0 < (t762.length : Int)
       ·rw [if_pos c11] at H
        have c11b0:=decide_eq_true c11
        have c11b1 : decide (0 < t762.length) = true:=decide_eq_true (by omega)
        clear c11
        by_cases c12 : (rd t762 x7_1) > (rd t762 0)
        ·rw [if_pos c12] at H
         have c12b0 : decide ((rd t762 0) < (rd t762 x7_1)) = true:=decide_eq_true c12
         clear c12
         exact absurd H (by simp)
        ·rw [if_neg c12] at H
         have c12b0 : decide ((rd t762 0) < (rd t762 x7_1)) = false:=decide_eq_false c12
         clear c12
         by_cases c13 : (wrap64 (-(rd t762 x7_1))) > (rd t762 0)
         ·rw [if_pos c13] at H
          exact absurd H (by simp)
         ·rw [if_neg c13] at H
          have c13b0 : decide ((rd t762 0) < (wrap64 (-(rd t762 x7_1)))) = false:=decide_eq_false c13
          clear c13
          have H':=ak_ H
          clear H
          obtain ⟨Ao14,co14,eo14⟩:=Kd.R_slice HO_5.out
          subst eo14
          try go_wp2
          have n0_:=ak_ (Kd.R_drew HO_5.out)
          have n1_:=ak_ (below_drew1 HB.out)
          clear HO_5
          clear HB
          have HO_5:=n0_
          have HB:=n1_
          clear n0_ n1_
          have p766 : 0 ≤ (x7_1 : Int):=of_decide_eq_true (by first|(with_reducible assumption)|assumption)
          have q766 : x7_1 < (t762.length : Int):=of_decide_eq_true (by first|(with_reducible assumption)|assumption)
          obtain ⟨ad766,e766,hx766_0⟩:=Kd.at_int (Kd.R_reads' HO_5.out).2.2 x7_1 p766 q766
          cases e766
          replace p766:=eq_true p766
          replace q766:=eq_true q766
          have p767 : 0 ≤ (0 : Int):=(by omega)
          have q767 : 0 < (t762.length : Int):=of_decide_eq_true (by first|(with_reducible assumption)|assumption)
          obtain ⟨ad767,e767,hx767_0⟩:=Kd.at_int (Kd.R_reads' HO_5.out).2.2 0 p767 q767
          obtain rfl : ad766 = ad767:=(by injection e767)
          have qi767 : (0 < t762.length) = True:=eq_true (by omega)
          (try rw [show ((0 : Int)).toNat = 0 from rfl] at hx767_0)
          (try rw [Addr.add_zero'] at hx767_0)
          replace p767:=eq_true p767
          replace q767:=eq_true q767
          have p768 : 0 ≤ (x7_1 : Int):=of_decide_eq_true (by first|(with_reducible assumption)|assumption)
          have q768 : x7_1 < (t762.length : Int):=of_decide_eq_true (by first|(with_reducible assumption)|assumption)
          obtain ⟨ad768,e768,hx768_0⟩:=Kd.at_int (Kd.R_reads' HO_5.out).2.2 x7_1 p768 q768
          obtain rfl : ad766 = ad768:=(by injection e768)
          replace p768:=eq_true p768
          replace q768:=eq_true q768
          have p769 : 0 ≤ (0 : Int):=(by omega)
          have q769 : 0 < (t762.length : Int):=of_decide_eq_true (by first|(with_reducible assumption)|assumption)
          obtain ⟨ad769,e769,hx769_0⟩:=Kd.at_int (Kd.R_reads' HO_5.out).2.2 0 p769 q769
          obtain rfl : ad766 = ad769:=(by injection e769)
          have qi769 : (0 < t762.length) = True:=eq_true (by omega)
          (try rw [show ((0 : Int)).toNat = 0 from rfl] at hx769_0)
          (try rw [Addr.add_zero'] at hx769_0)
          replace p769:=eq_true p769
          replace q769:=eq_true q769
          refine start_ (n:=19) (S:=fun w' => w'.cell? (ad766.add (x7_1).toNat) = some (.int .i64 (rd t762 x7_1)) ∧ w'.cell? ad766 = some (.int .i64 (rd t762 0)) ∧ w'.cell? (ad766.add (x7_1).toNat) = some (.int .i64 (rd t762 x7_1)) ∧ w'.cell? ad766 = some (.int .i64 (rd t762 0))) (ds:=[]) #[false,false,false,false,false,false,false,false,false,false,false,false,false,false,false,false,false,false,false] (by kernel_rfl) rfl rfl ⟨hx766_0,hx767_0,hx768_0,hx769_0⟩ (fun hHeld => ?_);refine with_tabW madrigallaw12_LevinAuto.tab9 madrigallaw12_LevinAuto.bits9 (fun HT_ HW_ => ?_)
          generalize wr.drew = w15 at HO_5 HB hx766_0 hx767_0 hx768_0 hx769_0 hHeld ⊢
          refine pure_ (i:=0) (N:=some 25) (v:=?_) (a':=?_) #[true,false,false,false,false,false,false,false,false,false,false,false,false,false,false,false,false,false,false] rfl rfl (any_of HT_.out (by kernel_rfl)) (fun _ _ _ h => h) (Or.inl ⟨by rfl,?_⟩) ?_ ?_
          rotate_left
          ·intro w'
           go_simp
           with_reducible rfl
          rotate_left
          ·simp only [Act.put,List.setIfInBounds_toArray,List.set_cons_zero,List.set_cons_succ,i64_w,i32_w]
           rfl
          refine pure_ (i:=1) (N:=some 26) (v:=?_) (a':=?_) #[true,true,false,false,false,false,false,false,false,false,false,false,false,false,false,false,false,false,false] rfl rfl (any_of HT_.out (by kernel_rfl)) (fun _ _ _ h => h) (Or.inl ⟨by rfl,?_⟩) ?_ ?_
          rotate_left
          ·intro w'
           go_simp
           with_reducible rfl
          rotate_left
          ·simp only [Act.put,List.setIfInBounds_toArray,List.set_cons_zero,List.set_cons_succ,i64_w,i32_w]
           rfl
          refine pure_ (i:=2) (N:=some 27) (v:=?_) (a':=?_) #[true,true,true,false,false,false,false,false,false,false,false,false,false,false,false,false,false,false,false] rfl rfl (any_of HT_.out (by kernel_rfl)) (fun _ _ _ h => h) (Or.inl ⟨by rfl,?_⟩) ?_ ?_
          rotate_left
          ·intro w'
           go_simp
           with_reducible rfl
          rotate_left
          ·simp only [Act.put,List.setIfInBounds_toArray,List.set_cons_zero,List.set_cons_succ,i64_w,i32_w]
           rfl
          refine pure_ (i:=4) (N:=some 29) (v:=?_) (a':=?_) #[true,true,true,false,true,false,false,false,false,false,false,false,false,false,false,false,false,false,false] rfl rfl (any_of HT_.out (by kernel_rfl)) (fun _ _ _ h => h) (Or.inl ⟨by rfl,?_⟩) ?_ ?_
          rotate_left
          ·intro w'
           go_simp
           with_reducible rfl
          rotate_left
          ·simp only [Act.put,List.setIfInBounds_toArray,List.set_cons_zero,List.set_cons_succ,i64_w,i32_w]
           rfl
          refine pure_ (i:=5) (N:=some 30) (v:=?_) (a':=?_) #[true,true,true,false,true,true,false,false,false,false,false,false,false,false,false,false,false,false,false] rfl rfl (any_of HT_.out (by kernel_rfl)) (fun _ _ _ h => h) (Or.inl ⟨by rfl,?_⟩) ?_ ?_
          rotate_left
          ·intro w'
           go_simp
           with_reducible rfl
          rotate_left
          ·simp only [Act.put,List.setIfInBounds_toArray,List.set_cons_zero,List.set_cons_succ,i64_w,i32_w]
           rfl
          refine take_ (i:=3) (N:=some 28) (v:=?_) (a':=?_) #[true,true,true,true,true,true,false,false,false,false,false,false,false,false,false,false,false,false,false] rfl rfl (take_ofW HT_.out HW_.out (by kernel_rfl)) (fun _ _ _ h => h) (Or.inl ⟨by rfl,?_⟩) hHeld ?_ ?_
          rotate_left
          ·rintro w' ⟨s0,s1,s2,s3⟩
           go_simp
           with_reducible rfl
          rotate_left
          ·simp only [Act.put,List.setIfInBounds_toArray,List.set_cons_zero,List.set_cons_succ,i64_w,i32_w]
           rfl
          refine take_ (i:=6) (N:=some 31) (v:=?_) (a':=?_) #[true,true,true,true,true,true,true,false,false,false,false,false,false,false,false,false,false,false,false] rfl rfl (take_ofW HT_.out HW_.out (by kernel_rfl)) (fun _ _ _ h => h) (Or.inl ⟨by rfl,?_⟩) hHeld ?_ ?_
          rotate_left
          ·rintro w' ⟨s0,s1,s2,s3⟩
           go_simp
           with_reducible rfl
          rotate_left
          ·simp only [Act.put,List.setIfInBounds_toArray,List.set_cons_zero,List.set_cons_succ,i64_w,i32_w]
           rfl
          refine pure_ (i:=7) (N:=some 32) (v:=?_) (a':=?_) #[true,true,true,true,true,true,true,true,false,false,false,false,false,false,false,false,false,false,false] rfl rfl (any_of HT_.out (by kernel_rfl)) (fun _ _ _ h => h) (Or.inl ⟨by rfl,?_⟩) ?_ ?_
          rotate_left
          ·intro w'
           go_simp
           with_reducible rfl
          rotate_left
          ·simp only [Act.put,List.setIfInBounds_toArray,List.set_cons_zero,List.set_cons_succ,i64_w,i32_w]
           rfl
          refine pure_ (i:=8) (N:=some 33) (v:=?_) (a':=?_) #[true,true,true,true,true,true,true,true,true,false,false,false,false,false,false,false,false,false,false] rfl rfl (any_of HT_.out (by kernel_rfl)) (fun _ _ _ h => h) (Or.inl ⟨by rfl,?_⟩) ?_ ?_
          rotate_left
          ·intro w'
           go_simp
           with_reducible rfl
          rotate_left
          ·simp only [Act.put,List.setIfInBounds_toArray,List.set_cons_zero,List.set_cons_succ,i64_w,i32_w]
           rfl
          refine pure_ (i:=9) (N:=some 34) (v:=?_) (a':=?_) #[true,true,true,true,true,true,true,true,true,true,false,false,false,false,false,false,false,false,false] rfl rfl (any_of HT_.out (by kernel_rfl)) (fun _ _ _ h => h) (Or.inl ⟨by rfl,?_⟩) ?_ ?_
          rotate_left
          ·intro w'
           go_simp
           with_reducible rfl
          rotate_left
          ·simp only [Act.put,List.setIfInBounds_toArray,List.set_cons_zero,List.set_cons_succ,i64_w,i32_w]
           rfl
          refine pure_ (i:=10) (N:=some 35) (v:=?_) (a':=?_) #[true,true,true,true,true,true,true,true,true,true,true,false,false,false,false,false,false,false,false] rfl rfl (any_of HT_.out (by kernel_rfl)) (fun _ _ _ h => h) (Or.inl ⟨by rfl,?_⟩) ?_ ?_
          rotate_left
          ·intro w'
           go_simp
           with_reducible rfl
          rotate_left
          ·simp only [Act.put,List.setIfInBounds_toArray,List.set_cons_zero,List.set_cons_succ,i64_w,i32_w]
           rfl
          refine pure_ (i:=11) (N:=some 36) (v:=?_) (a':=?_) #[true,true,true,true,true,true,true,true,true,true,true,true,false,false,false,false,false,false,false] rfl rfl (any_of HT_.out (by kernel_rfl)) (fun _ _ _ h => h) (Or.inl ⟨by rfl,?_⟩) ?_ ?_
          rotate_left
          ·intro w'
           go_simp
           with_reducible rfl
          rotate_left
          ·simp only [Act.put,List.setIfInBounds_toArray,List.set_cons_zero,List.set_cons_succ,i64_w,i32_w]
           rfl
          refine pure_ (i:=14) (N:=some 39) (v:=?_) (a':=?_) #[true,true,true,true,true,true,true,true,true,true,true,true,false,false,true,false,false,false,false] rfl rfl (any_of HT_.out (by kernel_rfl)) (fun _ _ _ h => h) (Or.inl ⟨by rfl,?_⟩) ?_ ?_
          rotate_left
          ·intro w'
           go_simp
           with_reducible rfl
          rotate_left
          ·simp only [Act.put,List.setIfInBounds_toArray,List.set_cons_zero,List.set_cons_succ,i64_w,i32_w]
           rfl
          refine pure_ (i:=15) (N:=some 40) (v:=?_) (a':=?_) #[true,true,true,true,true,true,true,true,true,true,true,true,false,false,true,true,false,false,false] rfl rfl (any_of HT_.out (by kernel_rfl)) (fun _ _ _ h => h) (Or.inl ⟨by rfl,?_⟩) ?_ ?_
          rotate_left
          ·intro w'
           go_simp
           with_reducible rfl
          rotate_left
          ·simp only [Act.put,List.setIfInBounds_toArray,List.set_cons_zero,List.set_cons_succ,i64_w,i32_w]
           rfl
          refine take_ (i:=12) (N:=some 37) (v:=?_) (a':=?_) #[true,true,true,true,true,true,true,true,true,true,true,true,true,false,true,true,false,false,false] rfl rfl (take_ofW HT_.out HW_.out (by kernel_rfl)) (fun _ _ _ h => h) (Or.inl ⟨by rfl,?_⟩) hHeld ?_ ?_
          rotate_left
          ·rintro w' ⟨s0,s1,s2,s3⟩
           go_simp
           with_reducible rfl
          rotate_left
          ·simp only [Act.put,List.setIfInBounds_toArray,List.set_cons_zero,List.set_cons_succ,i64_w,i32_w]
           rfl
          refine pure_ (i:=13) (N:=some 38) (v:=?_) (a':=?_) #[true,true,true,true,true,true,true,true,true,true,true,true,true,true,true,true,false,false,false] rfl rfl (any_of HT_.out (by kernel_rfl)) (fun _ _ _ h => h) (Or.inl ⟨by rfl,?_⟩) ?_ ?_
          rotate_left
          ·intro w'
           go_simp
           with_reducible rfl
          rotate_left
          ·simp only [Act.put,List.setIfInBounds_toArray,List.set_cons_zero,List.set_cons_succ,i64_w,i32_w]
           rfl
          refine take_ (i:=16) (N:=some 41) (v:=?_) (a':=?_) #[true,true,true,true,true,true,true,true,true,true,true,true,true,true,true,true,true,false,false] rfl rfl (take_ofW HT_.out HW_.out (by kernel_rfl)) (fun _ _ _ h => h) (Or.inl ⟨by rfl,?_⟩) hHeld ?_ ?_
          rotate_left
          ·rintro w' ⟨s0,s1,s2,s3⟩
           go_simp
           with_reducible rfl
          rotate_left
          ·simp only [Act.put,List.setIfInBounds_toArray,List.set_cons_zero,List.set_cons_succ,i64_w,i32_w]
           rfl
          refine pure_ (i:=17) (N:=some 42) (v:=?_) (a':=?_) #[true,true,true,true,true,true,true,true,true,true,true,true,true,true,true,true,true,true,false] rfl rfl (any_of HT_.out (by kernel_rfl)) (fun _ _ _ h => h) (Or.inl ⟨by rfl,?_⟩) ?_ ?_
          rotate_left
          ·intro w'
           go_simp
           with_reducible rfl
          rotate_left
          ·simp only [Act.put,List.setIfInBounds_toArray,List.set_cons_zero,List.set_cons_succ,i64_w,i32_w]
           rfl
          refine pure_ (i:=18) (N:=some 43) (v:=?_) (a':=?_) #[true,true,true,true,true,true,true,true,true,true,true,true,true,true,true,true,true,true,true] rfl rfl (any_of HT_.out (by kernel_rfl)) (fun _ _ _ h => h) (Or.inl ⟨by rfl,?_⟩) ?_ ?_
          rotate_left
          ·intro w'
           go_simp
           with_reducible rfl
          rotate_left
          ·simp only [Act.put,List.setIfInBounds_toArray,List.set_cons_zero,List.set_cons_succ,i64_w,i32_w]
           rfl
          refine done_ (done_of HT_.out (by kernel_rfl)) ?_
          try go_wp2
          go_roundg k1
          case measure => have:=HK1.out;omega
          case rel => exact ⟨(wrap64 (x7_1 + 1)),(by first|rfl|(simp;done)|(simp [*];done)),H',⟨by have:=HK1.out;omega⟩,⟨by (with_reducible repeat (first|apply ra_|apply rb_|apply rc_));exact HO_5.out⟩,⟨by repeat (first|(with_reducible first|exact HB.out|apply ba_|apply bb_|apply bc_)|exact HB.out)⟩⟩
       ·rw [if_neg c11] at H
        exact absurd H (by simp)
      ·rw [if_neg c10] at H
       exact absurd H (by simp)
     ·rw [if_neg c9] at H
      have c9b0:=decide_eq_false c9
      clear c9
      have H':=ak_ H
      clear H
      obtain ⟨Ao16,co16,eo16⟩:=Kd.R_slice HO_5.out
      subst eo16
      go_wp2
      go_loopg [8] k1 (fun kq v8 w' => ∃ (x8_2 : Int),v8 = .int .i64 x8_2 ∧ Aside0 (madrigallaw12_LevinAuto.l1 kq l0 t762 x8_2 = some r) ∧ Aside0 (kq ≤ k1) ∧ Aside0 (Kd.R (Kd.int .i64) 2 w' w.heap.size (fun _ => True) (.slice Ao16 t762.length co16) t762) ∧ Aside0 (Below w.heap.size w w'))
      case atStart => exact ⟨(0),(by first|rfl|(simp;done)|(simp [*];done)),H',⟨Nat.le_refl _⟩,⟨by (with_reducible repeat (first|apply ra_|apply rb_|apply rc_));exact HO_5.out⟩,⟨by repeat (first|(with_reducible first|exact HB.out|apply ba_|apply bb_|apply bc_)|exact HB.out)⟩⟩
      case round =>
       clear H'
       try clear c1
       try clear p2
       try clear c4
       try clear c6
       try clear c6b0
       try clear c6b1
       try clear p6
       try clear p7
       try clear q7
       try clear hx7
       try clear qi7
       try clear c8
       try clear c9
       try clear c9b0
       try clear c10
       try clear c10b0
       try clear c11
       try clear c11b0
       try clear c11b1
       try clear c12
       try clear c12b0
       try clear c13
       try clear c13b0
       try clear hx766_0
       try clear hx767_0
       try clear hx768_0
       try clear hx769_0
       try clear p2
       try clear p766
       try clear p767
       try clear p768
       try clear p769
       try clear q766
       try clear q767
       try clear q768
       try clear q769
       obtain ⟨x8_2,rfl,HA,HK2,HO_5,HB⟩:=hrel
       (try simp only [i64_w,i32_w])
       cases gk with
       | zero => exact absurd HA.out (by simp [madrigallaw12_LevinAuto.l1])
       | succ k2 =>
        have H:=HA.out
        clear HA
        simp only [madrigallaw12_LevinAuto.l1] at H
        by_cases c17 : x8_2 < (l0.length : Int)
        ·rw [if_pos c17] at H
         have c17b0:=decide_eq_true c17
         clear c17
         by_cases c18 : 0 ≤ x8_2
         ·rw [if_pos c18] at H
          have c18b0:=decide_eq_true c18
          clear c18
          by_cases c19 : (rd l0 x8_2) < (-32768)
          ·rw [if_pos c19] at H
           have c19b0:=decide_eq_true c19
           clear c19
           by_cases c20 : 0 < (t762.length : Int)
           ·rw [if_pos c20] at H
            have c20b0:=decide_eq_true c20
            have c20b1 : decide (0 < t762.length) = true:=decide_eq_true (by omega)
            clear c20
            obtain rfl:=Option.some.inj H
            have p770 : 0 ≤ (x8_2 : Int):=of_decide_eq_true (by first|(with_reducible assumption)|assumption)
            have q770 : x8_2 < (l0.length : Int):=of_decide_eq_true (by first|(with_reducible assumption)|assumption)
            obtain ⟨ad770,e770,hx770_0⟩:=Kd.at_int HR0.out x8_2 p770 q770
            cases e770
            replace hx770_0:=(HB.out.cell (World.block_lt_of_cell? w _ hx770_0)).trans hx770_0
            replace p770:=eq_true p770
            replace q770:=eq_true q770
            have p771 : 0 ≤ (0 : Int):=(by omega)
            have q771 : 0 < (t762.length : Int):=of_decide_eq_true (by first|(with_reducible assumption)|assumption)
            obtain ⟨ad771,e771,hx771_0⟩:=Kd.at_int (Kd.R_reads' HO_5.out).2.2 0 p771 q771
            cases e771
            have qi771 : (0 < t762.length) = True:=eq_true (by omega)
            (try rw [show ((0 : Int)).toNat = 0 from rfl] at hx771_0)
            (try rw [Addr.add_zero'] at hx771_0)
            replace p771:=eq_true p771
            replace q771:=eq_true q771
            go_wp2
            go_ret
            exact ⟨by first|rfl|(simp [errW_none,errW_some] <;> rfl)|(simp [*,errW_none,errW_some] <;> rfl),by repeat (first|(with_reducible first|exact HB.out|apply ba_|apply bb_|apply bc_)|exact HB.out)⟩
           ·rw [if_neg c20] at H
            exact absurd H (by simp)
          ·rw [if_neg c19] at H
           have c19b0:=decide_eq_false c19
           clear c19
           by_cases c21 : (rd l0 x8_2) > 32767
           ·rw [if_pos c21] at H
            have c21b0 : decide (32767 < (rd l0 x8_2)) = true:=decide_eq_true c21
            clear c21
            by_cases c22 : 0 < (t762.length : Int)
            ·rw [if_pos c22] at H
             have c22b0:=decide_eq_true c22
             have c22b1 : decide (0 < t762.length) = true:=decide_eq_true (by omega)
             clear c22
             obtain rfl:=Option.some.inj H
             have p770 : 0 ≤ (x8_2 : Int):=of_decide_eq_true (by first|(with_reducible assumption)|assumption)
             have q770 : x8_2 < (l0.length : Int):=of_decide_eq_true (by first|(with_reducible assumption)|assumption)
             obtain ⟨ad770,e770,hx770_0⟩:=Kd.at_int HR0.out x8_2 p770 q770
             cases e770
             replace hx770_0:=(HB.out.cell (World.block_lt_of_cell? w _ hx770_0)).trans hx770_0
             replace p770:=eq_true p770
             replace q770:=eq_true q770
             have p772 : 0 ≤ (x8_2 : Int):=of_decide_eq_true (by first|(with_reducible assumption)|assumption)
             have q772 : x8_2 < (l0.length : Int):=of_decide_eq_true (by first|(with_reducible assumption)|assumption)
             obtain ⟨ad772,e772,hx772_0⟩:=Kd.at_int HR0.out x8_2 p772 q772
             obtain rfl : ad770 = ad772:=(by injection e772)
             replace hx772_0:=(HB.out.cell (World.block_lt_of_cell? w _ hx772_0)).trans hx772_0
             replace p772:=eq_true p772
             replace q772:=eq_true q772
             have p773 : 0 ≤ (0 : Int):=(by omega)
             have q773 : 0 < (t762.length : Int):=of_decide_eq_true (by first|(with_reducible assumption)|assumption)
             obtain ⟨ad773,e773,hx773_0⟩:=Kd.at_int (Kd.R_reads' HO_5.out).2.2 0 p773 q773
             cases e773
             have qi773 : (0 < t762.length) = True:=eq_true (by omega)
             (try rw [show ((0 : Int)).toNat = 0 from rfl] at hx773_0)
             (try rw [Addr.add_zero'] at hx773_0)
             replace p773:=eq_true p773
             replace q773:=eq_true q773
             go_wp2
             go_ret
             exact ⟨by first|rfl|(simp [errW_none,errW_some] <;> rfl)|(simp [*,errW_none,errW_some] <;> rfl),by repeat (first|(with_reducible first|exact HB.out|apply ba_|apply bb_|apply bc_)|exact HB.out)⟩
            ·rw [if_neg c22] at H
             exact absurd H (by simp)
           ·rw [if_neg c21] at H
            have c21b0 : decide (32767 < (rd l0 x8_2)) = false:=decide_eq_false c21
            clear c21
            have H':=ak_ H
            clear H
            have p770 : 0 ≤ (x8_2 : Int):=of_decide_eq_true (by first|(with_reducible assumption)|assumption)
            have q770 : x8_2 < (l0.length : Int):=of_decide_eq_true (by first|(with_reducible assumption)|assumption)
            obtain ⟨ad770,e770,hx770_0⟩:=Kd.at_int HR0.out x8_2 p770 q770
            cases e770
            replace hx770_0:=(HB.out.cell (World.block_lt_of_cell? w _ hx770_0)).trans hx770_0
            replace p770:=eq_true p770
            replace q770:=eq_true q770
            have p772 : 0 ≤ (x8_2 : Int):=of_decide_eq_true (by first|(with_reducible assumption)|assumption)
            have q772 : x8_2 < (l0.length : Int):=of_decide_eq_true (by first|(with_reducible assumption)|assumption)
            obtain ⟨ad772,e772,hx772_0⟩:=Kd.at_int HR0.out x8_2 p772 q772
            obtain rfl : ad770 = ad772:=(by injection e772)
            replace hx772_0:=(HB.out.cell (World.block_lt_of_cell? w _ hx772_0)).trans hx772_0
            replace p772:=eq_true p772
            replace q772:=eq_true q772
            go_wp2
            go_roundg k2
            case measure => have:=HK1.out;have:=HK2.out;omega
            case rel => exact ⟨(wrap64 (x8_2 + 1)),(by first|rfl|(simp;done)|(simp [*];done)),H',⟨by have:=HK1.out;have:=HK2.out;omega⟩,⟨by (with_reducible repeat (first|apply ra_|apply rb_|apply rc_));exact HO_5.out⟩,⟨by repeat (first|(with_reducible first|exact HB.out|apply ba_|apply bb_|apply bc_)|exact HB.out)⟩⟩
         ·rw [if_neg c18] at H
          exact absurd H (by simp)
        ·rw [if_neg c17] at H
         have c17b0:=decide_eq_false c17
         clear c17
         by_cases c23 : 0 < (t762.length : Int)
         ·rw [if_pos c23] at H
          have c23b0:=decide_eq_true c23
          have c23b1 : decide (0 < t762.length) = true:=decide_eq_true (by omega)
          clear c23
          replace H:=Option.bind_eq_some_iff.mp H
          obtain ⟨t775,A240,H⟩:=H
          (try dsimp only at H)
          have A24:=ak_ A240
          clear A240
          obtain rfl:=Option.some.inj H
          try go_wp2
          have n0_:=ak_ (Kd.R_drew HO_5.out)
          have n1_:=ak_ (below_drew1 HB.out)
          clear HO_5
          clear HB
          have HO_5:=n0_
          have HB:=n1_
          clear n0_ n1_
          have p774 : 0 ≤ (0 : Int):=(by omega)
          have q774 : 0 < (t762.length : Int):=of_decide_eq_true (by first|(with_reducible assumption)|assumption)
          obtain ⟨ad774,e774,hx774_0⟩:=Kd.at_int (Kd.R_reads' HO_5.out).2.2 0 p774 q774
          cases e774
          have qi774 : (0 < t762.length) = True:=eq_true (by omega)
          (try rw [show ((0 : Int)).toNat = 0 from rfl] at hx774_0)
          (try rw [Addr.add_zero'] at hx774_0)
          replace p774:=eq_true p774
          replace q774:=eq_true q774
          refine start_ (n:=7) (S:=fun w' => w'.cell? ad774 = some (.int .i64 (rd t762 0))) (ds:=[]) #[false,false,false,false,false,false,false] (by kernel_rfl) rfl rfl (hx774_0) (fun hHeld => ?_)
          generalize wr.drew = w25 at HO_5 HB hx774_0 hHeld ⊢
          refine pure_ (i:=0) (N:=some 66) (v:=?_) (a':=?_) #[true,false,false,false,false,false,false] rfl rfl (by kernel_rfl) (fun _ _ _ h => h) (Or.inl ⟨by rfl,?_⟩) ?_ ?_
          rotate_left
          ·intro w'
           go_simp
           with_reducible rfl
          rotate_left
          ·simp only [Act.put,List.setIfInBounds_toArray,List.set_cons_zero,List.set_cons_succ,i64_w,i32_w]
           rfl
          refine pure_ (i:=1) (N:=some 67) (v:=?_) (a':=?_) #[true,true,false,false,false,false,false] rfl rfl (by kernel_rfl) (fun _ _ _ h => h) (Or.inl ⟨by rfl,?_⟩) ?_ ?_
          rotate_left
          ·intro w'
           go_simp
           with_reducible rfl
          rotate_left
          ·simp only [Act.put,List.setIfInBounds_toArray,List.set_cons_zero,List.set_cons_succ,i64_w,i32_w]
           rfl
          refine pure_ (i:=3) (N:=some 69) (v:=?_) (a':=?_) #[true,true,false,true,false,false,false] rfl rfl (by kernel_rfl) (fun _ _ _ h => h) (Or.inl ⟨by rfl,?_⟩) ?_ ?_
          rotate_left
          ·intro w'
           go_simp
           with_reducible rfl
          rotate_left
          ·simp only [Act.put,List.setIfInBounds_toArray,List.set_cons_zero,List.set_cons_succ,i64_w,i32_w]
           rfl
          refine take_ (i:=2) (N:=some 68) (v:=?_) (a':=?_) #[true,true,true,true,false,false,false] rfl rfl (by kernel_rfl) (fun _ _ _ h => h) (Or.inl ⟨by rfl,?_⟩) hHeld ?_ ?_
          rotate_left
          ·intro w' s0
           go_simp
           with_reducible rfl
          rotate_left
          ·simp only [Act.put,List.setIfInBounds_toArray,List.set_cons_zero,List.set_cons_succ,i64_w,i32_w]
           rfl
          refine one_ (i:=4) (N:=some 70) #[true,true,true,true,true,false,false] rfl rfl (by kernel_rfl) (by decide) (fun K hK => ?_)
          refine goes_ Try.func16 (by kernel_rfl) rfl #[.slice A0 l0.length c0] (by rfl) rfl rfl (by (try simp only [List.map_toArray,List.map_cons,List.map_nil]);first|done|rfl|(simp only [List.length_drop,List.length_take];rfl)) ?_
          with_reducible refine (levin_Power.calls k2 _ _ l0 t775 _ ?side1 ?side2 A24.out).mono ?_
          (case side1 => repeat (first|exact (Kd.C_below HR0.out HB.out)|(with_reducible refine Kd.C_alloc ?_ _)|(with_reducible refine Kd.C_drewN ?_ _)|(with_reducible refine Kd.C_drew ?_)))
          (case side2 => exact HC0.out)
          rintro e w26 ⟨rfl,hb⟩
          have HS0_:=(hb.cell (World.block_lt_of_cell? _ _ (hHeld))).trans (hHeld)
          refine ⟨_,rfl,?_⟩
          have n0_:=ak_ (Kd.R_below (by (with_reducible repeat (first|apply ra_|apply rb_|apply rc_));exact HO_5.out) hb)
          have n1_:=ak_ (below_step (by repeat (first|(with_reducible first|exact HB.out|apply ba_|apply bb_|apply bc_)|exact HB.out)) hb)
          clear HO_5
          clear HB
          have HO_5:=n0_
          have HB:=n1_
          clear n0_ n1_
          (try clear hb)
          refine hK.out _ _ (HS0_) (fun hHeld => ?_)
          clear hK K
          refine norm_ (a':=?_) ?_ ?_
          rotate_left
          ·show Act.put _ (some 70) _ = _
           simp only [Act.put,List.setIfInBounds_toArray,List.set_cons_zero,List.set_cons_succ,i64_w,i32_w]
           rfl
          refine pure_ (i:=5) (N:=some 71) (v:=?_) (a':=?_) #[true,true,true,true,true,true,false] rfl rfl (by kernel_rfl) (fun _ _ _ h => h) (Or.inl ⟨by rfl,?_⟩) ?_ ?_
          rotate_left
          ·intro w'
           go_simp
           with_reducible rfl
          rotate_left
          ·simp only [Act.put,List.setIfInBounds_toArray,List.set_cons_zero,List.set_cons_succ,i64_w,i32_w]
           rfl
          refine pure_ (i:=6) (N:=some 4) (v:=?_) (a':=?_) #[true,true,true,true,true,true,true] rfl rfl (by kernel_rfl) (fun _ _ _ h => h) (Or.inl ⟨by rfl,?_⟩) ?_ ?_
          rotate_left
          ·intro w'
           go_simp
           with_reducible rfl
          rotate_left
          ·simp only [Act.put,List.setIfInBounds_toArray,List.set_cons_zero,List.set_cons_succ,i64_w,i32_w]
           rfl
          refine done_ (by kernel_rfl) ?_
          try go_wp2
          go_ret
          exact ⟨by first|rfl|(simp [errW_none,errW_some] <;> rfl)|(simp [*,errW_none,errW_some] <;> rfl),by repeat (first|(with_reducible first|exact HB.out|apply ba_|apply bb_|apply bc_)|exact HB.out)⟩
         ·rw [if_neg c23] at H
          exact absurd H (by simp)
  ·rw [if_neg c6] at H
   have c6b0 : (t763 == 0) = false:=beq_eq_false_iff_ne.mpr c6
   have c6b1 : (t763 != 0) = true:=bne_iff_ne.mpr c6
   obtain rfl:=Option.some.inj H
   go_enter Try.func8,Try.ntmps8
   go_wp2_with (first|((with_reducible refine gate_callee (f:=10) rfl ?_);refine goesL_ (some 9) rfl rfl Try.func10 (by kernel_rfl) rfl #[] rfl (by (try simp only [List.map_toArray,List.map_cons,List.map_nil]);first|done|rfl|(simp only [List.length_drop,List.length_take];rfl)) ?_;(with_reducible refine (madrigallaw12_awake.calls k  true _ A3.out).mono ?_);rintro e w27 ⟨rfl,hb⟩;refine ⟨_,rfl,?_⟩;have n0_:=ak_ (below_step (by repeat (first|(with_reducible first|exact HB.out|apply ba_|apply bb_|apply bc_)|exact HB.out)) hb);clear HB;have HB:=n0_;clear n0_;(try clear hb))|((with_reducible refine gate_callee (f:=11) rfl ?_);refine goesL_ (some 14) rfl rfl Try.func11 (by kernel_rfl) rfl #[.slice A0 l0.length c0,.int .i64 a1] rfl (by (try simp only [List.map_toArray,List.map_cons,List.map_nil]);first|done|rfl|(simp only [List.length_drop,List.length_take];rfl)) ?_;(with_reducible refine (levin_Auto.calls k _ _ l0 a1 t762 t763 _ ?side1 ?side2 A5.out).mono ?_);(case side1 => repeat (first|exact (Kd.C_below HR0.out HB.out)|(with_reducible refine Kd.C_alloc ?_ _)|(with_reducible refine Kd.C_drewN ?_ _)|(with_reducible refine Kd.C_drew ?_)));(case side2 => exact HC0.out);rintro e w28 ⟨v764,rfl,ho0,hb⟩;refine ⟨_,rfl,?_⟩;have n0_:=ak_ (Kd.R_lower ho0 (below_size (by repeat (first|(with_reducible first|exact HB.out|apply ba_|apply bb_|apply bc_)|exact HB.out))));have n1_:=ak_ (below_step (by repeat (first|(with_reducible first|exact HB.out|apply ba_|apply bb_|apply bc_)|exact HB.out)) hb);clear HB;have HO765:=n0_;have HB:=n1_;clear n0_ n1_;(try clear hb);(try clear ho0)))
   go_ret
   exact ⟨by first|rfl|(simp [errW_none,errW_some] <;> rfl)|(simp [*,errW_none,errW_some] <;> rfl),by repeat (first|(with_reducible first|exact HB.out|apply ba_|apply bb_|apply bc_)|exact HB.out)⟩
 ·replace c4:=Bool.eq_false_iff.mpr c4
  subst c4
  have H1 : (none) = some r:=by rw [if_neg (show ¬ (false = true) by decide)] at H;exact H
  clear H
  have H:=H1
  clear H1
  exact absurd H (by simp)

/-- THE ONE PURE STATEMENT of madrigallaw12_LevinAuto. -/
def madrigallaw12_LevinAuto.Pure : Prop:=∀ (l0 : List Int) (a1 : Int),l0.length ≤ maxLen → l0.length * 8 ≤ 140737488351232 → (∀ x ∈ l0,(Lit.int .i64 x).wf = true) → (Lit.int .i64 a1).wf = true → ∃ k,madrigallaw12_LevinAuto.f k l0 a1 = some true
theorem madrigallaw12_LevinAuto.walk (P : madrigallaw12_LevinAuto.Pure) (a0 : Option Addr) (len0 cap0 : Nat) (z0 : List Int) (a1 : Int) (w : World) (w0 : (a0 = none ∧ len0 = 0 ∧ cap0 = 0 ∧ z0 = []) ∨ ∃ x,a0 = some x ∧ len0 ≤ cap0 ∧ cap0 ≤ maxLen ∧ z0.length = cap0 ∧ (∀ i,i < z0.length → w.cell? (x.add i) = some (.int .i64 (z0.getD i 0))) ∧ ∀ n ∈ z0,(Lit.int .i64 n).wf = true) (y0 : len0 * 8 ≤ 140737488351232) (w1 : (Lit.int .i64 a1).wf = true) :
  Calls Try.prog 8 #[.slice a0 len0 cap0,.int .i64 a1] w fun e w' => e = .returned (.bool true) ∧ Below w.heap.size w w':=by
 obtain ⟨l0,rfl,hr0,hm0,hw0,hc0⟩:=ReadsInt.ofRowC w0
 obtain ⟨k,h⟩:=P l0 a1 hm0 y0 hw0 w1
 refine (madrigallaw12_LevinAuto.calls k _ _ l0 a1 true w (Kd.C_of_reads (d:=(0 : Int)) (h1:=fun _ => rfl) hr0) hc0 h).mono ?_
 rintro e w' ⟨rfl,hd⟩
 exact ⟨rfl,hd⟩

end Go.Proofs.Ytllglpcpjeggcaa.P
