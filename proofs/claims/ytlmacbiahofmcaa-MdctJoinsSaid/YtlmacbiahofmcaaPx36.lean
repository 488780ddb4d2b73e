/- The machine side of the laws of one chapter, without conditions: each call of a Go function comes to what the Lean function of its name answers. Written for this claim by a program of the prover. -/
import Derived.Test.YtlmacbiahofmcaaPx0
import Derived.Test.YtlmacbiahofmcaaPx30
import Derived.Test.YtlmacbiahofmcaaPx33
import Derived.Test.YtlmacbiahofmcaaPx35
namespace Go.Proofs.Ytlmacbiahofmcaa.P
open Go.RowKit Go.Proofs.YtlmacbiahofmcaaW.PrintWords Go.Proofs.YtlmacbiahofmcaaW.PrintLast Go.Proofs.YtlmacbiahofmcaaW.PrintMore
attribute [local go_sem] max2_int min2_int max_two min_two max_three min_three max_four min_four   -- for this text's walks alone
set_option linter.unusedVariables false
set_option linter.unusedSimpArgs false

/-! ### madrigalref10_Joiner_Next: function 24 -/
def madrigalref10_Joiner_Next.l0 : Nat → List Int → Int → List Int → Int → Int → List Int → Option (List Int × Int × List Int)
 | 0,_,_,_,_,_,_ => none
 | k + 1,x5,x6,x7,x8,x1000,x1001 => if x8 < x6 then (if 0 ≤ x8 then (if x8 < (x1001.length : Int) then (if x8 < (x5.length : Int) then ((madrigalref10_keep.f k (wrap64 ((rd x1001 x8) + (rd x5 x8)))).bind fun t449 => (if x7.length < 17592186044416 then (madrigalref10_Joiner_Next.l0 k x5 x6 (x7 ++ [t449]) (wrap64 (x8 + 1)) x1000 x1001) else (none))) else (none)) else (none)) else (none)) else ((some (([] : List Int) : List Int)).bind fun y453 => (if 0 ≤ x6 then (if x6 ≤ (x5.length : Int) then ((some (x5.drop (x6 : Int).toNat : List Int)).bind fun y456 => (if y453.length + y456.length < 17592186044416 then (some (x7,x1000,(y453 ++ y456))) else (none))) else (none)) else (none)))
def madrigalref10_Joiner_Next.f (k : Nat) (s0_0 : Int) (s0_1 : List Int) (l1 : List Int) : Option (List Int × Int × List Int):=(madrigalref10_Inverse.f k l1 s0_0).bind fun t444 => (madrigalref10_Joiner_Next.l0 k t444 (s0_1.length : Int) ([] : List Int) 0 s0_0 s0_1)
theorem madrigalref10_Joiner_Next.mono_l : ∀ k,(∀ y0 y1 y2 y3 y4 y5,LeO (madrigalref10_Joiner_Next.l0 k y0 y1 y2 y3 y4 y5) (madrigalref10_Joiner_Next.l0 (k + 1) y0 y1 y2 y3 y4 y5))
 | 0 => fun _ _ _ _ _ _ r h => by simp [madrigalref10_Joiner_Next.l0] at h
 | k + 1 => by
  have ih0:=madrigalref10_Joiner_Next.mono_l k
  all_goals (intros;first|unfold madrigalref10_Joiner_Next.l0)
  all_goals (repeat' first|(with_reducible first|exact ih0 _ _ _ _ _ _|exact madrigalref10_Inverse.mono _ _ _|exact madrigalref10_keep.mono _ _|exact LeO.refl _|exact LeO.none _|refine LeO.ite ?_ ?_|refine LeO.bind ?_ (fun _ => ?_))|exact ih0 _ _ _ _ _ _|exact madrigalref10_Inverse.mono _ _ _|exact madrigalref10_keep.mono _ _|exact LeO.none _|refine LeO.ite ?_ ?_|refine LeO.bind ?_ (fun _ => ?_))
theorem madrigalref10_Joiner_Next.mono : ∀ a0 a1 a2 k,LeO (madrigalref10_Joiner_Next.f k a0 a1 a2) (madrigalref10_Joiner_Next.f (k + 1) a0 a1 a2):=by
 intro a0 a1 a2 k
 have ih0:=madrigalref10_Joiner_Next.mono_l k
 unfold madrigalref10_Joiner_Next.f
 repeat' first|(with_reducible first|exact ih0 _ _ _ _ _ _|exact madrigalref10_Inverse.mono _ _ _|exact madrigalref10_keep.mono _ _|exact LeO.refl _|exact LeO.none _|refine LeO.ite ?_ ?_|refine LeO.bind ?_ (fun _ => ?_))|exact ih0 _ _ _ _ _ _|exact madrigalref10_Inverse.mono _ _ _|exact madrigalref10_keep.mono _ _|exact LeO.none _|refine LeO.ite ?_ ?_|refine LeO.bind ?_ (fun _ => ?_)
def madrigalref10_Joiner_Next.T7 : Bool × List (List Nat × List Nat):=(true,[([],[]),([],[]),([1],[1]),([2],[2]),([3],[3]),([],[]),([4,5],[4,5]),([6],[6]),([],[]),([],[]),([8,9],[8,9]),([10],[10]),([7,11],[7,11]),([12],[12]),([13],[13]),([0,14,13],[0,14]),([15,15,0,1,2,3,4,5,6,7,8,9,10,11,12,13,14,15],[0,15])])
def madrigalref10_Joiner_Next.B7 : List Nat:=[0,0,2,6,14,0,62,126,0,0,768,1792,4094,8190,16382,32767,65535]
theorem madrigalref10_Joiner_Next.tab7 : rtab .any (opsOf Try.f24 7) = madrigalref10_Joiner_Next.T7:=by kernel_rfl
theorem madrigalref10_Joiner_Next.bits7 : waitsOk madrigalref10_Joiner_Next.T7.2 madrigalref10_Joiner_Next.B7 = true:=by kernel_rfl
set_option maxHeartbeats 8000000 in
set_option maxRecDepth 100000 in
theorem madrigalref10_Joiner_Next.calls (k : Nat) (g : Nat) (s0_0 : Int) (s0_1 : List Int) (A1 : Option Addr) (c1 : Nat) (l1 : List Int) (r1 : List Int) (r2 : Int) (r3 : List Int) (w0 w : World) (hI : IsS55 w0 w g s0_0 s0_1) (hB : Below w0.heap.size w0 w) (hr1 : Kd.C (Kd.int .i64) w A1 l1.length l1) (hc1 : l1.length ≤ c1) (hf1 : ∀ ad,A1 = some ad → 0 < l1.length → ad.block ≠ g) (h : madrigalref10_Joiner_Next.f k s0_0 s0_1 l1 = some (r1,r2,r3)) :
  Calls Try.prog 24 #[.pointer (some ⟨g,0,none⟩),.slice A1 l1.length c1] w fun e w' => ∃ v0_ : Value,e = .returned (v0_) ∧ Kd.R (Kd.int .i64) 2 w' w.heap.size (fun _ => True) v0_ r1 ∧ IsS55 w0 w' g r2 r3 ∧ Below w0.heap.size w0 w' ∧ KeepBut w w' g none:=by
 obtain ⟨vv9,hI,hQ9⟩:=hI
 obtain ⟨A90,c90,ev9,hc9⟩:=Kd.Q_slice hQ9
 subst ev9
 have HR90:=ak_ (Kd.Q_reads' hQ9).2.2
 have HC90:=ak_ hc9
 have hf90 : ∀ ad,A90 = some ad → 0 < s0_1.length → ad.block ≠ g:=far_slice (Kd.Q_ne hQ9 hI.1 (by decide))
 have HQ90:=ak_ hQ9
 have HV0:=ak_ hI
 clear hQ9 hc9
 have HR1:=ak_ hr1
 have HC1:=ak_ hc1
 clear hr1 hc1
 have HI0:=ak_ hI
 have HK:=ak_ (KeepBut.refl w g none)
 have HL:=ak_ hB.size
 clear hI
 have HW0:=ak_ hB.size
 have HB:=ak_ hB
 clear hB
 have H : ((madrigalref10_Inverse.f k l1 s0_0).bind fun t444 => (madrigalref10_Joiner_Next.l0 k t444 (s0_1.length : Int) ([] : List Int) 0 s0_0 s0_1)) = some (r1,r2,r3):=h
 clear h
 replace H:=Option.bind_eq_some_iff.mp H
 obtain ⟨t444,A30,H⟩:=H
 (try dsimp only at H)
 have A3:=ak_ A30
 clear A30
 have H':=ak_ H
 clear H
 obtain ⟨HGz4,hgz4⟩:=HI0.out
 have hcz4_0:=cellS55_0 HGz4
 have hcz4_1:=cellS55_1 HGz4
 have hfz4_0:=blk_frozen HGz4 0
 have hfz4_1:=blk_frozen HGz4 1
 clear HGz4 hgz4
 go_enter Try.func24,Try.ntmps24
 go_wp2_with (first|((with_reducible refine gate_callee (f:=20) rfl ?_);refine goesL_ (some 14) rfl rfl Try.func20 (by kernel_rfl) rfl #[.slice A1 l1.length c1,.int .i64 s0_0] rfl (by (try simp only [List.map_toArray,List.map_cons,List.map_nil]);first|done|rfl|(simp only [List.length_drop,List.length_take];rfl)) ?_;(with_reducible refine (madrigalref10_Inverse.calls k _ _ l1 s0_0 t444 _ ?side1 ?side2 A3.out).mono ?_);(case side1 => exact Kd.C_keep 0 HR1.out (by repeat (first|(with_reducible first|exact HK.out|apply KeepBut.set_|apply keep_drewN|apply keep_drew|apply keep_alloc)|exact HK.out)) hf1);(case side2 => exact HC1.out);rintro e w5 ⟨v445,rfl,ho0,hb⟩;refine ⟨_,rfl,?_⟩;have n0_:=ak_ (Kd.R_lower ho0 (keep_size (w:=w) (g:=g) (row:=none) (by repeat (first|(with_reducible first|exact HK.out|apply KeepBut.set_|apply keep_drewN|apply keep_drew|apply keep_alloc)|exact HK.out))));have n1_:=ak_ (IsS55v.below (by repeat (first|(with_reducible first|exact HI0.out|apply IsS55v.alloc|apply IsS55v.drewN|apply IsS55v.drew)|exact HI0.out)) hb);have n2_:=ak_ (KeepBut.trans (by repeat (first|(with_reducible first|exact HK.out|apply KeepBut.set_|apply keep_drewN|apply keep_drew|apply keep_alloc)|exact HK.out)) (KeepBut.of_below hb g none) (.inl rfl));have n3_:=ak_ (below_step (by repeat (first|(with_reducible first|exact HB.out|apply ba_|apply bb_|apply bc_|refine below_set ?_ (IsS55v.ge HI0.out))|exact HB.out)) hb);clear HI0;clear HK;clear HB;have HO446:=n0_;have HI0:=n1_;have HK:=n2_;have HB:=n3_;clear n0_ n1_ n2_ n3_;(try clear hb);(try clear ho0);obtain ⟨HGz6,hgz6⟩:=HI0.out;have hcz6_0:=cellS55_0 HGz6;have hcz6_1:=cellS55_1 HGz6;have hfz6_0:=blk_frozen HGz6 0;have hfz6_1:=blk_frozen HGz6 1;clear HGz6 hgz6))
 go_loopg [7,8] k (fun kq v7 v8 w' => ∃ (x7_1 : List Int) (x8_1 : Int),v8 = .int .i64 x8_1 ∧ Aside0 (madrigalref10_Joiner_Next.l0 kq t444 (s0_1.length : Int) x7_1 x8_1 s0_0 s0_1 = some (r1,r2,r3)) ∧ Aside0 (kq ≤ k) ∧ Aside0 (Kd.R (Kd.int .i64) 2 w' w.heap.size (fun k_ => some k_ ≠ (v7 : Value).ownBlock) v445 t444) ∧ Aside0 (Kd.R (Kd.int .i64) 2 w' w.heap.size (fun k_ => some k_ ≠ (v445 : Value).ownBlock) v7 x7_1) ∧ Aside0 (IsS55v (.slice A90 s0_1.length c90) w0 w' g s0_0 s0_1) ∧ Aside0 (KeepBut w w' g none) ∧ Aside0 (Below w0.heap.size w0 w'))
 case atStart => exact ⟨(([] : List Int)),(0),(by first|rfl|(simp;done)|(simp [*];done)),H',⟨Nat.le_refl _⟩,⟨by (with_reducible repeat (first|apply ra_|apply rb_|apply rc_));exact Kd.R_mono HO446.out (fun _ hk => (by simp [Value.ownBlock]))⟩,⟨by first|exact Kd.R_nil _ _ _ _ _|exact Kd.N_nil _ _ _ _ _|exact Kd.V_nil _ _ _ _ _|exact Kd.Q_nil _ _ _ _ _|exact Kd.S_nil _ _ _ _ _⟩,⟨by repeat (first|(with_reducible first|exact HI0.out|apply IsS55v.alloc|apply IsS55v.drewN|apply IsS55v.drew)|exact HI0.out)⟩,⟨by repeat (first|(with_reducible first|exact HK.out|apply KeepBut.set_|apply keep_drewN|apply keep_drew|apply keep_alloc)|exact HK.out)⟩,⟨by repeat (first|(with_reducible first|exact HB.out|apply ba_|apply bb_|apply bc_|refine below_set ?_ (IsS55v.ge HI0.out))|exact HB.out)⟩⟩
 case round =>
  clear H'
  try clear c1
  try clear c2
  try clear p2
  try clear hcz4_0
  try clear hcz4_1
  try clear hcz6_0
  try clear hcz6_1
  try clear hfz4_0
  try clear hfz4_1
  try clear hfz6_0
  try clear hfz6_1
  obtain ⟨x7_1,x8_1,rfl,HA,HK1,HO_5,HO_7,HI0,HK,HB⟩:=hrel
  (try simp only [i64_w,i32_w])
  cases gk with
  | zero => exact absurd HA.out (by simp [madrigalref10_Joiner_Next.l0])
  | succ k1 =>
   have H:=HA.out
   clear HA
   simp only [madrigalref10_Joiner_Next.l0] at H
   by_cases c7 : x8_1 < (s0_1.length : Int)
   ·rw [if_pos c7] at H
    have c7b0:=decide_eq_true c7
    clear c7
    by_cases c8 : 0 ≤ x8_1
    ·rw [if_pos c8] at H
     have c8b0:=decide_eq_true c8
     clear c8
     by_cases c9 : x8_1 < (s0_1.length : Int)
     ·rw [if_pos c9] at H
      have c9b0:=decide_eq_true c9
      clear c9
      by_cases c10 : x8_1 < (t444.length : Int)
      ·rw [if_pos c10] at H
       have c10b0:=decide_eq_true c10
       clear c10
       replace H:=Option.bind_eq_some_iff.mp H
       obtain ⟨t449,A110,H⟩:=H
       (try dsimp only at H)
       have A11:=ak_ A110
       clear A110
       by_cases c12 : x7_1.length < 17592186044416
       ·rw [if_pos c12] at H
        have LMc12:=ak_ c12
        clear c12
        obtain ⟨y450,hy450⟩ : ∃ y_ : List Int,y_ = (x7_1 ++ [t449]):=⟨_,rfl⟩
        replace H : (madrigalref10_Joiner_Next.l0 k1 t444 (s0_1.length : Int) y450 (wrap64 (x8_1 + 1)) s0_0 s0_1) = some (r1,r2,r3):=by first|(rw [hy450];with_reducible exact H)|(have H2_:=(Option.bind_some _ _).symm.trans H;rw [hy450];with_reducible exact H2_)|(have H2_:=(Option.bind_some _ _).symm.trans H;with_reducible exact H2_)|with_reducible exact H|(rw [hy450];exact H)|exact H
        have Ny450:=ak_ hy450
        clear hy450
        have H':=ak_ H
        clear H
        try go_wp2
        have n0_:=ak_ (Kd.R_drew HO_5.out)
        have n1_:=ak_ (Kd.R_drew HO_7.out)
        have n2_:=ak_ (IsS55v.drew HI0.out)
        have n3_:=ak_ (keep_drew HK.out)
        have n4_:=ak_ (below_drew1 HB.out)
        clear HO_5
        clear HO_7
        clear HI0
        clear HK
        clear HB
        have HO_5:=n0_
        have HO_7:=n1_
        have HI0:=n2_
        have HK:=n3_
        have HB:=n4_
        clear n0_ n1_ n2_ n3_ n4_
        have p447 : 0 ≤ (x8_1 : Int):=of_decide_eq_true (by first|(with_reducible assumption)|assumption)
        have q447 : x8_1 < (s0_1.length : Int):=of_decide_eq_true (by first|(with_reducible assumption)|assumption)
        obtain ⟨ad447,e447,hx447_0⟩:=Kd.at_int HR90.out x8_1 p447 q447
        have hw447_0:=hx447_0
        cases e447
        have hne447_0:=(show ((ad447.add (x8_1).toNat) : Addr).block ≠ g from by first|(rw [add_block];exact hf90 ad447 rfl (by omega))|(show (Addr.add _ _).block ≠ _;rw [add_block];exact hf90 ad447 rfl (by omega))|exact hf90 ad447 rfl (by omega))
        replace hx447_0:=keep_cell HK.out hx447_0 (by first|(rw [add_block];exact hf90 _ rfl (by omega))|exact hf90 _ rfl (by omega)|exact hf90 ad447 rfl (by omega))
        replace p447:=eq_true p447
        replace q447:=eq_true q447
        obtain ⟨Ao14,co14,eo14⟩:=Kd.R_slice HO_5.out
        (first|subst eo14|(injection eo14 with f1_ f2_ f3_;have f4_:=f1_.symm;have f5_:=f3_.symm;clear f1_ f2_ f3_;subst f4_;subst f5_))
        have p448 : 0 ≤ (x8_1 : Int):=of_decide_eq_true (by first|(with_reducible assumption)|assumption)
        have q448 : x8_1 < (t444.length : Int):=of_decide_eq_true (by first|(with_reducible assumption)|assumption)
        obtain ⟨ad448,e448,hx448_0⟩:=Kd.at_int (Kd.R_reads' HO_5.out).2.2 x8_1 p448 q448
        cases e448
        replace p448:=eq_true p448
        replace q448:=eq_true q448
        refine start_ (n:=17) (S:=fun w' => w'.cell? ⟨g,0,none⟩ = some (.int .i64 s0_0) ∧ w'.cell? ⟨g,1,none⟩ = some (.slice (some ad447) s0_1.length c90) ∧ w'.cell? (ad447.add (x8_1).toNat) = some (.int .i64 (rd s0_1 x8_1)) ∧ w'.cell? (ad448.add (x8_1).toNat) = some (.int .i64 (rd t444 x8_1))) (ds:=[14,15]) #[false,false,false,false,false,false,false,false,false,false,false,false,false,false,false,false,false] (by kernel_rfl) rfl rfl ⟨(blk_cell (ak_ HI0.out.1).out 0).trans rfl,(blk_cell (ak_ HI0.out.1).out 1).trans rfl,(keep_cell HK.out hw447_0 hne447_0),hx448_0⟩ (fun hHeld => ?_);refine with_tabW madrigalref10_Joiner_Next.tab7 madrigalref10_Joiner_Next.bits7 (fun HT_ HW_ => ?_)
        generalize wr.drew = w13 at HO_5 HO_7 HI0 HK HB hx447_0 hx448_0 hHeld ⊢
        refine pure_ (i:=0) (N:=some 25) (v:=?_) (a':=?_) #[true,false,false,false,false,false,false,false,false,false,false,false,false,false,false,false,false] rfl rfl (any_of HT_.out (by kernel_rfl)) (fun _ _ _ h => h) (Or.inl ⟨by rfl,?_⟩) ?_ ?_
        rotate_left
        ·intro w'
         go_simp
         with_reducible rfl
        rotate_left
        ·simp only [Act.put,List.setIfInBounds_toArray,List.set_cons_zero,List.set_cons_succ,i64_w,i32_w]
         rfl
        refine pure_ (i:=1) (N:=some 26) (v:=?_) (a':=?_) #[true,true,false,false,false,false,false,false,false,false,false,false,false,false,false,false,false] rfl rfl (any_of HT_.out (by kernel_rfl)) (fun _ _ _ h => h) (Or.inl ⟨by rfl,?_⟩) ?_ ?_
        rotate_left
        ·intro w'
         go_simp
         with_reducible rfl
        rotate_left
        ·simp only [Act.put,List.setIfInBounds_toArray,List.set_cons_zero,List.set_cons_succ,i64_w,i32_w]
         rfl
        refine pure_ (i:=2) (N:=some 27) (v:=?_) (a':=?_) #[true,true,true,false,false,false,false,false,false,false,false,false,false,false,false,false,false] rfl rfl (any_of HT_.out (by kernel_rfl)) (fun _ _ _ h => h) (Or.inl ⟨by rfl,?_⟩) ?_ ?_
        rotate_left
        ·intro w'
         go_simp
         with_reducible rfl
        rotate_left
        ·simp only [Act.put,List.setIfInBounds_toArray,List.set_cons_zero,List.set_cons_succ,i64_w,i32_w]
         rfl
        refine pure_ (i:=3) (N:=some 28) (v:=?_) (a':=?_) #[true,true,true,true,false,false,false,false,false,false,false,false,false,false,false,false,false] rfl rfl (any_of HT_.out (by kernel_rfl)) (fun _ _ _ h => h) (Or.inl ⟨by rfl,?_⟩) ?_ ?_
        rotate_left
        ·intro w'
         go_simp
         with_reducible rfl
        rotate_left
        ·simp only [Act.put,List.setIfInBounds_toArray,List.set_cons_zero,List.set_cons_succ,i64_w,i32_w]
         rfl
        refine pure_ (i:=5) (N:=some 30) (v:=?_) (a':=?_) #[true,true,true,true,false,true,false,false,false,false,false,false,false,false,false,false,false] rfl rfl (any_of HT_.out (by kernel_rfl)) (fun _ _ _ h => h) (Or.inl ⟨by rfl,?_⟩) ?_ ?_
        rotate_left
        ·intro w'
         go_simp
         with_reducible rfl
        rotate_left
        ·simp only [Act.put,List.setIfInBounds_toArray,List.set_cons_zero,List.set_cons_succ,i64_w,i32_w]
         rfl
        refine pure_ (i:=8) (N:=some 33) (v:=?_) (a':=?_) #[true,true,true,true,false,true,false,false,true,false,false,false,false,false,false,false,false] rfl rfl (any_of HT_.out (by kernel_rfl)) (fun _ _ _ h => h) (Or.inl ⟨by rfl,?_⟩) ?_ ?_
        rotate_left
        ·intro w'
         go_simp
         with_reducible rfl
        rotate_left
        ·simp only [Act.put,List.setIfInBounds_toArray,List.set_cons_zero,List.set_cons_succ,i64_w,i32_w]
         rfl
        refine pure_ (i:=9) (N:=some 34) (v:=?_) (a':=?_) #[true,true,true,true,false,true,false,false,true,true,false,false,false,false,false,false,false] rfl rfl (any_of HT_.out (by kernel_rfl)) (fun _ _ _ h => h) (Or.inl ⟨by rfl,?_⟩) ?_ ?_
        rotate_left
        ·intro w'
         go_simp
         with_reducible rfl
        rotate_left
        ·simp only [Act.put,List.setIfInBounds_toArray,List.set_cons_zero,List.set_cons_succ,i64_w,i32_w]
         rfl
        refine pure_ (i:=10) (N:=some 35) (v:=?_) (a':=?_) #[true,true,true,true,false,true,false,false,true,true,true,false,false,false,false,false,false] rfl rfl (any_of HT_.out (by kernel_rfl)) (fun _ _ _ h => h) (Or.inl ⟨by rfl,?_⟩) ?_ ?_
        rotate_left
        ·intro w'
         go_simp
         with_reducible rfl
        rotate_left
        ·simp only [Act.put,List.setIfInBounds_toArray,List.set_cons_zero,List.set_cons_succ,i64_w,i32_w]
         rfl
        refine take_ (i:=4) (N:=some 29) (v:=?_) (a':=?_) #[true,true,true,true,true,true,false,false,true,true,true,false,false,false,false,false,false] rfl rfl (take_ofW HT_.out HW_.out (by kernel_rfl)) (fun _ _ _ h => h) (Or.inl ⟨by rfl,?_⟩) hHeld ?_ ?_
        rotate_left
        ·rintro w' ⟨s0,s1,s2,s3⟩
         go_simp
         with_reducible rfl
        rotate_left
        ·simp only [Act.put,List.setIfInBounds_toArray,List.set_cons_zero,List.set_cons_succ,i64_w,i32_w]
         rfl
        refine pure_ (i:=6) (N:=some 31) (v:=?_) (a':=?_) #[true,true,true,true,true,true,true,false,true,true,true,false,false,false,false,false,false] rfl rfl (any_of HT_.out (by kernel_rfl)) (fun _ _ _ h => h) (Or.inl ⟨by rfl,?_⟩) ?_ ?_
        rotate_left
        ·intro w'
         go_simp
         with_reducible rfl
        rotate_left
        ·simp only [Act.put,List.setIfInBounds_toArray,List.set_cons_zero,List.set_cons_succ,i64_w,i32_w]
         rfl
        refine take_ (i:=7) (N:=some 32) (v:=?_) (a':=?_) #[true,true,true,true,true,true,true,true,true,true,true,false,false,false,false,false,false] rfl rfl (take_ofW HT_.out HW_.out (by kernel_rfl)) (fun _ _ _ h => h) (Or.inl ⟨by rfl,?_⟩) hHeld ?_ ?_
        rotate_left
        ·rintro w' ⟨s0,s1,s2,s3⟩
         go_simp
         with_reducible rfl
        rotate_left
        ·simp only [Act.put,List.setIfInBounds_toArray,List.set_cons_zero,List.set_cons_succ,i64_w,i32_w]
         rfl
        refine take_ (i:=11) (N:=some 36) (v:=?_) (a':=?_) #[true,true,true,true,true,true,true,true,true,true,true,true,false,false,false,false,false] rfl rfl (take_ofW HT_.out HW_.out (by kernel_rfl)) (fun _ _ _ h => h) (Or.inl ⟨by rfl,?_⟩) hHeld ?_ ?_
        rotate_left
        ·rintro w' ⟨s0,s1,s2,s3⟩
         go_simp
         with_reducible rfl
        rotate_left
        ·simp only [Act.put,List.setIfInBounds_toArray,List.set_cons_zero,List.set_cons_succ,i64_w,i32_w]
         rfl
        refine pure_ (i:=12) (N:=some 37) (v:=?_) (a':=?_) #[true,true,true,true,true,true,true,true,true,true,true,true,true,false,false,false,false] rfl rfl (any_of HT_.out (by kernel_rfl)) (fun _ _ _ h => h) (Or.inl ⟨by rfl,?_⟩) ?_ ?_
        rotate_left
        ·intro w'
         go_simp
         with_reducible rfl
        rotate_left
        ·simp only [Act.put,List.setIfInBounds_toArray,List.set_cons_zero,List.set_cons_succ,i64_w,i32_w]
         rfl
        refine one_ (i:=13) (N:=some 38) #[true,true,true,true,true,true,true,true,true,true,true,true,true,true,false,false,false] rfl rfl (one_of HT_.out (by kernel_rfl)) (by decide) (fun K hK => ?_)
        refine goes_ Try.func34 (by kernel_rfl) rfl #[.int .i64 (wrap64 ((rd s0_1 x8_1) + (rd t444 x8_1)))] (by rfl) rfl rfl (by (try simp only [List.map_toArray,List.map_cons,List.map_nil]);first|done|rfl|(simp only [List.length_drop,List.length_take];rfl)) ?_
        with_reducible refine (madrigalref10_keep.calls k1 (wrap64 ((rd s0_1 x8_1) + (rd t444 x8_1))) t449 _ A11.out).mono ?_
        rintro e w' ⟨rfl,⟨nd,rfl⟩⟩
        refine ⟨_,rfl,?_⟩
        refine hK.out _ _ ⟨(blk_cell (ak_ HI0.out.1).out 0).trans rfl,(blk_cell (ak_ HI0.out.1).out 1).trans rfl,(keep_cell HK.out hw447_0 hne447_0),hHeld.2.2.2⟩ (fun hHeld => ?_)
        clear hK K
        refine norm_ (a':=?_) ?_ ?_
        rotate_left
        ·show Act.put _ (some 38) _ = _
         simp only [Act.put,List.setIfInBounds_toArray,List.set_cons_zero,List.set_cons_succ,i64_w,i32_w]
         rfl
        refine last_ (i:=14) (N:=some 39) #[true,true,true,true,true,true,true,true,true,true,true,true,true,true,true,false,false] rfl rfl (one_of HT_.out (by kernel_rfl)) (by decide) (fun K hK => ?_)
        refine value_ (w1:=?_) (v:=?_) (by rfl) rfl ?_ ?_
        rotate_left 2
        ·go_simp
         constructor
         ·rfl
         ·rfl
        refine hK.out _ _ ?_
        clear hK K
        refine norm_ (a':=?_) ?_ ?_
        rotate_left
        ·show Act.put _ (some 39) _ = _
         simp only [Act.put,List.setIfInBounds_toArray,List.set_cons_zero,List.set_cons_succ,i64_w,i32_w]
         rfl
        refine last_ (i:=15) (N:=some 40) #[true,true,true,true,true,true,true,true,true,true,true,true,true,true,true,true,false] rfl rfl (one_of HT_.out (by kernel_rfl)) (by decide) (fun K hK => ?_)
        refine Kd.R_append_step (Kd.int .i64) w.heap.size (by rfl) (.tmp 25) (.tmp 39) 23 2 (.int .i64 0) 8 rfl Try.underlying23 info2 rfl (by decide) (by omega) u7 x7_1 t449 [.int .i64 t449] (fun k_ => some k_ ≠ (.slice (some ad448) t444.length co14 : Value).ownBlock) (fun _ => False) rfl rfl ?aP (fun _ hk => hk.elim) ?aF ?aO (Below.refl _ _) ?aS ?aL ?_
        (case aP => exact rfl)
        (case aF => exact (fun k_ hk => Kd.fresh' (Kd.R_lt (by (with_reducible repeat (first|apply ra_|apply rb_|apply rc_));exact HO_5.out)) k_ hk))
        (case aO => exact (by (with_reducible repeat (first|apply ra_|apply rb_|apply rc_));exact HO_7.out))
        (case aS => exact (keep_size (w:=w) (g:=g) (row:=none) (by repeat (first|(with_reducible first|exact HK.out|apply KeepBut.set_|apply keep_drewN|apply keep_drew|apply keep_alloc)|exact HK.out))))
        (case aL => have:=LMc12.out;omega)
        intro v451 w15 ho hb hg hat
        rw [← Ny450.out] at ho
        have n0_:=ak_ (Kd.R_after (ok:=(fun _ => True)) (by (with_reducible repeat (first|apply ra_|apply rb_|apply rc_));exact Kd.R_mono HO_5.out (fun _ hk => ⟨trivial,hk⟩)) hg hat)
        have n1_:=ak_ (IsS55v.grown (by repeat (first|(with_reducible first|exact HI0.out|apply IsS55v.alloc|apply IsS55v.drewN|apply IsS55v.drew)|exact HI0.out)) hg (IsS55v.own_ne HI0.out HO_7.out (by decide)))
        have n2_:=ak_ (below_weaken (by repeat (first|(with_reducible first|exact HB.out|apply ba_|apply bb_|apply bc_|refine below_set ?_ (IsS55v.ge HI0.out))|exact HB.out)) HL.out hb)
        have n3_:=ak_ (KeepBut.trans (by repeat (first|(with_reducible first|exact HK.out|apply KeepBut.set_|apply keep_drewN|apply keep_drew|apply keep_alloc)|exact HK.out)) (KeepBut.of_grown hg g) (Kd.R_base2 HO_7.out))
        have n4_:=ak_ (ho)
        clear HO_5
        clear HI0
        clear HB
        clear HK
        clear HO_7
        have HO_5:=n0_
        have HI0:=n1_
        have HB:=n2_
        have HK:=n3_
        have HO452:=n4_
        clear n0_ n1_ n2_ n3_ n4_
        clear ho hb hg hat
        refine hK.out _ _ ?_
        clear hK K
        refine norm_ (a':=?_) ?_ ?_
        rotate_left
        ·show Act.put _ (some 40) _ = _
         simp only [Act.put,List.setIfInBounds_toArray,List.set_cons_zero,List.set_cons_succ,i64_w,i32_w]
         rfl
        refine pure_ (i:=16) (N:=some 7) (v:=?_) (a':=?_) #[true,true,true,true,true,true,true,true,true,true,true,true,true,true,true,true,true] rfl rfl (any_of HT_.out (by kernel_rfl)) (fun _ _ _ h => h) (Or.inl ⟨by rfl,?_⟩) ?_ ?_
        rotate_left
        ·intro w'
         go_simp
         with_reducible rfl
        rotate_left
        ·simp only [Act.put,List.setIfInBounds_toArray,List.set_cons_zero,List.set_cons_succ,i64_w,i32_w]
         rfl
        refine done_ (done_of HT_.out (by kernel_rfl)) ?_
        try go_wp2
        go_roundg k1
        case measure => have:=HK1.out;omega
        case rel => exact ⟨(y450),(wrap64 (x8_1 + 1)),(by first|rfl|(simp;done)|(simp [*];done)),H',⟨by have:=HK1.out;omega⟩,⟨by (with_reducible repeat (first|apply ra_|apply rb_|apply rc_));exact Kd.R_mono HO_5.out (fun _ hk => hk.2)⟩,⟨by (with_reducible repeat (first|apply ra_|apply rb_|apply rc_));exact HO452.out⟩,⟨by repeat (first|(with_reducible first|exact HI0.out|apply IsS55v.alloc|apply IsS55v.drewN|apply IsS55v.drew)|exact HI0.out)⟩,⟨by repeat (first|(with_reducible first|exact HK.out|apply KeepBut.set_|apply keep_drewN|apply keep_drew|apply keep_alloc)|exact HK.out)⟩,⟨by repeat (first|(with_reducible first|exact HB.out|apply ba_|apply bb_|apply bc_|refine below_set ?_ (IsS55v.ge HI0.out))|exact HB.out)⟩⟩
       ·rw [if_neg c12] at H
        exact absurd H (by simp)
      ·rw [if_neg c10] at H
       exact absurd H (by simp)
     ·rw [if_neg c9] at H
      exact absurd H (by simp)
    ·rw [if_neg c8] at H
     exact absurd H (by simp)
   ·rw [if_neg c7] at H
    have c7b0:=decide_eq_false c7
    clear c7
    obtain ⟨y453,hy453⟩ : ∃ y_ : List Int,y_ = (([] : List Int)):=⟨_,rfl⟩
    replace H : (if 0 ≤ (s0_1.length : Int) then (if (s0_1.length : Int) ≤ (t444.length : Int) then ((some (t444.drop ((s0_1.length : Int) : Int).toNat : List Int)).bind fun y456 => (if y453.length + y456.length < 17592186044416 then (some (x7_1,s0_0,(y453 ++ y456))) else (none))) else (none)) else (none)) = some (r1,r2,r3):=by first|(rw [hy453];with_reducible exact H)|(have H2_:=(Option.bind_some _ _).symm.trans H;rw [hy453];with_reducible exact H2_)|(have H2_:=(Option.bind_some _ _).symm.trans H;with_reducible exact H2_)|with_reducible exact H|(rw [hy453];exact H)|exact H
    have Ny453:=ak_ hy453
    clear hy453
    by_cases c16 : 0 ≤ (s0_1.length : Int)
    ·rw [if_pos c16] at H
     have c16b0:=eq_true c16
     have c16b1 : decide (0 ≤ (s0_1.length : Int)) = true:=decide_eq_true c16
     clear c16
     by_cases c17 : (s0_1.length : Int) ≤ (t444.length : Int)
     ·rw [if_pos c17] at H
      have c17b0:=eq_true c17
      have c17b1 : decide ((s0_1.length : Int) ≤ (t444.length : Int)) = true:=decide_eq_true c17
      clear c17
      obtain ⟨y456,hy456⟩ : ∃ y_ : List Int,y_ = (t444.drop ((s0_1.length : Int) : Int).toNat):=⟨_,rfl⟩
      replace H : (if y453.length + y456.length < 17592186044416 then (some (x7_1,s0_0,(y453 ++ y456))) else (none)) = some (r1,r2,r3):=by first|(rw [hy456];with_reducible exact H)|(have H2_:=(Option.bind_some _ _).symm.trans H;rw [hy456];with_reducible exact H2_)|(have H2_:=(Option.bind_some _ _).symm.trans H;with_reducible exact H2_)|with_reducible exact H|(rw [hy456];exact H)|exact H
      have Ny456:=ak_ hy456
      clear hy456
      by_cases c18 : y453.length + y456.length < 17592186044416
      ·rw [if_pos c18] at H
       have LMc18:=ak_ c18
       clear c18
       obtain ⟨y460,hy460⟩ : ∃ y_ : List Int,y_ = (y453 ++ y456):=⟨_,rfl⟩
       replace H : (some (x7_1,s0_0,y460)) = some (r1,r2,r3):=by first|(rw [hy460];with_reducible exact H)|(have H2_:=(Option.bind_some _ _).symm.trans H;rw [hy460];with_reducible exact H2_)|(have H2_:=(Option.bind_some _ _).symm.trans H;with_reducible exact H2_)|with_reducible exact H|(rw [hy460];exact H)|exact H
       have Ny460:=ak_ hy460
       clear hy460
       simp only [Option.some.injEq,Prod.mk.injEq] at H
       obtain ⟨rfl,rfl,rfl⟩:=H
       go_wp2_with (first|((with_reducible refine gate_dst (N:=42) rfl ?_);refine Kd.R_lit (Kd.int .i64) _ 2 ?hg (N:=42) ?hd (xs:=([] : List Int)) (inner:=[]) (ok:=fun _ => True) (okp:=fun _ => True) ?hr ?hp (fun _ hk => hk) trivial (Below.refl _ _) (Nat.le_refl _) (by simp) ?_;(case hd => rfl);(case hg => rfl);(case hr => first|(go_simp;done)|(go_simp;rfl));(case hp => exact (Reps.none _ _));intro v454 w19 ho20 hb hg_ hnew_;clear hg_ hnew_;(first|rw [← Ny453.out] at ho20|(simp only [Int.reduceToNat] at ho20;rw [← Ny453.out] at ho20));have n0_:=ak_ (Kd.R_elder' (by (with_reducible repeat (first|apply ra_|apply rb_|apply rc_));exact HO_5.out) (Kd.R_base ho20) hb);have n1_:=ak_ (Kd.R_elder' (by (with_reducible repeat (first|apply ra_|apply rb_|apply rc_));exact HO_7.out) (Kd.R_base ho20) hb);have n2_:=ak_ (Kd.R_lower (Kd.R_new' (Kd.R_new' ho20 (Kd.R_lt (by (with_reducible repeat (first|apply ra_|apply rb_|apply rc_));exact HO_5.out))) (Kd.R_lt (by (with_reducible repeat (first|apply ra_|apply rb_|apply rc_));exact HO_7.out))) (keep_size (w:=w) (g:=g) (row:=none) (by repeat (first|(with_reducible first|exact HK.out|apply KeepBut.set_|apply keep_drewN|apply keep_drew|apply keep_alloc)|exact HK.out))));have n3_:=ak_ (IsS55v.below (by repeat (first|(with_reducible first|exact HI0.out|apply IsS55v.alloc|apply IsS55v.drewN|apply IsS55v.drew)|exact HI0.out)) hb);have n4_:=ak_ (KeepBut.trans (by repeat (first|(with_reducible first|exact HK.out|apply KeepBut.set_|apply keep_drewN|apply keep_drew|apply keep_alloc)|exact HK.out)) (KeepBut.of_below hb g none) (.inl rfl));have n5_:=ak_ (below_step (by repeat (first|(with_reducible first|exact HB.out|apply ba_|apply bb_|apply bc_|refine below_set ?_ (IsS55v.ge HI0.out))|exact HB.out)) hb);clear HO_5;clear HO_7;clear HI0;clear HK;clear HB;have HO_5:=n0_;have HO_7:=n1_;have HO455:=n2_;have HI0:=n3_;have HK:=n4_;have HB:=n5_;clear n0_ n1_ n2_ n3_ n4_ n5_;clear hb ho20;obtain ⟨Ao22,co22,eo22⟩:=Kd.R_slice HO_5.out;subst eo22;have q21 : ((s0_1.length : Int) : Int) ≤ ((t444.length : Int) : Int):=of_decide_eq_true (by first|(with_reducible assumption)|assumption);obtain ⟨i021,hi021,_,hsz21,_⟩:=info_parts info2;have hroom21 : t444.length ≤ co22:=(Kd.R_reads' HO_5.out).2.1;have hC21 : Kd.C (Kd.int .i64) _ Ao22 t444.length t444:=(Kd.R_reads' HO_5.out).2.2;have q021 : (0 : Int) ≤ ((s0_1.length : Int) : Int):=of_decide_eq_true (by first|(with_reducible assumption)|assumption);have hcut21:=cut_from (P:=Try.prog) 23 2 .i64 Try.underlying23 hi021 1 hsz21 Ao22 t444.length co22 (s0_1.length : Int) q021 q21;have hr21:=Kd.C_drop (m:=((s0_1.length : Int) : Int).toNat) (c:=co22) hC21 (by omega) hroom21;obtain ⟨A21,hA21⟩ : ∃ A_1,A_1 = (if co22 = ((s0_1.length : Int) : Int).toNat then Ao22 else (Ao22 : Option Addr).map (·.add (((s0_1.length : Int) : Int).toNat * 1))):=⟨_,rfl⟩;obtain ⟨c21,hc21⟩ : ∃ c_1,c_1 = co22 - ((s0_1.length : Int) : Int).toNat:=⟨_,rfl⟩;have hy21 : y456.length = t444.length - ((s0_1.length : Int) : Int).toNat:=(by rw [Ny456.out,List.length_drop] <;> omega);rw [show (t444).drop ((s0_1.length : Int) : Int).toNat = y456 from Ny456.out.symm] at hr21;replace hr21 : Kd.C (Kd.int .i64) _ A21 y456.length y456:=(by rw [hA21];exact hr21);rw [← hy21,← hA21,← hc21] at hcut21;have HR459:=ak_ hr21;have HC459:=ak_ (show y456.length ≤ c21 from by rw [hy21,hc21];exact Nat.sub_le_sub_right hroom21 _);clear hr21 hC21 hroom21 hi021 hsz21 hc21;have KY21:=ak_ hy21;have KA21:=ak_ hA21;clear hy21 hA21;have KL21:=ak_ (show ((s0_1.length : Int) : Int).toNat ≤ t444.length from by omega);replace q21:=eq_true q21)|((with_reducible refine gate_builtin (b:=.append) (xs:=#[.tmp 42,.tmp 45]) rfl ?_);at_builtin;refine Kd.R_append_rows (Kd.int .i64) w.heap.size rfl (.tmp 42) (.tmp 45) 23 2 (.int .i64 0) 8 rfl Try.underlying23 info2 rfl (by decide) (by omega) v454 y453 y456 _ _ _ (fun k_ => some k_ ≠ (.slice Ao22 t444.length co22 : Value).ownBlock ∧ some k_ ≠ (u7 : Value).ownBlock) (fun _ => False) rfl rfl ?aO ?aR (fun _ _ h => h) (fun _ h => h.elim) ?aF (Below.refl _ _) ?aS ?aL ?_;(case aR => repeat (first|exact (by repeat (first|(with_reducible exact HR459.out)|(with_reducible refine Kd.C_alloc ?_ _)|(with_reducible refine Kd.C_drewN ?_ _)|(with_reducible refine Kd.C_drew ?_)|exact HR459.out))|(with_reducible refine Kd.C_alloc ?_ _)|(with_reducible refine Kd.C_drewN ?_ _)|(with_reducible refine Kd.C_drew ?_)));(case aF => exact (fun k_ hk => ⟨Kd.fresh' (Kd.R_lt (by (with_reducible repeat (first|apply ra_|apply rb_|apply rc_));exact HO_5.out)) k_ hk,Kd.fresh' (Kd.R_lt (by (with_reducible repeat (first|apply ra_|apply rb_|apply rc_));exact HO_7.out)) k_ hk⟩));(case aO => exact (by (with_reducible repeat (first|apply ra_|apply rb_|apply rc_));exact Kd.R_mono HO455.out (fun _ hk => ⟨hk.1.2,hk.2⟩)));(case aS => exact (keep_size (w:=w) (g:=g) (row:=none) (by repeat (first|(with_reducible first|exact HK.out|apply KeepBut.set_|apply keep_drewN|apply keep_drew|apply keep_alloc)|exact HK.out))));(case aL => have:=LMc18.out;omega);intro v461 w23 ho hb hg hat;rw [← Ny460.out] at ho;have n0_:=ak_ (Kd.R_after (ok:=(fun k_ => some k_ ≠ (u7 : Value).ownBlock)) (by (with_reducible repeat (first|apply ra_|apply rb_|apply rc_));exact HO_5.out) hg hat);have n1_:=ak_ (Kd.R_after (ok:=(fun k_ => some k_ ≠ (.slice Ao22 t444.length co22 : Value).ownBlock)) (by (with_reducible repeat (first|apply ra_|apply rb_|apply rc_));exact HO_7.out) hg hat);have n2_:=ak_ (IsS55v.grown (by repeat (first|(with_reducible first|exact HI0.out|apply IsS55v.alloc|apply IsS55v.drewN|apply IsS55v.drew)|exact HI0.out)) hg (IsS55v.own_ne HI0.out HO455.out (by decide)));have n3_:=ak_ (below_weaken (by repeat (first|(with_reducible first|exact HB.out|apply ba_|apply bb_|apply bc_|refine below_set ?_ (IsS55v.ge HI0.out))|exact HB.out)) HL.out hb);have n4_:=ak_ (KeepBut.trans (by repeat (first|(with_reducible first|exact HK.out|apply KeepBut.set_|apply keep_drewN|apply keep_drew|apply keep_alloc)|exact HK.out)) (KeepBut.of_grown hg g) (Kd.R_base2 HO455.out));have n5_:=ak_ ((show Kd.C (Kd.int .i64) w23 A21 y456.length y456 from by rw [Ny456.out,KA21.out];exact Kd.C_drop (m:=((s0_1.length : Int) : Int).toNat) (c:=co22) ((Kd.R_reads' (Kd.R_after (ok:=(fun k_ => some k_ ≠ (u7 : Value).ownBlock)) (by (with_reducible repeat (first|apply ra_|apply rb_|apply rc_));exact HO_5.out) hg hat)).2.2) KL21.out ((Kd.R_reads' (Kd.R_after (ok:=(fun k_ => some k_ ≠ (u7 : Value).ownBlock)) (by (with_reducible repeat (first|apply ra_|apply rb_|apply rc_));exact HO_5.out) hg hat)).2.1)));have n6_:=ak_ (ho);clear HO_5;clear HO_7;clear HI0;clear HB;clear HK;clear HR459;clear HO455;have HO_5:=n0_;have HO_7:=n1_;have HI0:=n2_;have HB:=n3_;have HK:=n4_;have HR459:=n5_;have HO462:=n6_;clear n0_ n1_ n2_ n3_ n4_ n5_ n6_;clear ho hb hg hat;obtain ⟨Ao24,co24,eo24⟩:=Kd.R_slice HO462.out;subst eo24;have hxg26 : w23.cell? ⟨g,1,none⟩ = some (.slice A90 s0_1.length c90):=(blk_cell (show IsS55v (.slice A90 s0_1.length c90) w0 _ g s0_0 s0_1 from by repeat (first|(with_reducible first|exact HI0.out|apply IsS55v.alloc|apply IsS55v.drewN|apply IsS55v.drew)|exact HI0.out)).1 1).trans rfl;have hfg26 : w23.frozen? ⟨g,1,none⟩ = false:=blk_frozen (show IsS55v (.slice A90 s0_1.length c90) w0 _ g s0_0 s0_1 from by repeat (first|(with_reducible first|exact HI0.out|apply IsS55v.alloc|apply IsS55v.drewN|apply IsS55v.drew)|exact HI0.out)).1 1)|((with_reducible refine gate_store (t:=23) (p:=48) rfl ?_);refine store_event (t:=23) (p:=48) (v:=?vo_w25) (w1:=(w23.setCell ⟨g,1,none⟩ (.slice Ao24 y460.length co24))) ?hg ?ho ?hn ?hr ?_;(case ho => rfl);(case hg => rfl);(case hn => rfl);(case hr => first|(go_simp;done)|(go_simp;rfl));intro w25 hw;have hi : IsS55 w0 w25 g s0_0 y460:=(by rw [hw];exact IsS55v.put (show IsS55v (.slice A90 s0_1.length c90) w0 _ g s0_0 s0_1 from by repeat (first|(with_reducible first|exact HI0.out|apply IsS55v.alloc|apply IsS55v.drewN|apply IsS55v.drew)|exact HI0.out)) (Kd.Q_mono (Kd.Q_lower (Kd.Q_of_R (by (with_reducible repeat (first|apply ra_|apply rb_|apply rc_));exact HO462.out)) HW0.out) (fun _ _ => trivial)));have hb : Below w0.heap.size w0 w25:=(by rw [hw];exact below_set (by repeat (first|(with_reducible first|exact HB.out|apply ba_|apply bb_|apply bc_|refine below_set ?_ (IsS55v.ge HI0.out))|exact HB.out)) (IsS55v.ge HI0.out));have hk : KeepBut w23 w25 g none:=(by rw [hw];exact KeepBut.set_ (KeepBut.refl _ _ _) _ _);have n0_:=ak_ (Kd.R_mono (Kd.R_keep (IsS55v.apart (show IsS55v (.slice A90 s0_1.length c90) w0 _ g s0_0 s0_1 from by repeat (first|(with_reducible first|exact HI0.out|apply IsS55v.alloc|apply IsS55v.drewN|apply IsS55v.drew)|exact HI0.out)) (by (with_reducible repeat (first|apply ra_|apply rb_|apply rc_));exact HO_5.out) (by decide)) hk (fun _ h => h.2)) (fun _ h => h.1));have n1_:=ak_ (Kd.R_mono (Kd.R_keep (IsS55v.apart (show IsS55v (.slice A90 s0_1.length c90) w0 _ g s0_0 s0_1 from by repeat (first|(with_reducible first|exact HI0.out|apply IsS55v.alloc|apply IsS55v.drewN|apply IsS55v.drew)|exact HI0.out)) (by (with_reducible repeat (first|apply ra_|apply rb_|apply rc_));exact HO_7.out) (by decide)) hk (fun _ h => h.2)) (fun _ h => h.1));have n2_:=ak_ (Kd.R_mono (Kd.R_keep (IsS55v.apart (show IsS55v (.slice A90 s0_1.length c90) w0 _ g s0_0 s0_1 from by repeat (first|(with_reducible first|exact HI0.out|apply IsS55v.alloc|apply IsS55v.drewN|apply IsS55v.drew)|exact HI0.out)) (by (with_reducible repeat (first|apply ra_|apply rb_|apply rc_));exact HO462.out) (by decide)) hk (fun _ h => h.2)) (fun _ h => h.1));have n3_:=ak_ (KeepBut.trans (by repeat (first|(with_reducible first|exact HK.out|apply KeepBut.set_|apply keep_drewN|apply keep_drew|apply keep_alloc)|exact HK.out)) hk (.inl rfl));have n4_:=ak_ (hb);have n5_:=ak_ (hi);clear HO_5;clear HO_7;clear HO462;clear HK;clear HB;clear HI0;have HO_5:=n0_;have HO_7:=n1_;have HO462:=n2_;have HK:=n3_;have HB:=n4_;have HI0:=n5_;clear n0_ n1_ n2_ n3_ n4_ n5_;(try clear hb);(try clear hk);(try clear hi);(try clear hw)))
       go_ret
       exact ⟨_,by first|rfl|(simp [errW_none,errW_some] <;> rfl)|(simp [*,errW_none,errW_some] <;> rfl),by (with_reducible repeat (first|apply ra_|apply rb_|apply rc_));exact Kd.R_mono HO_7.out (fun _ hk => trivial),by repeat (first|(with_reducible first|exact HI0.out|apply IsS55.alloc|apply IsS55.drewN|apply IsS55.drew)|exact HI0.out),by repeat (first|(with_reducible first|exact HB.out|apply ba_|apply bb_|apply bc_|refine below_set ?_ (IsS55.ge HI0.out))|exact HB.out),by repeat (first|(with_reducible first|exact HK.out|apply KeepBut.set_|apply keep_drewN|apply keep_drew|apply keep_alloc)|exact HK.out)⟩
      ·rw [if_neg c18] at H
       exact absurd H (by simp)
     ·rw [if_neg c17] at H
      exact absurd H (by simp)
    ·rw [if_neg c16] at H
     exact absurd H (by simp)

end Go.Proofs.Ytlmacbiahofmcaa.P
