/- The machine side of the laws of one chapter, without conditions: each call of a Go function comes to what the Lean function of its name answers. Written for this claim by a program of the prover. -/
import Derived.Test.YtcicenmmpbgmoaaPx0
import Derived.Test.YtcicenmmpbgmoaaPx17
import Derived.Test.YtcicenmmpbgmoaaPx25
import Derived.Test.YtcicenmmpbgmoaaPx27
import Derived.Test.YtcicenmmpbgmoaaPx28
namespace Go.Proofs.Ytcicenmmpbgmoaa.P
open Go.RowKit Go.Proofs.YtcicenmmpbgmoaaW.PrintWords Go.Proofs.YtcicenmmpbgmoaaW.PrintLast Go.Proofs.YtcicenmmpbgmoaaW.PrintMore
attribute [local go_sem] max2_int min2_int max_two min_two max_three min_three max_four min_four   -- for this text's walks alone
set_option linter.unusedVariables false
set_option linter.unusedSimpArgs false

/-! ### madrigalref10_Sampler_Run: function 24 -/
mutual
def madrigalref10_Sampler_Run.l0 : Nat → List Int → Int → Int → List Int → Int → Int → Int → List Int → Option (List Int × Int × Int × List Int)
 | 0,_,_,_,_,_,_,_,_ => none
 | k + 1,x1,x5,x6,x7,x8,x1000,x1001,x1002 => if x8 < (x1.length : Int) then (if 0 ≤ x8 then ((madrigalref1_Sat16.f k (rd x1 x8)).bind fun t363 => (if x7.length < 17592186044416 then (madrigalref10_Sampler_Run.l0 k x1 x5 x6 (x7 ++ [t363]) (wrap64 (x8 + 1)) x1000 x1001 x1002) else (none))) else (none)) else (madrigalref10_Sampler_Run.l1 k x1 x5 x6 x7 ([] : List (List Int)) 0 x1000 x1001 x1002)
def madrigalref10_Sampler_Run.l1 : Nat → List Int → Int → Int → List Int → List (List Int) → Int → Int → Int → List Int → Option (List Int × Int × Int × List Int)
 | 0,_,_,_,_,_,_,_,_,_ => none
 | k + 1,x1,x5,x6,x7,x9,x10,x1000,x1001,x1002 => if x10 < x5 then ((madrigalref10_Phase.f k x1000 x1001 x10).bind fun t367 => (if x9.length < 5864062014805 then (madrigalref10_Sampler_Run.l1 k x1 x5 x6 x7 (x9 ++ [t367]) (wrap64 (x10 + 1)) x1000 x1001 x1002) else (none))) else (madrigalref10_Sampler_Run.l2 k x1 x5 x6 x7 x9 ([] : List Int) 0 x1000 x1001 x1002)
def madrigalref10_Sampler_Run.l2 : Nat → List Int → Int → Int → List Int → List (List Int) → List Int → Int → Int → Int → List Int → Option (List Int × Int × Int × List Int)
 | 0,_,_,_,_,_,_,_,_,_,_ => none
 | k + 1,x1,x5,x6,x7,x9,x11,x12,x1000,x1001,x1002 => if x6 = 0 then (none) else (if x12 < (wrap64 ((wrap64 ((x1.length : Int) / x6)) * x5)) then (if x5 = 0 then (none) else (if 0 ≤ (Int.tmod (wrap64 (x12 * x6)) x5) then (if (Int.tmod (wrap64 (x12 * x6)) x5) < (x9.length : Int) then (madrigalref10_Sampler_Run.l3 k x1 x5 x6 x7 x9 x11 x12 (wrap64 (Int.tdiv (wrap64 (x12 * x6)) x5)) (rd_L1 x9 (Int.tmod (wrap64 (x12 * x6)) x5)) 16384 (-7) x1000 x1001 x1002) else (none)) else (none))) else ((madrigalref10_last.f x7 16).bind fun t373 => (some (x11,x1000,x1001,t373))))
def madrigalref10_Sampler_Run.l3 : Nat → List Int → Int → Int → List Int → List (List Int) → List Int → Int → Int → List Int → Int → Int → Int → Int → List Int → Option (List Int × Int × Int × List Int)
 | 0,_,_,_,_,_,_,_,_,_,_,_,_,_,_ => none
 | k + 1,x1,x5,x6,x7,x9,x11,x12,x13,x14,x15,x16,x1000,x1001,x1002 => if x16 ≤ 8 then (if 0 ≤ (wrap64 (x16 + 7)) then (if (wrap64 (x16 + 7)) < (x14.length : Int) then (if 0 ≤ (wrap64 ((wrap64 (x13 + 8)) + x16)) then (if (wrap64 ((wrap64 (x13 + 8)) + x16)) < (x7.length : Int) then (madrigalref10_Sampler_Run.l3 k x1 x5 x6 x7 x9 x11 x12 x13 x14 (wrap64 (x15 + (wrap64 ((rd x14 (wrap64 (x16 + 7))) * (rd x7 (wrap64 ((wrap64 (x13 + 8)) + x16))))))) (wrap64 (x16 + 1)) x1000 x1001 x1002) else (none)) else (none)) else (none)) else (none)) else ((madrigalref1_Sat16.f k (x15 / 32768)).bind fun t379 => (if x11.length < 17592186044416 then (madrigalref10_Sampler_Run.l2 k x1 x5 x6 x7 x9 (x11 ++ [t379]) (wrap64 (x12 + 1)) x1000 x1001 x1002) else (none)))
end
def madrigalref10_Sampler_Run.f (k : Nat) (s0_0 : Int) (s0_1 : Int) (s0_2 : List Int) (l1 : List Int) : Option (List Int × Int × Int × List Int):=(madrigalref10_Parts.f k s0_0 s0_1).bind fun bt354 => ((some (([] : List Int) : List Int)).bind fun y356 => (if y356.length + s0_2.length < 17592186044416 then (madrigalref10_Sampler_Run.l0 k l1 bt354.1 bt354.2 (y356 ++ s0_2) 0 s0_0 s0_1 s0_2) else (none)))
theorem madrigalref10_Sampler_Run.mono_l : ∀ k,(∀ y0 y1 y2 y3 y4 y5 y6 y7,LeO (madrigalref10_Sampler_Run.l0 k y0 y1 y2 y3 y4 y5 y6 y7) (madrigalref10_Sampler_Run.l0 (k + 1) y0 y1 y2 y3 y4 y5 y6 y7)) ∧ (∀ y0 y1 y2 y3 y4 y5 y6 y7 y8,LeO (madrigalref10_Sampler_Run.l1 k y0 y1 y2 y3 y4 y5 y6 y7 y8) (madrigalref10_Sampler_Run.l1 (k + 1) y0 y1 y2 y3 y4 y5 y6 y7 y8)) ∧ (∀ y0 y1 y2 y3 y4 y5 y6 y7 y8 y9,LeO (madrigalref10_Sampler_Run.l2 k y0 y1 y2 y3 y4 y5 y6 y7 y8 y9) (madrigalref10_Sampler_Run.l2 (k + 1) y0 y1 y2 y3 y4 y5 y6 y7 y8 y9)) ∧ (∀ y0 y1 y2 y3 y4 y5 y6 y7 y8 y9 y10 y11 y12 y13,LeO (madrigalref10_Sampler_Run.l3 k y0 y1 y2 y3 y4 y5 y6 y7 y8 y9 y10 y11 y12 y13) (madrigalref10_Sampler_Run.l3 (k + 1) y0 y1 y2 y3 y4 y5 y6 y7 y8 y9 y10 y11 y12 y13))
 | 0 => ⟨fun _ _ _ _ _ _ _ _ r h => by simp [madrigalref10_Sampler_Run.l0] at h,fun _ _ _ _ _ _ _ _ _ r h => by simp [madrigalref10_Sampler_Run.l1] at h,fun _ _ _ _ _ _ _ _ _ _ r h => by simp [madrigalref10_Sampler_Run.l2] at h,fun _ _ _ _ _ _ _ _ _ _ _ _ _ _ r h => by simp [madrigalref10_Sampler_Run.l3] at h⟩
 | k + 1 => by
  obtain ⟨ih0,ih1,ih2,ih3⟩:=madrigalref10_Sampler_Run.mono_l k
  refine ⟨?_,?_,?_,?_⟩
  all_goals (intros;first|unfold madrigalref10_Sampler_Run.l0|unfold madrigalref10_Sampler_Run.l1|unfold madrigalref10_Sampler_Run.l2|unfold madrigalref10_Sampler_Run.l3)
  all_goals (repeat' first|(with_reducible first|exact ih0 _ _ _ _ _ _ _ _|exact ih1 _ _ _ _ _ _ _ _ _|exact ih2 _ _ _ _ _ _ _ _ _ _|exact ih3 _ _ _ _ _ _ _ _ _ _ _ _ _ _|exact madrigalref10_Parts.mono _ _ _|exact madrigalref10_Phase.mono _ _ _ _|exact madrigalref1_Sat16.mono _ _|exact LeO.refl _|exact LeO.none _|refine LeO.ite ?_ ?_|refine LeO.bind ?_ (fun _ => ?_))|exact ih0 _ _ _ _ _ _ _ _|exact ih1 _ _ _ _ _ _ _ _ _|exact ih2 _ _ _ _ _ _ _ _ _ _|exact ih3 _ _ _ _ _ _ _ _ _ _ _ _ _ _|exact madrigalref10_Parts.mono _ _ _|exact madrigalref10_Phase.mono _ _ _ _|exact madrigalref1_Sat16.mono _ _|exact LeO.none _|refine LeO.ite ?_ ?_|refine LeO.bind ?_ (fun _ => ?_))
theorem madrigalref10_Sampler_Run.mono : ∀ a0 a1 a2 a3 k,LeO (madrigalref10_Sampler_Run.f k a0 a1 a2 a3) (madrigalref10_Sampler_Run.f (k + 1) a0 a1 a2 a3):=by
 intro a0 a1 a2 a3 k
 obtain ⟨ih0,ih1,ih2,ih3⟩:=madrigalref10_Sampler_Run.mono_l k
 unfold madrigalref10_Sampler_Run.f
 repeat' first|(with_reducible first|exact ih0 _ _ _ _ _ _ _ _|exact ih1 _ _ _ _ _ _ _ _ _|exact ih2 _ _ _ _ _ _ _ _ _ _|exact ih3 _ _ _ _ _ _ _ _ _ _ _ _ _ _|exact madrigalref10_Parts.mono _ _ _|exact madrigalref10_Phase.mono _ _ _ _|exact madrigalref1_Sat16.mono _ _|exact LeO.refl _|exact LeO.none _|refine LeO.ite ?_ ?_|refine LeO.bind ?_ (fun _ => ?_))|exact ih0 _ _ _ _ _ _ _ _|exact ih1 _ _ _ _ _ _ _ _ _|exact ih2 _ _ _ _ _ _ _ _ _ _|exact ih3 _ _ _ _ _ _ _ _ _ _ _ _ _ _|exact madrigalref10_Parts.mono _ _ _|exact madrigalref10_Phase.mono _ _ _ _|exact madrigalref1_Sat16.mono _ _|exact LeO.none _|refine LeO.ite ?_ ?_|refine LeO.bind ?_ (fun _ => ?_)
def madrigalref10_Sampler_Run.T1 : Bool × List (List Nat × List Nat):=(true,[([],[]),([0],[0]),([1],[1]),([2],[2]),([],[]),([4],[4]),([5],[5]),([6],[6]),([3,7],[3,7]),([8],[8]),([9],[9]),([9],[9]),([10,8,0,1,2,3,4,5,6,7,8,9,10],[10]),([11,12,0,1,2,3,4,5,6,7,8,9,10,11,12],[11])])
def madrigalref10_Sampler_Run.B1 : List Nat:=[0,1,3,7,0,16,48,112,255,511,1023,1023,2047,8191]
theorem madrigalref10_Sampler_Run.tab1 : rtab .any (opsOf Try.f24 1) = madrigalref10_Sampler_Run.T1:=by kernel_rfl
theorem madrigalref10_Sampler_Run.bits1 : waitsOk madrigalref10_Sampler_Run.T1.2 madrigalref10_Sampler_Run.B1 = true:=by kernel_rfl
def madrigalref10_Sampler_Run.T11 : Bool × List (List Nat × List Nat):=(true,[([],[]),([],[]),([1],[1]),([2],[2]),([3],[3]),([],[]),([5],[5]),([6],[6]),([7],[7]),([],[]),([4,8,9],[4,8,9]),([10],[10]),([0,11,10],[0,11]),([12,12,0,1,2,3,4,5,6,7,8,9,10,11,12],[0,12])])
def madrigalref10_Sampler_Run.B11 : List Nat:=[0,0,2,6,14,0,32,96,224,0,1022,2046,4095,8191]
theorem madrigalref10_Sampler_Run.tab11 : rtab .any (opsOf Try.f24 11) = madrigalref10_Sampler_Run.T11:=by kernel_rfl
theorem madrigalref10_Sampler_Run.bits11 : waitsOk madrigalref10_Sampler_Run.T11.2 madrigalref10_Sampler_Run.B11 = true:=by kernel_rfl
def madrigalref10_Sampler_Run.T22 : Bool × List (List Nat × List Nat):=(true,[([],[]),([],[]),([],[]),([2],[2]),([1,3],[1,3]),([4],[4]),([],[]),([],[]),([7],[7]),([],[]),([8,9],[8,9]),([6,10],[6,10]),([11],[11]),([5,12],[5,12]),([0,13],[0,13]),([14,0,1,2,3,4,5,6,7,8,9,10,11,12,13,14],[0,14])])
def madrigalref10_Sampler_Run.B22 : List Nat:=[0,0,0,4,14,30,0,0,128,0,896,1984,4032,8190,16383,32767]
theorem madrigalref10_Sampler_Run.tab22 : rtab .any (opsOf Try.f24 22) = madrigalref10_Sampler_Run.T22:=by kernel_rfl
theorem madrigalref10_Sampler_Run.bits22 : waitsOk madrigalref10_Sampler_Run.T22.2 madrigalref10_Sampler_Run.B22 = true:=by kernel_rfl
set_option maxHeartbeats 8000000 in
set_option maxRecDepth 100000 in
theorem madrigalref10_Sampler_Run.calls (k : Nat) (g : Nat) (s0_0 : Int) (s0_1 : Int) (s0_2 : List Int) (A1 : Option Addr) (c1 : Nat) (l1 : List Int) (r1 : List Int) (r2 : Int) (r3 : Int) (r4 : List Int) (w0 w : World) (hI : IsS58 w0 w g s0_0 s0_1 s0_2) (hB : Below w0.heap.size w0 w) (hr1 : Kd.C (Kd.int .i64) w A1 l1.length l1) (hc1 : l1.length ≤ c1) (hf1 : ∀ ad,A1 = some ad → 0 < l1.length → ad.block ≠ g) (h : madrigalref10_Sampler_Run.f k s0_0 s0_1 s0_2 l1 = some (r1,r2,r3,r4)) :
  Calls Try.prog 24 #[.pointer (some ⟨g,0,none⟩),.slice A1 l1.length c1] w fun e w' => ∃ v0_ : Value,e = .returned (v0_) ∧ Kd.R (Kd.int .i64) 2 w' w.heap.size (fun _ => True) v0_ r1 ∧ IsS58 w0 w' g r2 r3 r4 ∧ Below w0.heap.size w0 w' ∧ KeepBut w w' g none:=by
 obtain ⟨vv9,hI,hQ9⟩:=hI
 obtain ⟨A90,c90,ev9,hc9⟩:=Kd.Q_slice hQ9
 subst ev9
 have HR90:=ak_ (Kd.Q_reads' hQ9).2.2
 have HC90:=ak_ hc9
 have hf90 : ∀ ad,A90 = some ad → 0 < s0_2.length → ad.block ≠ g:=far_slice (Kd.Q_ne hQ9 hI.1 (by decide))
 have HQ90:=ak_ hQ9
 have HV0:=ak_ hI
 clear hQ9 hc9
 have HR1:=ak_ hr1
 have HC1:=ak_ hc1
 clear hr1 hc1
 have HI0:=ak_ hI
 have HK:=ak_ (KeepBut.refl w g none)
 have HL:=ak_ hB.size
 clear hI
 have HW0:=ak_ hB.size
 have HB:=ak_ hB
 clear hB
 have H : ((madrigalref10_Parts.f k s0_0 s0_1).bind fun bt354 => ((some (([] : List Int) : List Int)).bind fun y356 => (if y356.length + s0_2.length < 17592186044416 then (madrigalref10_Sampler_Run.l0 k l1 bt354.1 bt354.2 (y356 ++ s0_2) 0 s0_0 s0_1 s0_2) else (none)))) = some (r1,r2,r3,r4):=h
 clear h
 replace H:=Option.bind_eq_some_iff.mp H
 obtain ⟨⟨t354,t355⟩,A30,H⟩:=H
 (try dsimp only at H)
 have A3:=ak_ A30
 clear A30
 obtain ⟨y356,hy356⟩ : ∃ y_ : List Int,y_ = (([] : List Int)):=⟨_,rfl⟩
 replace H : (if y356.length + s0_2.length < 17592186044416 then (madrigalref10_Sampler_Run.l0 k l1 t354 t355 (y356 ++ s0_2) 0 s0_0 s0_1 s0_2) else (none)) = some (r1,r2,r3,r4):=by first|(rw [hy356];with_reducible exact H)|(have H2_:=(Option.bind_some _ _).symm.trans H;rw [hy356];with_reducible exact H2_)|(have H2_:=(Option.bind_some _ _).symm.trans H;with_reducible exact H2_)|with_reducible exact H|(rw [hy356];exact H)|exact H
 have Ny356:=ak_ hy356
 clear hy356
 by_cases c4 : y356.length + s0_2.length < 17592186044416
 ·rw [if_pos c4] at H
  have LMc4:=ak_ c4
  clear c4
  obtain ⟨y359,hy359⟩ : ∃ y_ : List Int,y_ = (y356 ++ s0_2):=⟨_,rfl⟩
  replace H : (madrigalref10_Sampler_Run.l0 k l1 t354 t355 y359 0 s0_0 s0_1 s0_2) = some (r1,r2,r3,r4):=by first|(rw [hy359];with_reducible exact H)|(have H2_:=(Option.bind_some _ _).symm.trans H;rw [hy359];with_reducible exact H2_)|(have H2_:=(Option.bind_some _ _).symm.trans H;with_reducible exact H2_)|with_reducible exact H|(rw [hy359];exact H)|exact H
  have Ny359:=ak_ hy359
  clear hy359
  have H':=ak_ H
  clear H
  go_enter Try.func24,Try.ntmps24
  try go_wp2
  have n0_:=ak_ (IsS58v.drew HI0.out)
  have n1_:=ak_ (keep_drew HK.out)
  have n2_:=ak_ (below_drew1 HB.out)
  clear HI0
  clear HK
  clear HB
  have HI0:=n0_
  have HK:=n1_
  have HB:=n2_
  clear n0_ n1_ n2_
  refine start_ (n:=14) (S:=fun w' => w'.cell? ⟨g,0,none⟩ = some (.int .i64 s0_0) ∧ w'.cell? ⟨g,1,none⟩ = some (.int .i64 s0_1) ∧ w'.cell? ⟨g,2,none⟩ = some (.slice A90 s0_2.length c90)) (ds:=[]) #[false,false,false,false,false,false,false,false,false,false,false,false,false,false] (by kernel_rfl) rfl rfl ⟨(blk_cell (ak_ HI0.out.1).out 0).trans rfl,(blk_cell (ak_ HI0.out.1).out 1).trans rfl,(blk_cell (ak_ HI0.out.1).out 2).trans rfl⟩ (fun hHeld => ?_);refine with_tabW madrigalref10_Sampler_Run.tab1 madrigalref10_Sampler_Run.bits1 (fun HT_ HW_ => ?_)
  generalize w.drew = w5 at HI0 HK HB hHeld ⊢
  refine pure_ (i:=0) (N:=some 18) (v:=?_) (a':=?_) #[true,false,false,false,false,false,false,false,false,false,false,false,false,false] rfl rfl (any_of HT_.out (by kernel_rfl)) (fun _ _ _ h => h) (Or.inl ⟨by rfl,?_⟩) ?_ ?_
  rotate_left
  ·intro w'
   go_simp
   with_reducible rfl
  rotate_left
  ·simp only [Act.put,List.setIfInBounds_toArray,List.set_cons_zero,List.set_cons_succ,i64_w,i32_w]
   rfl
  refine pure_ (i:=1) (N:=some 19) (v:=?_) (a':=?_) #[true,true,false,false,false,false,false,false,false,false,false,false,false,false] rfl rfl (any_of HT_.out (by kernel_rfl)) (fun _ _ _ h => h) (Or.inl ⟨by rfl,?_⟩) ?_ ?_
  rotate_left
  ·intro w'
   go_simp
   with_reducible rfl
  rotate_left
  ·simp only [Act.put,List.setIfInBounds_toArray,List.set_cons_zero,List.set_cons_succ,i64_w,i32_w]
   rfl
  refine pure_ (i:=2) (N:=some 20) (v:=?_) (a':=?_) #[true,true,true,false,false,false,false,false,false,false,false,false,false,false] rfl rfl (any_of HT_.out (by kernel_rfl)) (fun _ _ _ h => h) (Or.inl ⟨by rfl,?_⟩) ?_ ?_
  rotate_left
  ·intro w'
   go_simp
   with_reducible rfl
  rotate_left
  ·simp only [Act.put,List.setIfInBounds_toArray,List.set_cons_zero,List.set_cons_succ,i64_w,i32_w]
   rfl
  refine pure_ (i:=4) (N:=some 22) (v:=?_) (a':=?_) #[true,true,true,false,true,false,false,false,false,false,false,false,false,false] rfl rfl (any_of HT_.out (by kernel_rfl)) (fun _ _ _ h => h) (Or.inl ⟨by rfl,?_⟩) ?_ ?_
  rotate_left
  ·intro w'
   go_simp
   with_reducible rfl
  rotate_left
  ·simp only [Act.put,List.setIfInBounds_toArray,List.set_cons_zero,List.set_cons_succ,i64_w,i32_w]
   rfl
  refine pure_ (i:=5) (N:=some 23) (v:=?_) (a':=?_) #[true,true,true,false,true,true,false,false,false,false,false,false,false,false] rfl rfl (any_of HT_.out (by kernel_rfl)) (fun _ _ _ h => h) (Or.inl ⟨by rfl,?_⟩) ?_ ?_
  rotate_left
  ·intro w'
   go_simp
   with_reducible rfl
  rotate_left
  ·simp only [Act.put,List.setIfInBounds_toArray,List.set_cons_zero,List.set_cons_succ,i64_w,i32_w]
   rfl
  refine pure_ (i:=6) (N:=some 24) (v:=?_) (a':=?_) #[true,true,true,false,true,true,true,false,false,false,false,false,false,false] rfl rfl (any_of HT_.out (by kernel_rfl)) (fun _ _ _ h => h) (Or.inl ⟨by rfl,?_⟩) ?_ ?_
  rotate_left
  ·intro w'
   go_simp
   with_reducible rfl
  rotate_left
  ·simp only [Act.put,List.setIfInBounds_toArray,List.set_cons_zero,List.set_cons_succ,i64_w,i32_w]
   rfl
  refine take_ (i:=3) (N:=some 21) (v:=?_) (a':=?_) #[true,true,true,true,true,true,true,false,false,false,false,false,false,false] rfl rfl (take_ofW HT_.out HW_.out (by kernel_rfl)) (fun _ _ _ h => h) (Or.inl ⟨by rfl,?_⟩) hHeld ?_ ?_
  rotate_left
  ·rintro w' ⟨s0,s1,s2⟩
   go_simp
   with_reducible rfl
  rotate_left
  ·simp only [Act.put,List.setIfInBounds_toArray,List.set_cons_zero,List.set_cons_succ,i64_w,i32_w]
   rfl
  refine take_ (i:=7) (N:=some 25) (v:=?_) (a':=?_) #[true,true,true,true,true,true,true,true,false,false,false,false,false,false] rfl rfl (take_ofW HT_.out HW_.out (by kernel_rfl)) (fun _ _ _ h => h) (Or.inl ⟨by rfl,?_⟩) hHeld ?_ ?_
  rotate_left
  ·rintro w' ⟨s0,s1,s2⟩
   go_simp
   with_reducible rfl
  rotate_left
  ·simp only [Act.put,List.setIfInBounds_toArray,List.set_cons_zero,List.set_cons_succ,i64_w,i32_w]
   rfl
  refine one_ (i:=8) (N:=some 26) #[true,true,true,true,true,true,true,true,true,false,false,false,false,false] rfl rfl (one_of HT_.out (by kernel_rfl)) (by decide) (fun K hK => ?_)
  refine goes_ Try.func17 (by kernel_rfl) rfl #[.int .i64 s0_0,.int .i64 s0_1] (by rfl) rfl rfl (by (try simp only [List.map_toArray,List.map_cons,List.map_nil]);first|done|rfl|(simp only [List.length_drop,List.length_take];rfl)) ?_
  with_reducible refine (madrigalref10_Parts.calls k s0_0 s0_1 t354 t355 _ A3.out).mono ?_
  rintro e w' ⟨rfl,⟨nd,rfl⟩⟩
  refine ⟨_,rfl,?_⟩
  refine hK.out _ _ ⟨(blk_cell (ak_ HI0.out.1).out 0).trans rfl,(blk_cell (ak_ HI0.out.1).out 1).trans rfl,(blk_cell (ak_ HI0.out.1).out 2).trans rfl⟩ (fun hHeld => ?_)
  clear hK K
  refine norm_ (a':=?_) ?_ ?_
  rotate_left
  ·show Act.put _ (some 26) _ = _
   simp only [Act.put,List.setIfInBounds_toArray,List.set_cons_zero,List.set_cons_succ,i64_w,i32_w]
   rfl
  refine pure_ (i:=9) (N:=some 17) (v:=?_) (a':=?_) #[true,true,true,true,true,true,true,true,true,true,false,false,false,false] rfl rfl (any_of HT_.out (by kernel_rfl)) (fun _ _ _ h => h) (Or.inl ⟨by rfl,?_⟩) ?_ ?_
  rotate_left
  ·intro w'
   go_simp
   with_reducible rfl
  rotate_left
  ·simp only [Act.put,List.setIfInBounds_toArray,List.set_cons_zero,List.set_cons_succ,i64_w,i32_w]
   rfl
  refine pure_ (i:=10) (N:=some 27) (v:=?_) (a':=?_) #[true,true,true,true,true,true,true,true,true,true,true,false,false,false] rfl rfl (any_of HT_.out (by kernel_rfl)) (fun _ _ _ h => h) (Or.inl ⟨by rfl,?_⟩) ?_ ?_
  rotate_left
  ·intro w'
   go_simp
   with_reducible rfl
  rotate_left
  ·simp only [Act.put,List.setIfInBounds_toArray,List.set_cons_zero,List.set_cons_succ,i64_w,i32_w]
   rfl
  refine pure_ (i:=11) (N:=some 28) (v:=?_) (a':=?_) #[true,true,true,true,true,true,true,true,true,true,true,true,false,false] rfl rfl (any_of HT_.out (by kernel_rfl)) (fun _ _ _ h => h) (Or.inl ⟨by rfl,?_⟩) ?_ ?_
  rotate_left
  ·intro w'
   go_simp
   with_reducible rfl
  rotate_left
  ·simp only [Act.put,List.setIfInBounds_toArray,List.set_cons_zero,List.set_cons_succ,i64_w,i32_w]
   rfl
  refine pure_ (i:=12) (N:=some 5) (v:=?_) (a':=?_) #[true,true,true,true,true,true,true,true,true,true,true,true,true,false] rfl rfl (any_of HT_.out (by kernel_rfl)) (fun _ _ _ h => h) (Or.inl ⟨by rfl,?_⟩) ?_ ?_
  rotate_left
  ·intro w'
   go_simp
   with_reducible rfl
  rotate_left
  ·simp only [Act.put,List.setIfInBounds_toArray,List.set_cons_zero,List.set_cons_succ,i64_w,i32_w]
   rfl
  refine pure_ (i:=13) (N:=some 6) (v:=?_) (a':=?_) #[true,true,true,true,true,true,true,true,true,true,true,true,true,true] rfl rfl (any_of HT_.out (by kernel_rfl)) (fun _ _ _ h => h) (Or.inl ⟨by rfl,?_⟩) ?_ ?_
  rotate_left
  ·intro w'
   go_simp
   with_reducible rfl
  rotate_left
  ·simp only [Act.put,List.setIfInBounds_toArray,List.set_cons_zero,List.set_cons_succ,i64_w,i32_w]
   rfl
  refine done_ (done_of HT_.out (by kernel_rfl)) ?_
  try go_wp2_with (first|((with_reducible refine gate_dst (N:=29) rfl ?_);refine Kd.R_lit (Kd.int .i64) _ 2 ?hg (N:=29) ?hd (xs:=([] : List Int)) (inner:=[]) (ok:=fun _ => True) (okp:=fun _ => True) ?hr ?hp (fun _ hk => hk) trivial (Below.refl _ _) (Nat.le_refl _) (by simp) ?_;(case hd => rfl);(case hg => rfl);(case hr => first|(go_simp;done)|(go_simp;rfl));(case hp => exact (Reps.none _ _));intro v357 w6 ho7 hb hg_ hnew_;clear hg_ hnew_;(first|rw [← Ny356.out] at ho7|(simp only [Int.reduceToNat] at ho7;rw [← Ny356.out] at ho7));have n0_:=ak_ (Kd.R_lower ho7 (keep_size (w:=w) (g:=g) (row:=none) (by repeat (first|(with_reducible first|exact HK.out|apply KeepBut.set_|apply keep_drewN|apply keep_drew|apply keep_alloc)|exact HK.out))));have n1_:=ak_ (IsS58v.below (by repeat (first|(with_reducible first|exact HI0.out|apply IsS58v.alloc|apply IsS58v.drewN|apply IsS58v.drew)|exact HI0.out)) hb);have n2_:=ak_ (KeepBut.trans (by repeat (first|(with_reducible first|exact HK.out|apply KeepBut.set_|apply keep_drewN|apply keep_drew|apply keep_alloc)|exact HK.out)) (KeepBut.of_below hb g none) (.inl rfl));have n3_:=ak_ (below_step (by repeat (first|(with_reducible first|exact HB.out|apply ba_|apply bb_|apply bc_|refine below_set ?_ (IsS58v.ge HI0.out))|exact HB.out)) hb);clear HI0;clear HK;clear HB;have HO358:=n0_;have HI0:=n1_;have HK:=n2_;have HB:=n3_;clear n0_ n1_ n2_ n3_;clear hb ho7;obtain ⟨HGz8,hgz8⟩:=HI0.out;have hcz8_0:=cellS58_0 HGz8;have hcz8_1:=cellS58_1 HGz8;have hcz8_2:=cellS58_2 HGz8;have hfz8_0:=blk_frozen HGz8 0;have hfz8_1:=blk_frozen HGz8 1;have hfz8_2:=blk_frozen HGz8 2;clear HGz8 hgz8)|((with_reducible refine gate_builtin (b:=.append) (xs:=#[.tmp 29,.tmp 33]) rfl ?_);at_builtin;refine Kd.R_append_rows (Kd.int .i64) w.heap.size rfl (.tmp 29) (.tmp 33) 27 2 (.int .i64 0) 8 rfl Try.underlying27 info2 rfl (by decide) (by omega) v357 y356 s0_2 _ _ _ (fun _ => True) (fun _ => False) rfl rfl ?aO ?aR (fun _ _ h => h) (fun _ h => h.elim) ?aF (Below.refl _ _) ?aS ?aL ?_;(case aR => exact Kd.C_keep 0 HR90.out (by repeat (first|(with_reducible first|exact HK.out|apply KeepBut.set_|apply keep_drewN|apply keep_drew|apply keep_alloc)|exact HK.out)) hf90);(case aF => exact (fun _ _ => trivial));(case aO => exact (by (with_reducible repeat (first|apply ra_|apply rb_|apply rc_));exact HO358.out));(case aS => exact (keep_size (w:=w) (g:=g) (row:=none) (by repeat (first|(with_reducible first|exact HK.out|apply KeepBut.set_|apply keep_drewN|apply keep_drew|apply keep_alloc)|exact HK.out))));(case aL => have:=LMc4.out;omega);intro v360 w9 ho hb hg hat;rw [← Ny359.out] at ho;have n0_:=ak_ (IsS58v.grown (by repeat (first|(with_reducible first|exact HI0.out|apply IsS58v.alloc|apply IsS58v.drewN|apply IsS58v.drew)|exact HI0.out)) hg (IsS58v.own_ne HI0.out HO358.out (by decide)));have n1_:=ak_ (below_weaken (by repeat (first|(with_reducible first|exact HB.out|apply ba_|apply bb_|apply bc_|refine below_set ?_ (IsS58v.ge HI0.out))|exact HB.out)) HL.out hb);have n2_:=ak_ (KeepBut.trans (by repeat (first|(with_reducible first|exact HK.out|apply KeepBut.set_|apply keep_drewN|apply keep_drew|apply keep_alloc)|exact HK.out)) (KeepBut.of_grown hg g) (Kd.R_base2 HO358.out));have n3_:=ak_ (ho);clear HI0;clear HB;clear HK;clear HO358;have HI0:=n0_;have HB:=n1_;have HK:=n2_;have HO361:=n3_;clear n0_ n1_ n2_ n3_;clear ho hb hg hat))
  go_loopg [7,8] k (fun kq v7 v8 w' => ∃ (x7_1 : List Int) (x8_1 : Int),v8 = .int .i64 x8_1 ∧ Aside0 (madrigalref10_Sampler_Run.l0 kq l1 t354 t355 x7_1 x8_1 s0_0 s0_1 s0_2 = some (r1,r2,r3,r4)) ∧ Aside0 (kq ≤ k) ∧ Aside0 (Kd.R (Kd.int .i64) 2 w' w.heap.size (fun _ => True) v7 x7_1) ∧ Aside0 (IsS58v (.slice A90 s0_2.length c90) w0 w' g s0_0 s0_1 s0_2) ∧ Aside0 (KeepBut w w' g none) ∧ Aside0 (Below w0.heap.size w0 w'))
  case atStart => exact ⟨(y359),(0),(by first|rfl|(simp;done)|(simp [*];done)),H',⟨Nat.le_refl _⟩,⟨by (with_reducible repeat (first|apply ra_|apply rb_|apply rc_));exact HO361.out⟩,⟨by repeat (first|(with_reducible first|exact HI0.out|apply IsS58v.alloc|apply IsS58v.drewN|apply IsS58v.drew)|exact HI0.out)⟩,⟨by repeat (first|(with_reducible first|exact HK.out|apply KeepBut.set_|apply keep_drewN|apply keep_drew|apply keep_alloc)|exact HK.out)⟩,⟨by repeat (first|(with_reducible first|exact HB.out|apply ba_|apply bb_|apply bc_|refine below_set ?_ (IsS58v.ge HI0.out))|exact HB.out)⟩⟩
  case round => as_aux_lemma =>
   clear H'
   try clear c1
   try clear c2
   try clear p2
   try clear c4
   try clear c9
   try clear hf9
   try clear hcz8_0
   try clear hcz8_1
   try clear hcz8_2
   try clear hfz8_0
   try clear hfz8_1
   try clear hfz8_2
   obtain ⟨x7_1,x8_1,rfl,HA,HK1,HO_7,HI0,HK,HB⟩:=hrel
   (try simp only [i64_w,i32_w])
   cases gk with
   | zero => exact absurd HA.out (by simp [madrigalref10_Sampler_Run.l0])
   | succ k1 =>
    have H:=HA.out
    clear HA
    simp only [madrigalref10_Sampler_Run.l0] at H
    by_cases c10 : x8_1 < (l1.length : Int)
    ·rw [if_pos c10] at H
     have c10b0:=decide_eq_true c10
     clear c10
     by_cases c11 : 0 ≤ x8_1
     ·rw [if_pos c11] at H
      have c11b0:=decide_eq_true c11
      clear c11
      replace H:=Option.bind_eq_some_iff.mp H
      obtain ⟨t363,A120,H⟩:=H
      (try dsimp only at H)
      have A12:=ak_ A120
      clear A120
      by_cases c13 : x7_1.length < 17592186044416
      ·rw [if_pos c13] at H
       have LMc13:=ak_ c13
       clear c13
       obtain ⟨y364,hy364⟩ : ∃ y_ : List Int,y_ = (x7_1 ++ [t363]):=⟨_,rfl⟩
       replace H : (madrigalref10_Sampler_Run.l0 k1 l1 t354 t355 y364 (wrap64 (x8_1 + 1)) s0_0 s0_1 s0_2) = some (r1,r2,r3,r4):=by first|(rw [hy364];with_reducible exact H)|(have H2_:=(Option.bind_some _ _).symm.trans H;rw [hy364];with_reducible exact H2_)|(have H2_:=(Option.bind_some _ _).symm.trans H;with_reducible exact H2_)|with_reducible exact H|(rw [hy364];exact H)|exact H
       have Ny364:=ak_ hy364
       clear hy364
       have H':=ak_ H
       clear H
       have p362 : 0 ≤ (x8_1 : Int):=of_decide_eq_true (by first|(with_reducible assumption)|assumption)
       have q362 : x8_1 < (l1.length : Int):=of_decide_eq_true (by first|(with_reducible assumption)|assumption)
       obtain ⟨ad362,e362,hx362_0⟩:=Kd.at_int HR1.out x8_1 p362 q362
       cases e362
       replace hx362_0:=keep_cell HK.out hx362_0 (by first|(rw [add_block];exact hf1 _ rfl (by omega))|exact hf1 _ rfl (by omega)|exact hf1 ad362 rfl (by omega))
       replace p362:=eq_true p362
       replace q362:=eq_true q362
       go_wp2_with (first|((with_reducible refine gate_callee (f:=25) rfl ?_);refine goesL_ (some 46) rfl rfl Try.func25 (by kernel_rfl) rfl #[.int .i64 (rd l1 x8_1)] rfl (by (try simp only [List.map_toArray,List.map_cons,List.map_nil]);first|done|rfl|(simp only [List.length_drop,List.length_take];rfl)) ?_;(with_reducible refine (madrigalref1_Sat16.calls k1 (rd l1 x8_1) t363 _ A12.out).mono ?_);rintro e w' ⟨rfl,⟨nd,rfl⟩⟩;refine ⟨_,rfl,?_⟩)|((with_reducible refine gate_builtin (b:=.append) (xs:=#[.tmp 41,.tmp 47]) rfl ?_);at_builtin;refine Kd.R_append (Kd.int .i64) w.heap.size rfl (.tmp 41) (.tmp 47) 27 2 (.int .i64 0) 8 rfl Try.underlying27 info2 rfl (by decide) (by omega) u7 x7_1 t363 [.int .i64 t363] (fun _ => True) (fun _ => False) rfl rfl ?aP (fun _ hk => hk.elim) ?aF ?aO (Below.refl _ _) ?aS ?aL ?_;(case aP => exact rfl);(case aF => exact (fun _ _ => trivial));(case aO => exact (by (with_reducible repeat (first|apply ra_|apply rb_|apply rc_));exact HO_7.out));(case aS => exact (keep_size (w:=w) (g:=g) (row:=none) (by repeat (first|(with_reducible first|exact HK.out|apply KeepBut.set_|apply keep_drewN|apply keep_drew|apply keep_alloc)|exact HK.out))));(case aL => have:=LMc13.out;omega);intro v365 w14 ho hb hg hat;rw [← Ny364.out] at ho;have n0_:=ak_ (IsS58v.grown (by repeat (first|(with_reducible first|exact HI0.out|apply IsS58v.alloc|apply IsS58v.drewN|apply IsS58v.drew)|exact HI0.out)) hg (IsS58v.own_ne HI0.out HO_7.out (by decide)));have n1_:=ak_ (below_weaken (by repeat (first|(with_reducible first|exact HB.out|apply ba_|apply bb_|apply bc_|refine below_set ?_ (IsS58v.ge HI0.out))|exact HB.out)) HL.out hb);have n2_:=ak_ (KeepBut.trans (by repeat (first|(with_reducible first|exact HK.out|apply KeepBut.set_|apply keep_drewN|apply keep_drew|apply keep_alloc)|exact HK.out)) (KeepBut.of_grown hg g) (Kd.R_base2 HO_7.out));have n3_:=ak_ (ho);clear HI0;clear HB;clear HK;clear HO_7;have HI0:=n0_;have HB:=n1_;have HK:=n2_;have HO366:=n3_;clear n0_ n1_ n2_ n3_;clear ho hb hg hat))
       go_roundg k1
       case measure => have:=HK1.out;omega
       case rel => exact ⟨(y364),(wrap64 (x8_1 + 1)),(by first|rfl|(simp;done)|(simp [*];done)),H',⟨by have:=HK1.out;omega⟩,⟨by (with_reducible repeat (first|apply ra_|apply rb_|apply rc_));exact HO366.out⟩,⟨by repeat (first|(with_reducible first|exact HI0.out|apply IsS58v.alloc|apply IsS58v.drewN|apply IsS58v.drew)|exact HI0.out)⟩,⟨by repeat (first|(with_reducible first|exact HK.out|apply KeepBut.set_|apply keep_drewN|apply keep_drew|apply keep_alloc)|exact HK.out)⟩,⟨by repeat (first|(with_reducible first|exact HB.out|apply ba_|apply bb_|apply bc_|refine below_set ?_ (IsS58v.ge HI0.out))|exact HB.out)⟩⟩
      ·rw [if_neg c13] at H
       exact absurd H (by simp)
     ·rw [if_neg c11] at H
      exact absurd H (by simp)
    ·rw [if_neg c10] at H
     have c10b0:=decide_eq_false c10
     clear c10
     have H':=ak_ H
     clear H
     go_wp2
     go_loopg [9,10] k1 (fun kq v9 v10 w' => ∃ (x9_2 : List (List Int)) (x10_2 : Int),v10 = .int .i64 x10_2 ∧ Aside0 (madrigalref10_Sampler_Run.l1 kq l1 t354 t355 x7_1 x9_2 x10_2 s0_0 s0_1 s0_2 = some (r1,r2,r3,r4)) ∧ Aside0 (kq ≤ k1) ∧ Aside0 (Kd.R (Kd.int .i64) 2 w' w.heap.size (fun _ => True) u7 x7_1) ∧ Aside0 (Kd.S (Kd.slice 2 (Kd.int .i64)) 27 w' w.heap.size (fun k_ => some k_ ≠ (u7 : Value).ownBlock) v9 x9_2) ∧ Aside0 (IsS58v (.slice A90 s0_2.length c90) w0 w' g s0_0 s0_1 s0_2) ∧ Aside0 (KeepBut w w' g none) ∧ Aside0 (Below w0.heap.size w0 w'))
     case atStart => exact ⟨(([] : List (List Int))),(0),(by first|rfl|(simp;done)|(simp [*];done)),H',⟨Nat.le_refl _⟩,⟨by (with_reducible repeat (first|apply ra_|apply rb_|apply rc_));exact HO_7.out⟩,⟨by first|exact Kd.S_nil _ _ _ _ _|exact Kd.N_nil _ _ _ _ _|exact Kd.V_nil _ _ _ _ _|exact Kd.Q_nil _ _ _ _ _|exact Kd.R_nil _ _ _ _ _⟩,⟨by repeat (first|(with_reducible first|exact HI0.out|apply IsS58v.alloc|apply IsS58v.drewN|apply IsS58v.drew)|exact HI0.out)⟩,⟨by repeat (first|(with_reducible first|exact HK.out|apply KeepBut.set_|apply keep_drewN|apply keep_drew|apply keep_alloc)|exact HK.out)⟩,⟨by repeat (first|(with_reducible first|exact HB.out|apply ba_|apply bb_|apply bc_|refine below_set ?_ (IsS58v.ge HI0.out))|exact HB.out)⟩⟩
     case round => as_aux_lemma =>
      clear H'
      try clear c1
      try clear c2
      try clear p2
      try clear p3
      try clear q3
      try clear hx3
      try clear c4
      try clear p6
      try clear c9
      try clear hf9
      try clear c10
      try clear c10b0
      try clear c11
      try clear c11b0
      try clear c13
      try clear hcz8_0
      try clear hcz8_1
      try clear hcz8_2
      try clear hfz8_0
      try clear hfz8_1
      try clear hfz8_2
      try clear hx362_0
      try clear p2
      try clear p362
      try clear q362
      obtain ⟨x9_2,x10_2,rfl,HA,HK2,HO_7,HO_9,HI0,HK,HB⟩:=hrel
      (try simp only [i64_w,i32_w])
      cases gk with
      | zero => exact absurd HA.out (by simp [madrigalref10_Sampler_Run.l1])
      | succ k2 =>
       have H:=HA.out
       clear HA
       simp only [madrigalref10_Sampler_Run.l1] at H
       by_cases c15 : x10_2 < t354
       ·rw [if_pos c15] at H
        have c15b0:=decide_eq_true c15
        clear c15
        replace H:=Option.bind_eq_some_iff.mp H
        obtain ⟨t367,A160,H⟩:=H
        (try dsimp only at H)
        have A16:=ak_ A160
        clear A160
        by_cases c17 : x9_2.length < 5864062014805
        ·rw [if_pos c17] at H
         have LMc17:=ak_ c17
         clear c17
         obtain ⟨y370,hy370⟩ : ∃ y_ : List (List Int),y_ = (x9_2 ++ [t367]):=⟨_,rfl⟩
         replace H : (madrigalref10_Sampler_Run.l1 k2 l1 t354 t355 x7_1 y370 (wrap64 (x10_2 + 1)) s0_0 s0_1 s0_2) = some (r1,r2,r3,r4):=by first|(rw [hy370];with_reducible exact H)|(have H2_:=(Option.bind_some _ _).symm.trans H;rw [hy370];with_reducible exact H2_)|(have H2_:=(Option.bind_some _ _).symm.trans H;with_reducible exact H2_)|with_reducible exact H|(rw [hy370];exact H)|exact H
         have Ny370:=ak_ hy370
         clear hy370
         have H':=ak_ H
         clear H
         try go_wp2
         have n0_:=ak_ (Kd.R_drew HO_7.out)
         have n1_:=ak_ (Kd.S_drew HO_9.out)
         have n2_:=ak_ (IsS58v.drew HI0.out)
         have n3_:=ak_ (keep_drew HK.out)
         have n4_:=ak_ (below_drew1 HB.out)
         clear HO_7
         clear HO_9
         clear HI0
         clear HK
         clear HB
         have HO_7:=n0_
         have HO_9:=n1_
         have HI0:=n2_
         have HK:=n3_
         have HB:=n4_
         clear n0_ n1_ n2_ n3_ n4_
         refine start_ (n:=14) (S:=fun w' => w'.cell? ⟨g,0,none⟩ = some (.int .i64 s0_0) ∧ w'.cell? ⟨g,1,none⟩ = some (.int .i64 s0_1) ∧ w'.cell? ⟨g,2,none⟩ = some (.slice A90 s0_2.length c90)) (ds:=[]) #[false,false,false,false,false,false,false,false,false,false,false,false,false,false] (by kernel_rfl) rfl rfl ⟨(blk_cell (ak_ HI0.out.1).out 0).trans rfl,(blk_cell (ak_ HI0.out.1).out 1).trans rfl,(blk_cell (ak_ HI0.out.1).out 2).trans rfl⟩ (fun hHeld => ?_);refine with_tabW madrigalref10_Sampler_Run.tab11 madrigalref10_Sampler_Run.bits11 (fun HT_ HW_ => ?_)
         generalize wr.drew = w18 at HO_7 HO_9 HI0 HK HB hHeld ⊢
         refine pure_ (i:=0) (N:=some 54) (v:=?_) (a':=?_) #[true,false,false,false,false,false,false,false,false,false,false,false,false,false] rfl rfl (any_of HT_.out (by kernel_rfl)) (fun _ _ _ h => h) (Or.inl ⟨by rfl,?_⟩) ?_ ?_
         rotate_left
         ·intro w'
          go_simp
          with_reducible rfl
         rotate_left
         ·simp only [Act.put,List.setIfInBounds_toArray,List.set_cons_zero,List.set_cons_succ,i64_w,i32_w]
          rfl
         refine pure_ (i:=1) (N:=some 55) (v:=?_) (a':=?_) #[true,true,false,false,false,false,false,false,false,false,false,false,false,false] rfl rfl (any_of HT_.out (by kernel_rfl)) (fun _ _ _ h => h) (Or.inl ⟨by rfl,?_⟩) ?_ ?_
         rotate_left
         ·intro w'
          go_simp
          with_reducible rfl
         rotate_left
         ·simp only [Act.put,List.setIfInBounds_toArray,List.set_cons_zero,List.set_cons_succ,i64_w,i32_w]
          rfl
         refine pure_ (i:=2) (N:=some 56) (v:=?_) (a':=?_) #[true,true,true,false,false,false,false,false,false,false,false,false,false,false] rfl rfl (any_of HT_.out (by kernel_rfl)) (fun _ _ _ h => h) (Or.inl ⟨by rfl,?_⟩) ?_ ?_
         rotate_left
         ·intro w'
          go_simp
          with_reducible rfl
         rotate_left
         ·simp only [Act.put,List.setIfInBounds_toArray,List.set_cons_zero,List.set_cons_succ,i64_w,i32_w]
          rfl
         refine pure_ (i:=3) (N:=some 57) (v:=?_) (a':=?_) #[true,true,true,true,false,false,false,false,false,false,false,false,false,false] rfl rfl (any_of HT_.out (by kernel_rfl)) (fun _ _ _ h => h) (Or.inl ⟨by rfl,?_⟩) ?_ ?_
         rotate_left
         ·intro w'
          go_simp
          with_reducible rfl
         rotate_left
         ·simp only [Act.put,List.setIfInBounds_toArray,List.set_cons_zero,List.set_cons_succ,i64_w,i32_w]
          rfl
         refine pure_ (i:=5) (N:=some 59) (v:=?_) (a':=?_) #[true,true,true,true,false,true,false,false,false,false,false,false,false,false] rfl rfl (any_of HT_.out (by kernel_rfl)) (fun _ _ _ h => h) (Or.inl ⟨by rfl,?_⟩) ?_ ?_
         rotate_left
         ·intro w'
          go_simp
          with_reducible rfl
         rotate_left
         ·simp only [Act.put,List.setIfInBounds_toArray,List.set_cons_zero,List.set_cons_succ,i64_w,i32_w]
          rfl
         refine pure_ (i:=6) (N:=some 60) (v:=?_) (a':=?_) #[true,true,true,true,false,true,true,false,false,false,false,false,false,false] rfl rfl (any_of HT_.out (by kernel_rfl)) (fun _ _ _ h => h) (Or.inl ⟨by rfl,?_⟩) ?_ ?_
         rotate_left
         ·intro w'
          go_simp
          with_reducible rfl
         rotate_left
         ·simp only [Act.put,List.setIfInBounds_toArray,List.set_cons_zero,List.set_cons_succ,i64_w,i32_w]
          rfl
         refine pure_ (i:=7) (N:=some 61) (v:=?_) (a':=?_) #[true,true,true,true,false,true,true,true,false,false,false,false,false,false] rfl rfl (any_of HT_.out (by kernel_rfl)) (fun _ _ _ h => h) (Or.inl ⟨by rfl,?_⟩) ?_ ?_
         rotate_left
         ·intro w'
          go_simp
          with_reducible rfl
         rotate_left
         ·simp only [Act.put,List.setIfInBounds_toArray,List.set_cons_zero,List.set_cons_succ,i64_w,i32_w]
          rfl
         refine pure_ (i:=9) (N:=some 63) (v:=?_) (a':=?_) #[true,true,true,true,false,true,true,true,false,true,false,false,false,false] rfl rfl (any_of HT_.out (by kernel_rfl)) (fun _ _ _ h => h) (Or.inl ⟨by rfl,?_⟩) ?_ ?_
         rotate_left
         ·intro w'
          go_simp
          with_reducible rfl
         rotate_left
         ·simp only [Act.put,List.setIfInBounds_toArray,List.set_cons_zero,List.set_cons_succ,i64_w,i32_w]
          rfl
         refine take_ (i:=4) (N:=some 58) (v:=?_) (a':=?_) #[true,true,true,true,true,true,true,true,false,true,false,false,false,false] rfl rfl (take_ofW HT_.out HW_.out (by kernel_rfl)) (fun _ _ _ h => h) (Or.inl ⟨by rfl,?_⟩) hHeld ?_ ?_
         rotate_left
         ·rintro w' ⟨s0,s1,s2⟩
          go_simp
          with_reducible rfl
         rotate_left
         ·simp only [Act.put,List.setIfInBounds_toArray,List.set_cons_zero,List.set_cons_succ,i64_w,i32_w]
          rfl
         refine take_ (i:=8) (N:=some 62) (v:=?_) (a':=?_) #[true,true,true,true,true,true,true,true,true,true,false,false,false,false] rfl rfl (take_ofW HT_.out HW_.out (by kernel_rfl)) (fun _ _ _ h => h) (Or.inl ⟨by rfl,?_⟩) hHeld ?_ ?_
         rotate_left
         ·rintro w' ⟨s0,s1,s2⟩
          go_simp
          with_reducible rfl
         rotate_left
         ·simp only [Act.put,List.setIfInBounds_toArray,List.set_cons_zero,List.set_cons_succ,i64_w,i32_w]
          rfl
         refine one_ (i:=10) (N:=some 64) #[true,true,true,true,true,true,true,true,true,true,true,false,false,false] rfl rfl (one_of HT_.out (by kernel_rfl)) (by decide) (fun K hK => ?_)
         refine goes_ Try.func19 (by kernel_rfl) rfl #[.int .i64 s0_0,.int .i64 s0_1,.int .i64 x10_2] (by rfl) rfl rfl (by (try simp only [List.map_toArray,List.map_cons,List.map_nil]);first|done|rfl|(simp only [List.length_drop,List.length_take];rfl)) ?_
         with_reducible refine (madrigalref10_Phase.calls k2 s0_0 s0_1 x10_2 t367 _ A16.out).mono ?_
         rintro e w19 ⟨v368,rfl,ho0,hb⟩
         refine ⟨_,rfl,?_⟩
         have n0_:=ak_ (Kd.R_elder' (by (with_reducible repeat (first|apply ra_|apply rb_|apply rc_));exact HO_7.out) (Kd.R_base ho0) hb)
         have n1_:=ak_ (Kd.S_elder' (by (with_reducible repeat (first|apply Kd.S_alloc|apply Kd.S_drewN|apply Kd.S_drew));exact HO_9.out) (Kd.R_base ho0) hb)
         have n2_:=ak_ (Kd.R_lower (Kd.R_new' ho0 (Kd.R_lt (by (with_reducible repeat (first|apply ra_|apply rb_|apply rc_));exact HO_7.out))) (keep_size (w:=w) (g:=g) (row:=none) (by repeat (first|(with_reducible first|exact HK.out|apply KeepBut.set_|apply keep_drewN|apply keep_drew|apply keep_alloc)|exact HK.out))))
         have n3_:=ak_ (IsS58v.below (by repeat (first|(with_reducible first|exact HI0.out|apply IsS58v.alloc|apply IsS58v.drewN|apply IsS58v.drew)|exact HI0.out)) hb)
         have n4_:=ak_ (KeepBut.trans (by repeat (first|(with_reducible first|exact HK.out|apply KeepBut.set_|apply keep_drewN|apply keep_drew|apply keep_alloc)|exact HK.out)) (KeepBut.of_below hb g none) (.inl rfl))
         have n5_:=ak_ (below_step (by repeat (first|(with_reducible first|exact HB.out|apply ba_|apply bb_|apply bc_|refine below_set ?_ (IsS58v.ge HI0.out))|exact HB.out)) hb)
         clear HO_7
         clear HO_9
         clear HI0
         clear HK
         clear HB
         have HO_7:=n0_
         have HO_9:=n1_
         have HO369:=n2_
         have HI0:=n3_
         have HK:=n4_
         have HB:=n5_
         clear n0_ n1_ n2_ n3_ n4_ n5_
         (try clear hb)
         (try clear ho0)
         obtain ⟨Ao21,co21,eo21⟩:=Kd.R_slice HO369.out
         (first|subst eo21|(injection eo21 with f1_ f2_ f3_;have f4_:=f1_.symm;have f5_:=f3_.symm;clear f1_ f2_ f3_;subst f4_;subst f5_))
         refine hK.out _ _ ⟨(blk_cell (ak_ HI0.out.1).out 0).trans rfl,(blk_cell (ak_ HI0.out.1).out 1).trans rfl,(blk_cell (ak_ HI0.out.1).out 2).trans rfl⟩ (fun hHeld => ?_)
         clear hK K
         refine norm_ (a':=?_) ?_ ?_
         rotate_left
         ·show Act.put _ (some 64) _ = _
          simp only [Act.put,List.setIfInBounds_toArray,List.set_cons_zero,List.set_cons_succ,i64_w,i32_w]
          rfl
         refine one_ (i:=11) (N:=some 65) #[true,true,true,true,true,true,true,true,true,true,true,true,false,false] rfl rfl (one_of HT_.out (by kernel_rfl)) (by decide) (fun K hK => ?_)
         refine value_ (w1:=?_) (v:=?_) (by rfl) rfl ?_ ?_
         rotate_left 2
         ·go_simp
          constructor
          ·rfl
          ·rfl
         refine hK.out _ _ ⟨(blk_cell (blk_alloc (ak_ HI0.out.1).out _) 0).trans rfl,(blk_cell (blk_alloc (ak_ HI0.out.1).out _) 1).trans rfl,(blk_cell (blk_alloc (ak_ HI0.out.1).out _) 2).trans rfl⟩ (fun hHeld => ?_)
         clear hK K
         refine norm_ (a':=?_) ?_ ?_
         rotate_left
         ·show Act.put _ (some 65) _ = _
          simp only [Act.put,List.setIfInBounds_toArray,List.set_cons_zero,List.set_cons_succ,i64_w,i32_w]
          rfl
         refine one_ (i:=12) (N:=some 66) #[true,true,true,true,true,true,true,true,true,true,true,true,true,false] rfl rfl (one_of HT_.out (by kernel_rfl)) (by decide) (fun K hK => ?_)
         refine Kd.S_append_step (Kd.slice 2 (Kd.int .i64)) w.heap.size (by rfl) (.tmp 54) (.tmp 65) 38 27 (.slice none 0 0) 24 rfl Try.underlying38 info27 rfl (by decide) (by omega) u9 x9_2 t367 [.slice Ao21 t367.length co21] (fun k_ => some k_ ≠ (u7 : Value).ownBlock) (fun k_ => some k_ = (.slice Ao21 t367.length co21 : Value).ownBlock) rfl rfl ?aP (fun k_ hk_ => ((Kd.R_mono (ok':=fun k_ => ((fun k_ => some k_ ≠ (u7 : Value).ownBlock)) k_ ∧ some k_ ≠ (u9 : Value).ownBlock) (Kd.R_apart' (HO369.out) (Kd.S_typed HO_9.out) (by decide)) (fun k_ hk => ⟨hk.1.2,hk.2⟩))).1 k_ hk_.symm) ?aF ?aO (Below.refl _ _) ?aS ?aL ?_
         (case aP => exact Kd.M_row (Kd.R_mono (Kd.R_tight rfl (Kd.R_mono (ok':=fun k_ => ((fun k_ => some k_ ≠ (u7 : Value).ownBlock)) k_ ∧ some k_ ≠ (u9 : Value).ownBlock) (Kd.R_apart' (HO369.out) (Kd.S_typed HO_9.out) (by decide)) (fun k_ hk => ⟨hk.1.2,hk.2⟩))) (fun _ h_ => h_)))
         (case aF => exact (fun k_ hk => Kd.fresh' (Kd.R_lt (by (with_reducible repeat (first|apply ra_|apply rb_|apply rc_));exact HO_7.out)) k_ hk))
         (case aO => exact (by (with_reducible repeat (first|apply Kd.S_alloc|apply Kd.S_drewN|apply Kd.S_drew));exact Kd.S_mono HO_9.out (fun k_ hk => ⟨hk.1,fun e_ => hk.2 e_⟩)))
         (case aS => exact (keep_size (w:=w) (g:=g) (row:=none) (by repeat (first|(with_reducible first|exact HK.out|apply KeepBut.set_|apply keep_drewN|apply keep_drew|apply keep_alloc)|exact HK.out))))
         (case aL => have:=LMc17.out;omega)
         intro v371 w20 ho hb hg hat
         rw [← Ny370.out] at ho
         have n0_:=ak_ (Kd.R_over' (by (with_reducible repeat (first|apply ra_|apply rb_|apply rc_));exact HO_7.out) (Kd.S_typed (by (with_reducible repeat (first|apply Kd.S_alloc|apply Kd.S_drewN|apply Kd.S_drew));exact HO_9.out)) (by decide) hg)
         have n1_:=ak_ (IsS58v.grown (by repeat (first|(with_reducible first|exact HI0.out|apply IsS58v.alloc|apply IsS58v.drewN|apply IsS58v.drew)|exact HI0.out)) hg (IsS58v.own_neS HI0.out HO_9.out (by decide)))
         have n2_:=ak_ (below_weaken (by repeat (first|(with_reducible first|exact HB.out|apply ba_|apply bb_|apply bc_|refine below_set ?_ (IsS58v.ge HI0.out))|exact HB.out)) HL.out hb)
         have n3_:=ak_ (KeepBut.trans (by repeat (first|(with_reducible first|exact HK.out|apply KeepBut.set_|apply keep_drewN|apply keep_drew|apply keep_alloc)|exact HK.out)) (KeepBut.of_grown hg g) (Kd.S_base2 HO_9.out))
         have n4_:=ak_ (ho)
         clear HO_7
         clear HI0
         clear HB
         clear HK
         clear HO_9
         clear HO369
         have HO_7:=n0_
         have HI0:=n1_
         have HB:=n2_
         have HK:=n3_
         have HO372:=n4_
         clear n0_ n1_ n2_ n3_ n4_
         clear ho hb hg hat
         refine hK.out _ _ ⟨(blk_cell (ak_ HI0.out.1).out 0).trans rfl,(blk_cell (ak_ HI0.out.1).out 1).trans rfl,(blk_cell (ak_ HI0.out.1).out 2).trans rfl⟩ (fun hHeld => ?_)
         clear hK K
         refine norm_ (a':=?_) ?_ ?_
         rotate_left
         ·show Act.put _ (some 66) _ = _
          simp only [Act.put,List.setIfInBounds_toArray,List.set_cons_zero,List.set_cons_succ,i64_w,i32_w]
          rfl
         refine pure_ (i:=13) (N:=some 9) (v:=?_) (a':=?_) #[true,true,true,true,true,true,true,true,true,true,true,true,true,true] rfl rfl (any_of HT_.out (by kernel_rfl)) (fun _ _ _ h => h) (Or.inl ⟨by rfl,?_⟩) ?_ ?_
         rotate_left
         ·intro w'
          go_simp
          with_reducible rfl
         rotate_left
         ·simp only [Act.put,List.setIfInBounds_toArray,List.set_cons_zero,List.set_cons_succ,i64_w,i32_w]
          rfl
         refine done_ (done_of HT_.out (by kernel_rfl)) ?_
         try go_wp2
         go_roundg k2
         case measure => have:=HK1.out;have:=HK2.out;omega
         case rel => exact ⟨(y370),(wrap64 (x10_2 + 1)),(by first|rfl|(simp;done)|(simp [*];done)),H',⟨by have:=HK1.out;have:=HK2.out;omega⟩,⟨by (with_reducible repeat (first|apply ra_|apply rb_|apply rc_));exact Kd.R_mono HO_7.out (fun _ hk => trivial)⟩,⟨by (with_reducible repeat (first|apply Kd.S_alloc|apply Kd.S_drewN|apply Kd.S_drew));exact HO372.out⟩,⟨by repeat (first|(with_reducible first|exact HI0.out|apply IsS58v.alloc|apply IsS58v.drewN|apply IsS58v.drew)|exact HI0.out)⟩,⟨by repeat (first|(with_reducible first|exact HK.out|apply KeepBut.set_|apply keep_drewN|apply keep_drew|apply keep_alloc)|exact HK.out)⟩,⟨by repeat (first|(with_reducible first|exact HB.out|apply ba_|apply bb_|apply bc_|refine below_set ?_ (IsS58v.ge HI0.out))|exact HB.out)⟩⟩
        ·rw [if_neg c17] at H
         exact absurd H (by simp)
       ·rw [if_neg c15] at H
        have c15b0:=decide_eq_false c15
        clear c15
        have H':=ak_ H
        clear H
        go_wp2
        go_loopg [11,12] k2 (fun kq v11 v12 w' => ∃ (x11_3 : List Int) (x12_3 : Int),v12 = .int .i64 x12_3 ∧ Aside0 (madrigalref10_Sampler_Run.l2 kq l1 t354 t355 x7_1 x9_2 x11_3 x12_3 s0_0 s0_1 s0_2 = some (r1,r2,r3,r4)) ∧ Aside0 (kq ≤ k2) ∧ Aside0 (Kd.R (Kd.int .i64) 2 w' w.heap.size (fun k_ => some k_ ≠ (v11 : Value).ownBlock) u7 x7_1) ∧ Aside0 (Kd.S (Kd.slice 2 (Kd.int .i64)) 27 w' w.heap.size (fun k_ => some k_ ≠ (u7 : Value).ownBlock ∧ some k_ ≠ (v11 : Value).ownBlock) u9 x9_2) ∧ Aside0 (Kd.R (Kd.int .i64) 2 w' w.heap.size (fun k_ => some k_ ≠ (u7 : Value).ownBlock) v11 x11_3) ∧ Aside0 (IsS58v (.slice A90 s0_2.length c90) w0 w' g s0_0 s0_1 s0_2) ∧ Aside0 (KeepBut w w' g none) ∧ Aside0 (Below w0.heap.size w0 w'))
        case atStart => exact ⟨(([] : List Int)),(0),(by first|rfl|(simp;done)|(simp [*];done)),H',⟨Nat.le_refl _⟩,⟨by (with_reducible repeat (first|apply ra_|apply rb_|apply rc_));exact Kd.R_mono HO_7.out (fun _ hk => (by simp [Value.ownBlock]))⟩,⟨by (with_reducible repeat (first|apply Kd.S_alloc|apply Kd.S_drewN|apply Kd.S_drew));exact Kd.S_mono HO_9.out (fun _ hk => ⟨hk,(by simp [Value.ownBlock])⟩)⟩,⟨by first|exact Kd.R_nil _ _ _ _ _|exact Kd.N_nil _ _ _ _ _|exact Kd.V_nil _ _ _ _ _|exact Kd.Q_nil _ _ _ _ _|exact Kd.S_nil _ _ _ _ _⟩,⟨by repeat (first|(with_reducible first|exact HI0.out|apply IsS58v.alloc|apply IsS58v.drewN|apply IsS58v.drew)|exact HI0.out)⟩,⟨by repeat (first|(with_reducible first|exact HK.out|apply KeepBut.set_|apply keep_drewN|apply keep_drew|apply keep_alloc)|exact HK.out)⟩,⟨by repeat (first|(with_reducible first|exact HB.out|apply ba_|apply bb_|apply bc_|refine below_set ?_ (IsS58v.ge HI0.out))|exact HB.out)⟩⟩
        case round => as_aux_lemma =>
         clear H'
         try clear c1
         try clear c2
         try clear p2
         try clear p3
         try clear q3
         try clear hx3
         try clear c4
         try clear p6
         try clear c9
         try clear hf9
         try clear c10
         try clear c10b0
         try clear c11
         try clear c11b0
         try clear c13
         try clear c15
         try clear c15b0
         try clear c17
         try clear c19
         try clear hcz8_0
         try clear hcz8_1
         try clear hcz8_2
         try clear hfz8_0
         try clear hfz8_1
         try clear hfz8_2
         try clear hx362_0
         try clear p2
         try clear p3
         try clear p362
         try clear p6
         try clear q3
         try clear q362
         obtain ⟨x11_3,x12_3,rfl,HA,HK3,HO_7,HO_9,HO_11,HI0,HK,HB⟩:=hrel
         (try simp only [i64_w,i32_w])
         cases gk with
         | zero => exact absurd HA.out (by simp [madrigalref10_Sampler_Run.l2])
         | succ k3 =>
          have H:=HA.out
          clear HA
          simp only [madrigalref10_Sampler_Run.l2] at H
          by_cases c22 : t355 = 0
          ·rw [if_pos c22] at H
           exact absurd H (by simp)
          ·rw [if_neg c22] at H
           have c22b0 : (t355 == 0) = false:=beq_eq_false_iff_ne.mpr c22
           have c22b1 : (t355 != 0) = true:=bne_iff_ne.mpr c22
           by_cases c23 : x12_3 < (wrap64 ((wrap64 ((l1.length : Int) / t355)) * t354))
           ·rw [if_pos c23] at H
            have c23b0:=decide_eq_true c23
            clear c23
            by_cases c24 : t354 = 0
            ·rw [if_pos c24] at H
             exact absurd H (by simp)
            ·rw [if_neg c24] at H
             have c24b0 : (t354 == 0) = false:=beq_eq_false_iff_ne.mpr c24
             have c24b1 : (t354 != 0) = true:=bne_iff_ne.mpr c24
             obtain ⟨ji25,hji25⟩ : ∃ j_ : Int,(Int.tmod (wrap64 (x12_3 * t355)) t354) = j_:=⟨_,rfl⟩
             replace H : (if 0 ≤ (ji25) then (if (ji25) < (x9_2.length : Int) then (madrigalref10_Sampler_Run.l3 k3 l1 t354 t355 x7_1 x9_2 x11_3 x12_3 (wrap64 (Int.tdiv (wrap64 (x12_3 * t355)) t354)) (rd_L1 x9_2 (ji25)) 16384 (-7) s0_0 s0_1 s0_2) else (none)) else (none)) = some (r1,r2,r3,r4):=by first|(rw [hji25] at H;exact H)|(simp only [hji25] at H ⊢;exact H)
             by_cases c26 : 0 ≤ (ji25)
             ·rw [if_pos c26] at H
              have c26b0:=decide_eq_true c26
              clear c26
              by_cases c27 : (ji25) < (x9_2.length : Int)
              ·rw [if_pos c27] at H
               have c27b0:=decide_eq_true c27
               clear c27
               have H':=ak_ H
               clear H
               obtain ⟨Ao28,co28,eo28⟩:=Kd.S_slice HO_9.out
               subst eo28
               have p376 : 0 ≤ ((ji25) : Int):=of_decide_eq_true (by first|(with_reducible assumption)|assumption)
               have q376 : (ji25) < (x9_2.length : Int):=of_decide_eq_true (by first|(with_reducible assumption)|assumption)
               obtain ⟨ad376,A376_0,c376_0,e376,hx376_0,hl376_0,hi376_0⟩:=at_L1 (Kd.S_reads' HO_9.out).2.2 (ji25) p376 q376
               cases e376
               obtain ⟨ce376,hce376,hMe376,hcc376⟩:=Kd.S_get HO_9.out [] (ji25) p376 (by first|exact q376|exact of_decide_eq_true (by first|(with_reducible assumption)|assumption)|(have e_:=(Kd.S_reads' HO_9.out).1;omega))
               obtain ⟨ve376_0,rfl,ge376_0⟩:=hMe376
               have hv376_0:=hcc376 0 _ rfl
               rw [Nat.add_zero,show ((Kd.slice 2 (Kd.int .i64))).sz = 1 from rfl,Nat.mul_one] at hv376_0
               replace hv376_0:=Option.some.inj (hv376_0.symm.trans hx376_0)
               rw [hv376_0] at ge376_0
               have HL376_0:=ak_ (show Kd.R (Kd.int .i64) 2 _ _ _ _ (rd_L1 x9_2 (ji25)) from ge376_0)
               clear hv376_0 ge376_0
               clear hcc376 hce376
               have HR376_0:=ak_ hi376_0
               have HC376_0:=ak_ hl376_0
               clear hi376_0 hl376_0
               replace p376:=eq_true p376
               replace q376:=eq_true q376
               go_wp2
               go_loopg [15,16] k3 (fun kq v15 v16 w' => ∃ (x15_4 : Int) (x16_4 : Int),v15 = .int .i64 x15_4 ∧ v16 = .int .i64 x16_4 ∧ Aside0 (madrigalref10_Sampler_Run.l3 kq l1 t354 t355 x7_1 x9_2 x11_3 x12_3 (wrap64 (Int.tdiv (wrap64 (x12_3 * t355)) t354)) (rd_L1 x9_2 (ji25)) x15_4 x16_4 s0_0 s0_1 s0_2 = some (r1,r2,r3,r4)) ∧ Aside0 (kq ≤ k3) ∧ Aside0 (Kd.R (Kd.int .i64) 2 w' w.heap.size (fun k_ => some k_ ≠ (u11 : Value).ownBlock) u7 x7_1) ∧ Aside0 (Kd.S (Kd.slice 2 (Kd.int .i64)) 27 w' w.heap.size (fun k_ => some k_ ≠ (u7 : Value).ownBlock ∧ some k_ ≠ (u11 : Value).ownBlock) (.slice (some ad376) x9_2.length co28) x9_2) ∧ Aside0 (Kd.R (Kd.int .i64) 2 w' w.heap.size (fun k_ => some k_ ≠ (u7 : Value).ownBlock) u11 x11_3) ∧ Aside0 (Kd.C (Kd.int .i64) w' A376_0 (rd_L1 x9_2 (ji25)).length (rd_L1 x9_2 (ji25))) ∧ Aside0 (IsS58v (.slice A90 s0_2.length c90) w0 w' g s0_0 s0_1 s0_2) ∧ Aside0 (KeepBut w w' g none) ∧ Aside0 (Below w0.heap.size w0 w'))
               case atStart => exact ⟨(16384),((-7)),(by first|rfl|(simp;done)|(simp [*];done)),(by first|rfl|(simp;done)|(simp [*];done)),H',⟨Nat.le_refl _⟩,⟨by (with_reducible repeat (first|apply ra_|apply rb_|apply rc_));exact HO_7.out⟩,⟨by (with_reducible repeat (first|apply Kd.S_alloc|apply Kd.S_drewN|apply Kd.S_drew));exact HO_9.out⟩,⟨by (with_reducible repeat (first|apply ra_|apply rb_|apply rc_));exact HO_11.out⟩,⟨by repeat (first|(with_reducible exact HR376_0.out)|(with_reducible refine Kd.C_alloc ?_ _)|(with_reducible refine Kd.C_drewN ?_ _)|(with_reducible refine Kd.C_drew ?_)|exact HR376_0.out)⟩,⟨by repeat (first|(with_reducible first|exact HI0.out|apply IsS58v.alloc|apply IsS58v.drewN|apply IsS58v.drew)|exact HI0.out)⟩,⟨by repeat (first|(with_reducible first|exact HK.out|apply KeepBut.set_|apply keep_drewN|apply keep_drew|apply keep_alloc)|exact HK.out)⟩,⟨by repeat (first|(with_reducible first|exact HB.out|apply ba_|apply bb_|apply bc_|refine below_set ?_ (IsS58v.ge HI0.out))|exact HB.out)⟩⟩
               case round => as_aux_lemma =>
                clear H'
                try clear c1
                try clear c2
                try clear p2
                try clear c3
                try clear p3
                try clear q3
                try clear hx3
                try clear c4
                try clear p6
                try clear c9
                try clear hf9
                try clear c10
                try clear c10b0
                try clear c11
                try clear c11b0
                try clear c13
                try clear c15
                try clear c15b0
                try clear c17
                try clear c19
                try clear c22
                try clear c22b0
                try clear c22b1
                try clear c23
                try clear c23b0
                try clear c24
                try clear c24b0
                try clear c24b1
                try clear c25
                try clear c26
                try clear c26b0
                try clear c27
                try clear c27b0
                try clear hcz8_0
                try clear hcz8_1
                try clear hcz8_2
                try clear hfz8_0
                try clear hfz8_1
                try clear hfz8_2
                try clear hx362_0
                try clear hx376_0
                try clear p2
                try clear p3
                try clear p362
                try clear p376
                try clear p6
                try clear q3
                try clear q362
                try clear q376
                obtain ⟨x15_4,x16_4,rfl,rfl,HA,HK4,HO_7,HO_9,HO_11,HR376_0,HI0,HK,HB⟩:=hrel
                (try simp only [i64_w,i32_w])
                cases gk with
                | zero => exact absurd HA.out (by simp [madrigalref10_Sampler_Run.l3])
                | succ k4 =>
                 have H:=HA.out
                 clear HA
                 simp only [madrigalref10_Sampler_Run.l3] at H
                 by_cases c29 : x16_4 ≤ 8
                 ·rw [if_pos c29] at H
                  have c29b0:=decide_eq_true c29
                  clear c29
                  obtain ⟨ji30,hji30⟩ : ∃ j_ : Int,(wrap64 (x16_4 + 7)) = j_:=⟨_,rfl⟩
                  replace H : (if 0 ≤ (ji30) then (if (ji30) < ((rd_L1 x9_2 (ji25)).length : Int) then (if 0 ≤ (wrap64 ((wrap64 ((wrap64 (Int.tdiv (wrap64 (x12_3 * t355)) t354)) + 8)) + x16_4)) then (if (wrap64 ((wrap64 ((wrap64 (Int.tdiv (wrap64 (x12_3 * t355)) t354)) + 8)) + x16_4)) < (x7_1.length : Int) then (madrigalref10_Sampler_Run.l3 k4 l1 t354 t355 x7_1 x9_2 x11_3 x12_3 (wrap64 (Int.tdiv (wrap64 (x12_3 * t355)) t354)) (rd_L1 x9_2 (ji25)) (wrap64 (x15_4 + (wrap64 ((rd (rd_L1 x9_2 (ji25)) (ji30)) * (rd x7_1 (wrap64 ((wrap64 ((wrap64 (Int.tdiv (wrap64 (x12_3 * t355)) t354)) + 8)) + x16_4))))))) (wrap64 (x16_4 + 1)) s0_0 s0_1 s0_2) else (none)) else (none)) else (none)) else (none)) = some (r1,r2,r3,r4):=by first|(rw [hji30] at H;exact H)|(simp only [hji30] at H ⊢;exact H)
                  have hji30w : (IntKind.i64.wrap (x16_4 + 7)) = ji30:=(i64_w _).trans hji30
                  by_cases c31 : 0 ≤ (ji30)
                  ·rw [if_pos c31] at H
                   have c31b0:=decide_eq_true c31
                   clear c31
                   by_cases c32 : (ji30) < ((rd_L1 x9_2 (ji25)).length : Int)
                   ·rw [if_pos c32] at H
                    have c32b0:=decide_eq_true c32
                    clear c32
                    obtain ⟨ji33,hji33⟩ : ∃ j_ : Int,(wrap64 ((wrap64 ((wrap64 (Int.tdiv (wrap64 (x12_3 * t355)) t354)) + 8)) + x16_4)) = j_:=⟨_,rfl⟩
                    replace H : (if 0 ≤ (ji33) then (if (ji33) < (x7_1.length : Int) then (madrigalref10_Sampler_Run.l3 k4 l1 t354 t355 x7_1 x9_2 x11_3 x12_3 (wrap64 (Int.tdiv (wrap64 (x12_3 * t355)) t354)) (rd_L1 x9_2 (ji25)) (wrap64 (x15_4 + (wrap64 ((rd (rd_L1 x9_2 (ji25)) (ji30)) * (rd x7_1 (ji33)))))) (wrap64 (x16_4 + 1)) s0_0 s0_1 s0_2) else (none)) else (none)) = some (r1,r2,r3,r4):=by first|(rw [hji33] at H;exact H)|(simp only [hji33] at H ⊢;exact H)
                    have hji33w : (IntKind.i64.wrap ((wrap64 ((wrap64 (Int.tdiv (wrap64 (x12_3 * t355)) t354)) + 8)) + x16_4)) = ji33:=(i64_w _).trans hji33
                    by_cases c34 : 0 ≤ (ji33)
                    ·rw [if_pos c34] at H
                     have c34b0:=decide_eq_true c34
                     clear c34
                     by_cases c35 : (ji33) < (x7_1.length : Int)
                     ·rw [if_pos c35] at H
                      have c35b0:=decide_eq_true c35
                      clear c35
                      have H':=ak_ H
                      clear H
                      try go_wp2
                      have n0_:=ak_ (Kd.R_drew HO_7.out)
                      have n1_:=ak_ (Kd.S_drew HO_9.out)
                      have n2_:=ak_ (Kd.R_drew HO_11.out)
                      have n3_:=ak_ (Kd.C_drew HR376_0.out)
                      have n4_:=ak_ (IsS58v.drew HI0.out)
                      have n5_:=ak_ (keep_drew HK.out)
                      have n6_:=ak_ (below_drew1 HB.out)
                      clear HO_7
                      clear HO_9
                      clear HO_11
                      clear HR376_0
                      clear HI0
                      clear HK
                      clear HB
                      have HO_7:=n0_
                      have HO_9:=n1_
                      have HO_11:=n2_
                      have HR376_0:=n3_
                      have HI0:=n4_
                      have HK:=n5_
                      have HB:=n6_
                      clear n0_ n1_ n2_ n3_ n4_ n5_ n6_
                      have p377 : 0 ≤ ((ji30) : Int):=of_decide_eq_true (by first|(with_reducible assumption)|assumption)
                      have q377 : (ji30) < ((rd_L1 x9_2 (ji25)).length : Int):=of_decide_eq_true (by first|(with_reducible assumption)|assumption)
                      obtain ⟨ad377,e377,hx377_0⟩:=Kd.at_int (by repeat (first|(with_reducible exact HR376_0.out)|(with_reducible refine Kd.C_alloc ?_ _)|(with_reducible refine Kd.C_drewN ?_ _)|(with_reducible refine Kd.C_drew ?_)|exact HR376_0.out)) (ji30) p377 q377
                      cases e377
                      replace p377:=eq_true p377
                      replace q377:=eq_true q377
                      obtain ⟨Ao37,co37,eo37⟩:=Kd.R_slice HO_7.out
                      (first|subst eo37|(injection eo37 with f1_ f2_ f3_;have f4_:=f1_.symm;have f5_:=f3_.symm;clear f1_ f2_ f3_;subst f4_;subst f5_))
                      have p378 : 0 ≤ ((ji33) : Int):=of_decide_eq_true (by first|(with_reducible assumption)|assumption)
                      have q378 : (ji33) < (x7_1.length : Int):=of_decide_eq_true (by first|(with_reducible assumption)|assumption)
                      obtain ⟨ad378,e378,hx378_0⟩:=Kd.at_int (Kd.R_reads' HO_7.out).2.2 (ji33) p378 q378
                      cases e378
                      replace p378:=eq_true p378
                      replace q378:=eq_true q378
                      refine start_ (n:=16) (S:=fun w' => w'.cell? (ad377.add ((ji30)).toNat) = some (.int .i64 (rd (rd_L1 x9_2 (ji25)) (ji30))) ∧ w'.cell? (ad378.add ((ji33)).toNat) = some (.int .i64 (rd x7_1 (ji33)))) (ds:=[]) #[false,false,false,false,false,false,false,false,false,false,false,false,false,false,false,false] (by kernel_rfl) rfl rfl ⟨hx377_0,hx378_0⟩ (fun hHeld => ?_);refine with_tabW madrigalref10_Sampler_Run.tab22 madrigalref10_Sampler_Run.bits22 (fun HT_ HW_ => ?_)
                      generalize wr.drew = w36 at HO_7 HO_9 HO_11 HR376_0 HI0 HK HB hx377_0 hx378_0 hHeld ⊢
                      refine pure_ (i:=0) (N:=some 94) (v:=?_) (a':=?_) #[true,false,false,false,false,false,false,false,false,false,false,false,false,false,false,false] rfl rfl (any_of HT_.out (by kernel_rfl)) (fun _ _ _ h => h) (Or.inl ⟨by rfl,?_⟩) ?_ ?_
                      rotate_left
                      ·intro w'
                       go_simp
                       with_reducible rfl
                      rotate_left
                      ·simp only [Act.put,List.setIfInBounds_toArray,List.set_cons_zero,List.set_cons_succ,i64_w,i32_w]
                       rfl
                      refine pure_ (i:=1) (N:=some 95) (v:=?_) (a':=?_) #[true,true,false,false,false,false,false,false,false,false,false,false,false,false,false,false] rfl rfl (any_of HT_.out (by kernel_rfl)) (fun _ _ _ h => h) (Or.inl ⟨by rfl,?_⟩) ?_ ?_
                      rotate_left
                      ·intro w'
                       go_simp
                       with_reducible rfl
                      rotate_left
                      ·simp only [Act.put,List.setIfInBounds_toArray,List.set_cons_zero,List.set_cons_succ,i64_w,i32_w]
                       rfl
                      refine pure_ (i:=2) (N:=some 96) (v:=?_) (a':=?_) #[true,true,true,false,false,false,false,false,false,false,false,false,false,false,false,false] rfl rfl (any_of HT_.out (by kernel_rfl)) (fun _ _ _ h => h) (Or.inl ⟨by rfl,?_⟩) ?_ ?_
                      rotate_left
                      ·intro w'
                       go_simp
                       with_reducible rfl
                      rotate_left
                      ·simp only [Act.put,List.setIfInBounds_toArray,List.set_cons_zero,List.set_cons_succ,i64_w,i32_w]
                       rfl
                      refine pure_ (i:=3) (N:=some 97) (v:=?_) (a':=?_) #[true,true,true,true,false,false,false,false,false,false,false,false,false,false,false,false] rfl rfl (any_of HT_.out (by kernel_rfl)) (fun _ _ _ h => h) (Or.inl ⟨by rfl,?_⟩) ?_ ?_
                      rotate_left
                      ·intro w'
                       go_simp
                       with_reducible rfl
                      rotate_left
                      ·simp only [Act.put,List.setIfInBounds_toArray,List.set_cons_zero,List.set_cons_succ,i64_w,i32_w]
                       rfl
                      refine pure_ (i:=4) (N:=some 98) (v:=?_) (a':=?_) #[true,true,true,true,true,false,false,false,false,false,false,false,false,false,false,false] rfl rfl (any_of HT_.out (by kernel_rfl)) (fun _ _ _ h => h) (Or.inl ⟨by rfl,?_⟩) ?_ ?_
                      rotate_left
                      ·intro w'
                       go_simp
                       with_reducible rfl
                      rotate_left
                      ·simp only [Act.put,List.setIfInBounds_toArray,List.set_cons_zero,List.set_cons_succ,i64_w,i32_w]
                       rfl
                      refine pure_ (i:=6) (N:=some 100) (v:=?_) (a':=?_) #[true,true,true,true,true,false,true,false,false,false,false,false,false,false,false,false] rfl rfl (any_of HT_.out (by kernel_rfl)) (fun _ _ _ h => h) (Or.inl ⟨by rfl,?_⟩) ?_ ?_
                      rotate_left
                      ·intro w'
                       go_simp
                       with_reducible rfl
                      rotate_left
                      ·simp only [Act.put,List.setIfInBounds_toArray,List.set_cons_zero,List.set_cons_succ,i64_w,i32_w]
                       rfl
                      refine pure_ (i:=7) (N:=some 101) (v:=?_) (a':=?_) #[true,true,true,true,true,false,true,true,false,false,false,false,false,false,false,false] rfl rfl (any_of HT_.out (by kernel_rfl)) (fun _ _ _ h => h) (Or.inl ⟨by rfl,?_⟩) ?_ ?_
                      rotate_left
                      ·intro w'
                       go_simp
                       with_reducible rfl
                      rotate_left
                      ·simp only [Act.put,List.setIfInBounds_toArray,List.set_cons_zero,List.set_cons_succ,i64_w,i32_w]
                       rfl
                      refine pure_ (i:=8) (N:=some 102) (v:=?_) (a':=?_) #[true,true,true,true,true,false,true,true,true,false,false,false,false,false,false,false] rfl rfl (any_of HT_.out (by kernel_rfl)) (fun _ _ _ h => h) (Or.inl ⟨by rfl,?_⟩) ?_ ?_
                      rotate_left
                      ·intro w'
                       go_simp
                       with_reducible rfl
                      rotate_left
                      ·simp only [Act.put,List.setIfInBounds_toArray,List.set_cons_zero,List.set_cons_succ,i64_w,i32_w]
                       rfl
                      refine pure_ (i:=9) (N:=some 103) (v:=?_) (a':=?_) #[true,true,true,true,true,false,true,true,true,true,false,false,false,false,false,false] rfl rfl (any_of HT_.out (by kernel_rfl)) (fun _ _ _ h => h) (Or.inl ⟨by rfl,?_⟩) ?_ ?_
                      rotate_left
                      ·intro w'
                       go_simp
                       with_reducible rfl
                      rotate_left
                      ·simp only [Act.put,List.setIfInBounds_toArray,List.set_cons_zero,List.set_cons_succ,i64_w,i32_w]
                       rfl
                      refine pure_ (i:=10) (N:=some 104) (v:=?_) (a':=?_) #[true,true,true,true,true,false,true,true,true,true,true,false,false,false,false,false] rfl rfl (any_of HT_.out (by kernel_rfl)) (fun _ _ _ h => h) (Or.inl ⟨by rfl,?_⟩) ?_ ?_
                      rotate_left
                      ·intro w'
                       go_simp
                       with_reducible rfl
                      rotate_left
                      ·simp only [Act.put,List.setIfInBounds_toArray,List.set_cons_zero,List.set_cons_succ,i64_w,i32_w]
                       rfl
                      refine pure_ (i:=11) (N:=some 105) (v:=?_) (a':=?_) #[true,true,true,true,true,false,true,true,true,true,true,true,false,false,false,false] rfl rfl (any_of HT_.out (by kernel_rfl)) (fun _ _ _ h => h) (Or.inl ⟨by rfl,?_⟩) ?_ ?_
                      rotate_left
                      ·intro w'
                       go_simp
                       with_reducible rfl
                      rotate_left
                      ·simp only [Act.put,List.setIfInBounds_toArray,List.set_cons_zero,List.set_cons_succ,i64_w,i32_w]
                       rfl
                      refine take_ (i:=5) (N:=some 99) (v:=?_) (a':=?_) #[true,true,true,true,true,true,true,true,true,true,true,true,false,false,false,false] rfl rfl (take_ofW HT_.out HW_.out (by kernel_rfl)) (fun _ _ _ h => h) (Or.inl ⟨by rfl,?_⟩) hHeld ?_ ?_
                      rotate_left
                      ·rintro w' ⟨s0,s1⟩
                       go_simp
                       with_reducible rfl
                      rotate_left
                      ·simp only [Act.put,List.setIfInBounds_toArray,List.set_cons_zero,List.set_cons_succ,i64_w,i32_w]
                       rfl
                      refine take_ (i:=12) (N:=some 106) (v:=?_) (a':=?_) #[true,true,true,true,true,true,true,true,true,true,true,true,true,false,false,false] rfl rfl (take_ofW HT_.out HW_.out (by kernel_rfl)) (fun _ _ _ h => h) (Or.inl ⟨by rfl,?_⟩) hHeld ?_ ?_
                      rotate_left
                      ·rintro w' ⟨s0,s1⟩
                       go_simp
                       with_reducible rfl
                      rotate_left
                      ·simp only [Act.put,List.setIfInBounds_toArray,List.set_cons_zero,List.set_cons_succ,i64_w,i32_w]
                       rfl
                      refine pure_ (i:=13) (N:=some 107) (v:=?_) (a':=?_) #[true,true,true,true,true,true,true,true,true,true,true,true,true,true,false,false] rfl rfl (any_of HT_.out (by kernel_rfl)) (fun _ _ _ h => h) (Or.inl ⟨by rfl,?_⟩) ?_ ?_
                      rotate_left
                      ·intro w'
                       go_simp
                       with_reducible rfl
                      rotate_left
                      ·simp only [Act.put,List.setIfInBounds_toArray,List.set_cons_zero,List.set_cons_succ,i64_w,i32_w]
                       rfl
                      refine pure_ (i:=14) (N:=some 108) (v:=?_) (a':=?_) #[true,true,true,true,true,true,true,true,true,true,true,true,true,true,true,false] rfl rfl (any_of HT_.out (by kernel_rfl)) (fun _ _ _ h => h) (Or.inl ⟨by rfl,?_⟩) ?_ ?_
                      rotate_left
                      ·intro w'
                       go_simp
                       with_reducible rfl
                      rotate_left
                      ·simp only [Act.put,List.setIfInBounds_toArray,List.set_cons_zero,List.set_cons_succ,i64_w,i32_w]
                       rfl
                      refine pure_ (i:=15) (N:=some 15) (v:=?_) (a':=?_) #[true,true,true,true,true,true,true,true,true,true,true,true,true,true,true,true] rfl rfl (any_of HT_.out (by kernel_rfl)) (fun _ _ _ h => h) (Or.inl ⟨by rfl,?_⟩) ?_ ?_
                      rotate_left
                      ·intro w'
                       go_simp
                       with_reducible rfl
                      rotate_left
                      ·simp only [Act.put,List.setIfInBounds_toArray,List.set_cons_zero,List.set_cons_succ,i64_w,i32_w]
                       rfl
                      refine done_ (done_of HT_.out (by kernel_rfl)) ?_
                      try go_wp2
                      go_roundg k4
                      case measure => have:=HK1.out;have:=HK2.out;have:=HK3.out;have:=HK4.out;omega
                      case rel => exact ⟨(wrap64 (x15_4 + (wrap64 ((rd (rd_L1 x9_2 (ji25)) (ji30)) * (rd x7_1 (ji33)))))),(wrap64 (x16_4 + 1)),(by first|rfl|(simp;done)|(simp only [← hji25,← hji30,← hji33] <;> (first|rfl|simp))|(simp [*];done)),(by first|rfl|(simp;done)|(simp [*];done)),H',⟨by have:=HK1.out;have:=HK2.out;have:=HK3.out;have:=HK4.out;omega⟩,⟨by (with_reducible repeat (first|apply ra_|apply rb_|apply rc_));exact HO_7.out⟩,⟨by (with_reducible repeat (first|apply Kd.S_alloc|apply Kd.S_drewN|apply Kd.S_drew));exact HO_9.out⟩,⟨by (with_reducible repeat (first|apply ra_|apply rb_|apply rc_));exact HO_11.out⟩,⟨by repeat (first|(with_reducible exact HR376_0.out)|(with_reducible refine Kd.C_alloc ?_ _)|(with_reducible refine Kd.C_drewN ?_ _)|(with_reducible refine Kd.C_drew ?_)|exact HR376_0.out)⟩,⟨by repeat (first|(with_reducible first|exact HI0.out|apply IsS58v.alloc|apply IsS58v.drewN|apply IsS58v.drew)|exact HI0.out)⟩,⟨by repeat (first|(with_reducible first|exact HK.out|apply KeepBut.set_|apply keep_drewN|apply keep_drew|apply keep_alloc)|exact HK.out)⟩,⟨by repeat (first|(with_reducible first|exact HB.out|apply ba_|apply bb_|apply bc_|refine below_set ?_ (IsS58v.ge HI0.out))|exact HB.out)⟩⟩
                     ·rw [if_neg c35] at H
                      exact absurd H (by simp)
                    ·rw [if_neg c34] at H
                     exact absurd H (by simp)
                   ·rw [if_neg c32] at H
                    exact absurd H (by simp)
                  ·rw [if_neg c31] at H
                   exact absurd H (by simp)
                 ·rw [if_neg c29] at H
                  have c29b0:=decide_eq_false c29
                  clear c29
                  replace H:=Option.bind_eq_some_iff.mp H
                  obtain ⟨t379,A380,H⟩:=H
                  (try dsimp only at H)
                  have A38:=ak_ A380
                  clear A380
                  by_cases c39 : x11_3.length < 17592186044416
                  ·rw [if_pos c39] at H
                   have LMc39:=ak_ c39
                   clear c39
                   obtain ⟨y380,hy380⟩ : ∃ y_ : List Int,y_ = (x11_3 ++ [t379]):=⟨_,rfl⟩
                   replace H : (madrigalref10_Sampler_Run.l2 k4 l1 t354 t355 x7_1 x9_2 y380 (wrap64 (x12_3 + 1)) s0_0 s0_1 s0_2) = some (r1,r2,r3,r4):=by first|(rw [hy380];with_reducible exact H)|(have H2_:=(Option.bind_some _ _).symm.trans H;rw [hy380];with_reducible exact H2_)|(have H2_:=(Option.bind_some _ _).symm.trans H;with_reducible exact H2_)|with_reducible exact H|(rw [hy380];exact H)|exact H
                   have Ny380:=ak_ hy380
                   clear hy380
                   have H':=ak_ H
                   clear H
                   go_wp2_with (first|((with_reducible refine gate_callee (f:=25) rfl ?_);refine goesL_ (some 112) rfl rfl Try.func25 (by kernel_rfl) rfl #[.int .i64 (x15_4 / 32768)] rfl (by (try simp only [List.map_toArray,List.map_cons,List.map_nil]);first|done|rfl|(simp only [List.length_drop,List.length_take];rfl)) ?_;(with_reducible refine (madrigalref1_Sat16.calls k4 (x15_4 / 32768) t379 _ A38.out).mono ?_);rintro e w' ⟨rfl,⟨nd,rfl⟩⟩;refine ⟨_,rfl,?_⟩)|((with_reducible refine gate_builtin (b:=.append) (xs:=#[.tmp 109,.tmp 113]) rfl ?_);at_builtin;refine Kd.R_append (Kd.int .i64) w.heap.size rfl (.tmp 109) (.tmp 113) 27 2 (.int .i64 0) 8 rfl Try.underlying27 info2 rfl (by decide) (by omega) u11 x11_3 t379 [.int .i64 t379] (fun k_ => some k_ ≠ (u7 : Value).ownBlock) (fun _ => False) rfl rfl ?aP (fun _ hk => hk.elim) ?aF ?aO (Below.refl _ _) ?aS ?aL ?_;(case aP => exact rfl);(case aF => exact (fun k_ hk => Kd.fresh' (Kd.R_lt (by (with_reducible repeat (first|apply ra_|apply rb_|apply rc_));exact HO_7.out)) k_ hk));(case aO => exact (by (with_reducible repeat (first|apply ra_|apply rb_|apply rc_));exact HO_11.out));(case aS => exact (keep_size (w:=w) (g:=g) (row:=none) (by repeat (first|(with_reducible first|exact HK.out|apply KeepBut.set_|apply keep_drewN|apply keep_drew|apply keep_alloc)|exact HK.out))));(case aL => have:=LMc39.out;omega);intro v381 w40 ho hb hg hat;rw [← Ny380.out] at ho;have n0_:=ak_ (Kd.R_after (ok:=(fun _ => True)) (by (with_reducible repeat (first|apply ra_|apply rb_|apply rc_));exact Kd.R_mono HO_7.out (fun _ hk => ⟨trivial,hk⟩)) hg hat);have n1_:=ak_ (Kd.S_after (ok:=(fun k_ => some k_ ≠ (u7 : Value).ownBlock)) (by (with_reducible repeat (first|apply Kd.S_alloc|apply Kd.S_drewN|apply Kd.S_drew));exact HO_9.out) hg hat);have n2_:=ak_ (IsS58v.grown (by repeat (first|(with_reducible first|exact HI0.out|apply IsS58v.alloc|apply IsS58v.drewN|apply IsS58v.drew)|exact HI0.out)) hg (IsS58v.own_ne HI0.out HO_11.out (by decide)));have n3_:=ak_ (below_weaken (by repeat (first|(with_reducible first|exact HB.out|apply ba_|apply bb_|apply bc_|refine below_set ?_ (IsS58v.ge HI0.out))|exact HB.out)) HL.out hb);have n4_:=ak_ (KeepBut.trans (by repeat (first|(with_reducible first|exact HK.out|apply KeepBut.set_|apply keep_drewN|apply keep_drew|apply keep_alloc)|exact HK.out)) (KeepBut.of_grown hg g) (Kd.R_base2 HO_11.out));have n5_:=ak_ (ho);clear HO_7;clear HO_9;clear HI0;clear HB;clear HK;clear HO_11;have HO_7:=n0_;have HO_9:=n1_;have HI0:=n2_;have HB:=n3_;have HK:=n4_;have HO382:=n5_;clear n0_ n1_ n2_ n3_ n4_ n5_;clear ho hb hg hat))
                   go_roundg k4
                   case measure => have:=HK1.out;have:=HK2.out;have:=HK3.out;have:=HK4.out;omega
                   case rel => exact ⟨(y380),(wrap64 (x12_3 + 1)),(by first|rfl|(simp;done)|(simp [*];done)),H',⟨by have:=HK1.out;have:=HK2.out;have:=HK3.out;have:=HK4.out;omega⟩,⟨by (with_reducible repeat (first|apply ra_|apply rb_|apply rc_));exact Kd.R_mono HO_7.out (fun _ hk => hk.2)⟩,⟨by (with_reducible repeat (first|apply Kd.S_alloc|apply Kd.S_drewN|apply Kd.S_drew));exact HO_9.out⟩,⟨by (with_reducible repeat (first|apply ra_|apply rb_|apply rc_));exact HO382.out⟩,⟨by repeat (first|(with_reducible first|exact HI0.out|apply IsS58v.alloc|apply IsS58v.drewN|apply IsS58v.drew)|exact HI0.out)⟩,⟨by repeat (first|(with_reducible first|exact HK.out|apply KeepBut.set_|apply keep_drewN|apply keep_drew|apply keep_alloc)|exact HK.out)⟩,⟨by repeat (first|(with_reducible first|exact HB.out|apply ba_|apply bb_|apply bc_|refine below_set ?_ (IsS58v.ge HI0.out))|exact HB.out)⟩⟩
                  ·rw [if_neg c39] at H
                   exact absurd H (by simp)
              ·rw [if_neg c27] at H
               exact absurd H (by simp)
             ·rw [if_neg c26] at H
              exact absurd H (by simp)
           ·rw [if_neg c23] at H
            have c23b0:=decide_eq_false c23
            clear c23
            replace H:=Option.bind_eq_some_iff.mp H
            obtain ⟨t373,A410,H⟩:=H
            (try dsimp only at H)
            have A41:=ak_ A410
            clear A410
            simp only [Option.some.injEq,Prod.mk.injEq] at H
            obtain ⟨rfl,rfl,rfl,rfl⟩:=H
            obtain ⟨Ao42,co42,eo42⟩:=Kd.R_slice HO_7.out
            subst eo42
            go_wp2_with (first|((with_reducible refine gate_callee (f:=39) rfl ?_);refine goesL_ (some 117) rfl rfl Try.func39 (by kernel_rfl) rfl #[.slice Ao42 x7_1.length co42,.int .i64 16] rfl (by (try simp only [List.map_toArray,List.map_cons,List.map_nil]);first|done|rfl|(simp only [List.length_drop,List.length_take];rfl)) ?_;(with_reducible refine (madrigalref10_last.calls _ _ x7_1 16 t373 _ ?side1 ?side2 A41.out).mono ?_);(case side1 => repeat (first|exact (Kd.R_reads' HO_7.out).2.2|(with_reducible refine Kd.C_alloc ?_ _)|(with_reducible refine Kd.C_drewN ?_ _)|(with_reducible refine Kd.C_drew ?_)));(case side2 => exact (Kd.R_reads' HO_7.out).2.1);rintro e w43 ⟨v374,rfl,ho0,hb⟩;refine ⟨_,rfl,?_⟩;have n0_:=ak_ (Kd.R_elder' (by (with_reducible repeat (first|apply ra_|apply rb_|apply rc_));exact HO_7.out) (Kd.R_base ho0) hb);have n1_:=ak_ (Kd.S_elder' (by (with_reducible repeat (first|apply Kd.S_alloc|apply Kd.S_drewN|apply Kd.S_drew));exact HO_9.out) (Kd.R_base ho0) hb);have n2_:=ak_ (Kd.R_elder' (by (with_reducible repeat (first|apply ra_|apply rb_|apply rc_));exact HO_11.out) (Kd.R_base ho0) hb);have n3_:=ak_ (Kd.R_lower (Kd.R_new' (Kd.R_new' ho0 (Kd.R_lt (by (with_reducible repeat (first|apply ra_|apply rb_|apply rc_));exact HO_7.out))) (Kd.R_lt (by (with_reducible repeat (first|apply ra_|apply rb_|apply rc_));exact HO_11.out))) (keep_size (w:=w) (g:=g) (row:=none) (by repeat (first|(with_reducible first|exact HK.out|apply KeepBut.set_|apply keep_drewN|apply keep_drew|apply keep_alloc)|exact HK.out))));have n4_:=ak_ (IsS58v.below (by repeat (first|(with_reducible first|exact HI0.out|apply IsS58v.alloc|apply IsS58v.drewN|apply IsS58v.drew)|exact HI0.out)) hb);have n5_:=ak_ (KeepBut.trans (by repeat (first|(with_reducible first|exact HK.out|apply KeepBut.set_|apply keep_drewN|apply keep_drew|apply keep_alloc)|exact HK.out)) (KeepBut.of_below hb g none) (.inl rfl));have n6_:=ak_ (below_step (by repeat (first|(with_reducible first|exact HB.out|apply ba_|apply bb_|apply bc_|refine below_set ?_ (IsS58v.ge HI0.out))|exact HB.out)) hb);clear HO_7;clear HO_9;clear HO_11;clear HI0;clear HK;clear HB;have HO_7:=n0_;have HO_9:=n1_;have HO_11:=n2_;have HO375:=n3_;have HI0:=n4_;have HK:=n5_;have HB:=n6_;clear n0_ n1_ n2_ n3_ n4_ n5_ n6_;(try clear hb);(try clear ho0);obtain ⟨Ao44,co44,eo44⟩:=Kd.R_slice HO375.out;subst eo44;have hxg46 : w43.cell? ⟨g,2,none⟩ = some (.slice A90 s0_2.length c90):=(blk_cell (show IsS58v (.slice A90 s0_2.length c90) w0 _ g s0_0 s0_1 s0_2 from by repeat (first|(with_reducible first|exact HI0.out|apply IsS58v.alloc|apply IsS58v.drewN|apply IsS58v.drew)|exact HI0.out)).1 2).trans rfl;have hfg46 : w43.frozen? ⟨g,2,none⟩ = false:=blk_frozen (show IsS58v (.slice A90 s0_2.length c90) w0 _ g s0_0 s0_1 s0_2 from by repeat (first|(with_reducible first|exact HI0.out|apply IsS58v.alloc|apply IsS58v.drewN|apply IsS58v.drew)|exact HI0.out)).1 2)|((with_reducible refine gate_store (t:=27) (p:=119) rfl ?_);refine store_event (t:=27) (p:=119) (v:=?vo_w45) (w1:=(w43.setCell ⟨g,2,none⟩ (.slice Ao44 t373.length co44))) ?hg ?ho ?hn ?hr ?_;(case ho => rfl);(case hg => rfl);(case hn => rfl);(case hr => first|(go_simp;done)|(go_simp;rfl));intro w45 hw;have hi : IsS58 w0 w45 g s0_0 s0_1 t373:=(by rw [hw];exact IsS58v.put (show IsS58v (.slice A90 s0_2.length c90) w0 _ g s0_0 s0_1 s0_2 from by repeat (first|(with_reducible first|exact HI0.out|apply IsS58v.alloc|apply IsS58v.drewN|apply IsS58v.drew)|exact HI0.out)) (Kd.Q_mono (Kd.Q_lower (Kd.Q_of_R (by (with_reducible repeat (first|apply ra_|apply rb_|apply rc_));exact HO375.out)) HW0.out) (fun _ _ => trivial)));have hb : Below w0.heap.size w0 w45:=(by rw [hw];exact below_set (by repeat (first|(with_reducible first|exact HB.out|apply ba_|apply bb_|apply bc_|refine below_set ?_ (IsS58v.ge HI0.out))|exact HB.out)) (IsS58v.ge HI0.out));have hk : KeepBut w43 w45 g none:=(by rw [hw];exact KeepBut.set_ (KeepBut.refl _ _ _) _ _);have n0_:=ak_ (Kd.R_mono (Kd.R_keep (IsS58v.apart (show IsS58v (.slice A90 s0_2.length c90) w0 _ g s0_0 s0_1 s0_2 from by repeat (first|(with_reducible first|exact HI0.out|apply IsS58v.alloc|apply IsS58v.drewN|apply IsS58v.drew)|exact HI0.out)) (by (with_reducible repeat (first|apply ra_|apply rb_|apply rc_));exact HO_7.out) (by decide)) hk (fun _ h => h.2)) (fun _ h => h.1));have n1_:=ak_ (Kd.S_mono (Kd.S_keep (IsS58v.apartS (show IsS58v (.slice A90 s0_2.length c90) w0 _ g s0_0 s0_1 s0_2 from by repeat (first|(with_reducible first|exact HI0.out|apply IsS58v.alloc|apply IsS58v.drewN|apply IsS58v.drew)|exact HI0.out)) (by (with_reducible repeat (first|apply Kd.S_alloc|apply Kd.S_drewN|apply Kd.S_drew));exact HO_9.out) (by decide)) hk (fun _ h => h.2)) (fun _ h => h.1));have n2_:=ak_ (Kd.R_mono (Kd.R_keep (IsS58v.apart (show IsS58v (.slice A90 s0_2.length c90) w0 _ g s0_0 s0_1 s0_2 from by repeat (first|(with_reducible first|exact HI0.out|apply IsS58v.alloc|apply IsS58v.drewN|apply IsS58v.drew)|exact HI0.out)) (by (with_reducible repeat (first|apply ra_|apply rb_|apply rc_));exact HO_11.out) (by decide)) hk (fun _ h => h.2)) (fun _ h => h.1));have n3_:=ak_ (Kd.R_mono (Kd.R_keep (IsS58v.apart (show IsS58v (.slice A90 s0_2.length c90) w0 _ g s0_0 s0_1 s0_2 from by repeat (first|(with_reducible first|exact HI0.out|apply IsS58v.alloc|apply IsS58v.drewN|apply IsS58v.drew)|exact HI0.out)) (by (with_reducible repeat (first|apply ra_|apply rb_|apply rc_));exact HO375.out) (by decide)) hk (fun _ h => h.2)) (fun _ h => h.1));have n4_:=ak_ (KeepBut.trans (by repeat (first|(with_reducible first|exact HK.out|apply KeepBut.set_|apply keep_drewN|apply keep_drew|apply keep_alloc)|exact HK.out)) hk (.inl rfl));have n5_:=ak_ (hb);have n6_:=ak_ (hi);clear HO_7;clear HO_9;clear HO_11;clear HO375;clear HK;clear HB;clear HI0;have HO_7:=n0_;have HO_9:=n1_;have HO_11:=n2_;have HO375:=n3_;have HK:=n4_;have HB:=n5_;have HI0:=n6_;clear n0_ n1_ n2_ n3_ n4_ n5_ n6_;(try clear hb);(try clear hk);(try clear hi);(try clear hw)))
            go_ret
            exact ⟨_,by first|rfl|(simp [errW_none,errW_some] <;> rfl)|(simp [*,errW_none,errW_some] <;> rfl),by (with_reducible repeat (first|apply ra_|apply rb_|apply rc_));exact Kd.R_mono HO_11.out (fun _ hk => trivial),by repeat (first|(with_reducible first|exact HI0.out|apply IsS58.alloc|apply IsS58.drewN|apply IsS58.drew)|exact HI0.out),by repeat (first|(with_reducible first|exact HB.out|apply ba_|apply bb_|apply bc_|refine below_set ?_ (IsS58.ge HI0.out))|exact HB.out),by repeat (first|(with_reducible first|exact HK.out|apply KeepBut.set_|apply keep_drewN|apply keep_drew|apply keep_alloc)|exact HK.out)⟩
 ·rw [if_neg c4] at H
  exact absurd H (by simp)

end Go.Proofs.Ytcicenmmpbgmoaa.P
