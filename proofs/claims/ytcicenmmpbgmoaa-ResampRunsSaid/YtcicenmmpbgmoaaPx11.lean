/- The machine side of the laws of one chapter, without conditions: each call of a Go function comes to what the Lean function of its name answers. Written for this claim by a program of the prover. -/
import Derived.Test.YtcicenmmpbgmoaaPx0
import Derived.Test.YtcicenmmpbgmoaaPx2
import Derived.Test.YtcicenmmpbgmoaaPx3
import Derived.Test.YtcicenmmpbgmoaaPx9
import Derived.Test.YtcicenmmpbgmoaaPx10
namespace Go.Proofs.Ytcicenmmpbgmoaa.P
open Go.RowKit Go.Proofs.YtcicenmmpbgmoaaW.PrintWords Go.Proofs.YtcicenmmpbgmoaaW.PrintLast Go.Proofs.YtcicenmmpbgmoaaW.PrintMore
attribute [local go_sem] max2_int min2_int max_two min_two max_three min_three max_four min_four   -- for this text's walks alone
set_option linter.unusedVariables false
set_option linter.unusedSimpArgs false

/-! ### resamp_Sampler_Run: function 13 -/
mutual
def resamp_Sampler_Run.j0 : Nat → List Int → Int → Int → Bool → Int → Int → List Int → Option (List Int × Int × Int × Int × List Int)
 | 0,_,_,_,_,_,_,_ => none
 | k + 1,x1,x6,x7,x41,x1000,x1001,x1002 => if x41 = true then (some (([] : List Int),1,x1000,x1001,x1002)) else ((some (([] : List Int) : List Int)).bind fun y150 => (if y150.length + x1002.length < 17592186044416 then (resamp_Sampler_Run.l0 k x1 x6 x7 (y150 ++ x1002) x1 (x1.length : Int) 0 x1000 x1001 x1002) else (none)))
def resamp_Sampler_Run.l0 : Nat → List Int → Int → Int → List Int → List Int → Int → Int → Int → Int → List Int → Option (List Int × Int × Int × Int × List Int)
 | 0,_,_,_,_,_,_,_,_,_,_ => none
 | k + 1,x1,x6,x7,x8,x48,x49,x50,x1000,x1001,x1002 => if x50 < x49 then (if 0 ≤ x50 then (if x50 < (x48.length : Int) then ((fix_Sat16.f k (rd x48 x50)).bind fun t158 => (if x8.length < 17592186044416 then (resamp_Sampler_Run.l0 k x1 x6 x7 (x8 ++ [t158]) x48 x49 (wrap64 (x50 + 1)) x1000 x1001 x1002) else (none))) else (none)) else (none)) else (if 0 ≤ x6 then (if (x6 : Int).toNat ≤ 11728124029610 then ((some (List.replicate (x6 : Int).toNat [] : List (List Int))).bind fun y162 => (resamp_Sampler_Run.l1 k x1 x6 x7 x8 y162 (y162.length : Int) 0 x1000 x1001 x1002)) else (none)) else (none))
def resamp_Sampler_Run.l1 : Nat → List Int → Int → Int → List Int → List (List Int) → Int → Int → Int → Int → List Int → Option (List Int × Int × Int × Int × List Int)
 | 0,_,_,_,_,_,_,_,_,_,_ => none
 | k + 1,x1,x6,x7,x8,x11,x63,x64,x1000,x1001,x1002 => if x64 < x63 then ((resamp_Filter.f k x1000 x1001 x64).bind fun t165 => (if 0 ≤ x64 then (if x64 < (x11.length : Int) then (resamp_Sampler_Run.l1 k x1 x6 x7 x8 (x11.set (x64 : Int).toNat t165) x63 (wrap64 (x64 + 1)) x1000 x1001 x1002) else (none)) else (none))) else (if x7 = 0 then (none) else (if 0 ≤ (wrap64 (Int.tdiv (wrap64 (x6 * (x1.length : Int))) x7)) then (if (wrap64 (Int.tdiv (wrap64 (x6 * (x1.length : Int))) x7) : Int).toNat ≤ 35184372088832 then ((some (List.replicate (wrap64 (Int.tdiv (wrap64 (x6 * (x1.length : Int))) x7) : Int).toNat 0 : List Int)).bind fun y169 => (resamp_Sampler_Run.l2 k x6 x7 x8 x11 y169 (y169.length : Int) 0 x1000 x1001 x1002)) else (none)) else (none)))
def resamp_Sampler_Run.l2 : Nat → Int → Int → List Int → List (List Int) → List Int → Int → Int → Int → Int → List Int → Option (List Int × Int × Int × Int × List Int)
 | 0,_,_,_,_,_,_,_,_,_,_ => none
 | k + 1,x6,x7,x8,x11,x13,x89,x90,x1000,x1001,x1002 => if x90 < x89 then (if x6 = 0 then (none) else (if 0 ≤ (Int.tmod (wrap64 (x90 * x7)) x6) then (if (Int.tmod (wrap64 (x90 * x7)) x6) < (x11.length : Int) then (resamp_Sampler_Run.l3 k x6 x7 x8 x11 x13 x90 (wrap64 (Int.tdiv (wrap64 (x90 * x7)) x6)) 16384 x89 x90 (rd_L1 x11 (Int.tmod (wrap64 (x90 * x7)) x6)) ((rd_L1 x11 (Int.tmod (wrap64 (x90 * x7)) x6)).length : Int) 0 x1000 x1001 x1002) else (none)) else (none))) else (if 0 ≤ (wrap64 ((x8.length : Int) - 16)) then (if (wrap64 ((x8.length : Int) - 16)) ≤ (x8.length : Int) then ((some (x8.drop ((wrap64 ((x8.length : Int) - 16)) : Int).toNat : List Int)).bind fun y173 => (some (x13,0,x1000,x1001,List.take 16 y173 ++ List.drop y173.length x1002))) else (none)) else (none))
def resamp_Sampler_Run.l3 : Nat → Int → Int → List Int → List (List Int) → List Int → Int → Int → Int → Int → Int → List Int → Int → Int → Int → Int → List Int → Option (List Int × Int × Int × Int × List Int)
 | 0,_,_,_,_,_,_,_,_,_,_,_,_,_,_,_,_ => none
 | k + 1,x6,x7,x8,x11,x13,x14,x15,x17,x89,x90,x106,x107,x108,x1000,x1001,x1002 => if x108 < x107 then (if 0 ≤ x108 then (if x108 < (x106.length : Int) then (if 0 ≤ (wrap64 ((wrap64 ((wrap64 (x15 + 8)) + x108)) - 7)) then (if (wrap64 ((wrap64 ((wrap64 (x15 + 8)) + x108)) - 7)) < (x8.length : Int) then (resamp_Sampler_Run.l3 k x6 x7 x8 x11 x13 x14 x15 (wrap64 (x17 + (wrap64 ((rd x106 x108) * (rd x8 (wrap64 ((wrap64 ((wrap64 (x15 + 8)) + x108)) - 7))))))) x89 x90 x106 x107 (wrap64 (x108 + 1)) x1000 x1001 x1002) else (none)) else (none)) else (none)) else (none)) else ((fix_Sat16.f k (x17 / 32768)).bind fun t181 => (if 0 ≤ x14 then (if x14 < (x13.length : Int) then (resamp_Sampler_Run.l2 k x6 x7 x8 x11 (x13.set (x14 : Int).toNat t181) x89 (wrap64 (x90 + 1)) x1000 x1001 x1002) else (none)) else (none)))
end
def resamp_Sampler_Run.f (k : Nat) (s0_0 : Int) (s0_1 : Int) (s0_2 : List Int) (l1 : List Int) : Option (List Int × Int × Int × Int × List Int):=(resamp_parts.f k s0_0 s0_1).bind fun bt148 => (if (l1.length : Int) > 4800 then (resamp_Sampler_Run.j0 k l1 bt148.1 bt148.2 true s0_0 s0_1 s0_2) else (if bt148.2 = 0 then (none) else (resamp_Sampler_Run.j0 k l1 bt148.1 bt148.2 (((l1.length : Int) % bt148.2) != 0) s0_0 s0_1 s0_2)))
theorem resamp_Sampler_Run.mono_l : ∀ k,(∀ y0 y1 y2 y3 y4 y5 y6,LeO (resamp_Sampler_Run.j0 k y0 y1 y2 y3 y4 y5 y6) (resamp_Sampler_Run.j0 (k + 1) y0 y1 y2 y3 y4 y5 y6)) ∧ (∀ y0 y1 y2 y3 y4 y5 y6 y7 y8 y9,LeO (resamp_Sampler_Run.l0 k y0 y1 y2 y3 y4 y5 y6 y7 y8 y9) (resamp_Sampler_Run.l0 (k + 1) y0 y1 y2 y3 y4 y5 y6 y7 y8 y9)) ∧ (∀ y0 y1 y2 y3 y4 y5 y6 y7 y8 y9,LeO (resamp_Sampler_Run.l1 k y0 y1 y2 y3 y4 y5 y6 y7 y8 y9) (resamp_Sampler_Run.l1 (k + 1) y0 y1 y2 y3 y4 y5 y6 y7 y8 y9)) ∧ (∀ y0 y1 y2 y3 y4 y5 y6 y7 y8 y9,LeO (resamp_Sampler_Run.l2 k y0 y1 y2 y3 y4 y5 y6 y7 y8 y9) (resamp_Sampler_Run.l2 (k + 1) y0 y1 y2 y3 y4 y5 y6 y7 y8 y9)) ∧ (∀ y0 y1 y2 y3 y4 y5 y6 y7 y8 y9 y10 y11 y12 y13 y14 y15,LeO (resamp_Sampler_Run.l3 k y0 y1 y2 y3 y4 y5 y6 y7 y8 y9 y10 y11 y12 y13 y14 y15) (resamp_Sampler_Run.l3 (k + 1) y0 y1 y2 y3 y4 y5 y6 y7 y8 y9 y10 y11 y12 y13 y14 y15))
 | 0 => ⟨fun _ _ _ _ _ _ _ r h => by simp [resamp_Sampler_Run.j0] at h,fun _ _ _ _ _ _ _ _ _ _ r h => by simp [resamp_Sampler_Run.l0] at h,fun _ _ _ _ _ _ _ _ _ _ r h => by simp [resamp_Sampler_Run.l1] at h,fun _ _ _ _ _ _ _ _ _ _ r h => by simp [resamp_Sampler_Run.l2] at h,fun _ _ _ _ _ _ _ _ _ _ _ _ _ _ _ _ r h => by simp [resamp_Sampler_Run.l3] at h⟩
 | k + 1 => by
  obtain ⟨ih0,ih1,ih2,ih3,ih4⟩:=resamp_Sampler_Run.mono_l k
  refine ⟨?_,?_,?_,?_,?_⟩
  all_goals (intros;first|unfold resamp_Sampler_Run.j0|unfold resamp_Sampler_Run.l0|unfold resamp_Sampler_Run.l1|unfold resamp_Sampler_Run.l2|unfold resamp_Sampler_Run.l3)
  all_goals (repeat' first|(with_reducible first|exact ih0 _ _ _ _ _ _ _|exact ih1 _ _ _ _ _ _ _ _ _ _|exact ih2 _ _ _ _ _ _ _ _ _ _|exact ih3 _ _ _ _ _ _ _ _ _ _|exact ih4 _ _ _ _ _ _ _ _ _ _ _ _ _ _ _ _|exact fix_Sat16.mono _ _|exact resamp_Filter.mono _ _ _ _|exact resamp_parts.mono _ _ _|exact LeO.refl _|exact LeO.none _|refine LeO.ite ?_ ?_|refine LeO.bind ?_ (fun _ => ?_))|exact ih0 _ _ _ _ _ _ _|exact ih1 _ _ _ _ _ _ _ _ _ _|exact ih2 _ _ _ _ _ _ _ _ _ _|exact ih3 _ _ _ _ _ _ _ _ _ _|exact ih4 _ _ _ _ _ _ _ _ _ _ _ _ _ _ _ _|exact fix_Sat16.mono _ _|exact resamp_Filter.mono _ _ _ _|exact resamp_parts.mono _ _ _|exact LeO.none _|refine LeO.ite ?_ ?_|refine LeO.bind ?_ (fun _ => ?_))
theorem resamp_Sampler_Run.mono : ∀ a0 a1 a2 a3 k,LeO (resamp_Sampler_Run.f k a0 a1 a2 a3) (resamp_Sampler_Run.f (k + 1) a0 a1 a2 a3):=by
 intro a0 a1 a2 a3 k
 obtain ⟨ih0,ih1,ih2,ih3,ih4⟩:=resamp_Sampler_Run.mono_l k
 unfold resamp_Sampler_Run.f
 repeat' first|(with_reducible first|exact ih0 _ _ _ _ _ _ _|exact ih1 _ _ _ _ _ _ _ _ _ _|exact ih2 _ _ _ _ _ _ _ _ _ _|exact ih3 _ _ _ _ _ _ _ _ _ _|exact ih4 _ _ _ _ _ _ _ _ _ _ _ _ _ _ _ _|exact fix_Sat16.mono _ _|exact resamp_Filter.mono _ _ _ _|exact resamp_parts.mono _ _ _|exact LeO.refl _|exact LeO.none _|refine LeO.ite ?_ ?_|refine LeO.bind ?_ (fun _ => ?_))|exact ih0 _ _ _ _ _ _ _|exact ih1 _ _ _ _ _ _ _ _ _ _|exact ih2 _ _ _ _ _ _ _ _ _ _|exact ih3 _ _ _ _ _ _ _ _ _ _|exact ih4 _ _ _ _ _ _ _ _ _ _ _ _ _ _ _ _|exact fix_Sat16.mono _ _|exact resamp_Filter.mono _ _ _ _|exact resamp_parts.mono _ _ _|exact LeO.none _|refine LeO.ite ?_ ?_|refine LeO.bind ?_ (fun _ => ?_)
def resamp_Sampler_Run.T1 : Bool × List (List Nat × List Nat):=(true,[([],[]),([0],[0]),([1],[1]),([2],[2]),([],[]),([4],[4]),([5],[5]),([6],[6]),([3,7],[3,7]),([8],[8]),([9],[9]),([9],[9]),([10,8,0,1,2,3,4,5,6,7,8,9,10],[10]),([11,12,0,1,2,3,4,5,6,7,8,9,10,11,12],[11])])
def resamp_Sampler_Run.B1 : List Nat:=[0,1,3,7,0,16,48,112,255,511,1023,1023,2047,8191]
theorem resamp_Sampler_Run.tab1 : rtab .any (opsOf Try.f13 1) = resamp_Sampler_Run.T1:=by kernel_rfl
theorem resamp_Sampler_Run.bits1 : waitsOk resamp_Sampler_Run.T1.2 resamp_Sampler_Run.B1 = true:=by kernel_rfl
def resamp_Sampler_Run.T14 : Bool × List (List Nat × List Nat):=(true,[([],[]),([],[]),([],[]),([2],[2]),([3],[3]),([4],[4]),([],[]),([6],[6]),([7],[7]),([8],[8]),([],[]),([5,9,10],[5,9,10]),([0,1,0,1,2,3,4,5,6,7,8,9,10,11],[0,1]),([12,11,11,0,1,2,3,4,5,6,7,8,9,10,11],[11,12])])
def resamp_Sampler_Run.B14 : List Nat:=[0,0,0,4,12,28,0,64,192,448,0,2044,4095,8191]
theorem resamp_Sampler_Run.tab14 : rtab .any (opsOf Try.f13 14) = resamp_Sampler_Run.T14:=by kernel_rfl
theorem resamp_Sampler_Run.bits14 : waitsOk resamp_Sampler_Run.T14.2 resamp_Sampler_Run.B14 = true:=by kernel_rfl
def resamp_Sampler_Run.T20 : Bool × List (List Nat × List Nat):=(true,[([],[]),([],[]),([0,1],[0,1]),([],[]),([2,3],[2,3]),([],[]),([],[]),([5,6],[5,6]),([],[]),([7,8],[7,8]),([4,0,1,2,3,4],[4]),([9,10,0,1,2,3,4,5,6,7,8,9,10],[9])])
def resamp_Sampler_Run.B20 : List Nat:=[0,0,3,0,15,0,0,96,0,480,31,2047]
theorem resamp_Sampler_Run.tab20 : rtab .any (opsOf Try.f13 20) = resamp_Sampler_Run.T20:=by kernel_rfl
theorem resamp_Sampler_Run.bits20 : waitsOk resamp_Sampler_Run.T20.2 resamp_Sampler_Run.B20 = true:=by kernel_rfl
def resamp_Sampler_Run.T29 : Bool × List (List Nat × List Nat):=(true,[([],[]),([0],[0]),([1],[1]),([2],[2]),([],[]),([],[]),([5],[5]),([6],[6]),([4,7],[4,7]),([3,8],[3,8])])
def resamp_Sampler_Run.B29 : List Nat:=[0,1,3,7,0,0,32,96,240,511]
theorem resamp_Sampler_Run.tab29 : rtab .any (opsOf Try.f13 29) = resamp_Sampler_Run.T29:=by kernel_rfl
theorem resamp_Sampler_Run.bits29 : waitsOk resamp_Sampler_Run.T29.2 resamp_Sampler_Run.B29 = true:=by kernel_rfl
set_option maxHeartbeats 8000000 in
set_option maxRecDepth 100000 in
theorem resamp_Sampler_Run.calls (k : Nat) (g : Nat) (s0_0 : Int) (s0_1 : Int) (s0_2 : List Int) (A1 : Option Addr) (c1 : Nat) (l1 : List Int) (r1 : List Int) (r2 : Int) (r3 : Int) (r4 : Int) (r5 : List Int) (w0 w : World) (hI : IsS53 w0 w g s0_0 s0_1 s0_2) (hB : Below w0.heap.size w0 w) (hr1 : Kd.C (Kd.int .i64) w A1 l1.length l1) (hc1 : l1.length ≤ c1) (hf1 : ∀ ad,A1 = some ad → 0 < l1.length → ad.block ≠ g) (h : resamp_Sampler_Run.f k s0_0 s0_1 s0_2 l1 = some (r1,r2,r3,r4,r5)) :
  Calls Try.prog 13 #[.pointer (some ⟨g,0,none⟩),.slice A1 l1.length c1] w fun e w' => ∃ v0_ : Value,e = .returned (.tuple #[v0_,.int .i64 r2]) ∧ Kd.R (Kd.int .i64) 2 w' w.heap.size (fun _ => True) v0_ r1 ∧ IsS53 w0 w' g r3 r4 r5 ∧ Below w0.heap.size w0 w' ∧ KeepBut w w' g none:=by
 have hu51:=Try.underlying51
 have HR1:=ak_ hr1
 have HC1:=ak_ hc1
 clear hr1 hc1
 have HI0:=ak_ hI
 have HK:=ak_ (KeepBut.refl w g none)
 have HL:=ak_ hB.size
 clear hI
 have HW0:=ak_ hB.size
 have HB:=ak_ hB
 clear hB
 have H : ((resamp_parts.f k s0_0 s0_1).bind fun bt148 => (if (l1.length : Int) > 4800 then (resamp_Sampler_Run.j0 k l1 bt148.1 bt148.2 true s0_0 s0_1 s0_2) else (if bt148.2 = 0 then (none) else (resamp_Sampler_Run.j0 k l1 bt148.1 bt148.2 (((l1.length : Int) % bt148.2) != 0) s0_0 s0_1 s0_2)))) = some (r1,r2,r3,r4,r5):=h
 clear h
 replace H:=Option.bind_eq_some_iff.mp H
 obtain ⟨⟨t148,t149⟩,A30,H⟩:=H
 (try dsimp only at H)
 have A3:=ak_ A30
 clear A30
 have HC4:=ak_ H
 clear H
 go_enter Try.func13,Try.ntmps13
 try go_wp2
 have n0_:=ak_ (IsS53.drew HI0.out)
 have n1_:=ak_ (keep_drew HK.out)
 have n2_:=ak_ (below_drew1 HB.out)
 clear HI0
 clear HK
 clear HB
 have HI0:=n0_
 have HK:=n1_
 have HB:=n2_
 clear n0_ n1_ n2_
 refine start_ (n:=14) (S:=fun w' => w'.cell? ⟨g,0,none⟩ = some (.int .i64 s0_0) ∧ w'.cell? ⟨g,1,none⟩ = some (.int .i64 s0_1)) (ds:=[]) #[false,false,false,false,false,false,false,false,false,false,false,false,false,false] (by kernel_rfl) rfl rfl ⟨(blk_cell (ak_ HI0.out.1).out 0).trans rfl,(blk_cell (ak_ HI0.out.1).out 1).trans rfl⟩ (fun hHeld => ?_);refine with_tabW resamp_Sampler_Run.tab1 resamp_Sampler_Run.bits1 (fun HT_ HW_ => ?_)
 generalize w.drew = w5 at HI0 HK HB hHeld ⊢
 refine pure_ (i:=0) (N:=some 21) (v:=?_) (a':=?_) #[true,false,false,false,false,false,false,false,false,false,false,false,false,false] rfl rfl (any_of HT_.out (by kernel_rfl)) (fun _ _ _ h => h) (Or.inl ⟨by rfl,?_⟩) ?_ ?_
 rotate_left
 ·intro w'
  go_simp
  with_reducible rfl
 rotate_left
 ·simp only [Act.put,List.setIfInBounds_toArray,List.set_cons_zero,List.set_cons_succ,i64_w,i32_w]
  rfl
 refine pure_ (i:=1) (N:=some 22) (v:=?_) (a':=?_) #[true,true,false,false,false,false,false,false,false,false,false,false,false,false] rfl rfl (any_of HT_.out (by kernel_rfl)) (fun _ _ _ h => h) (Or.inl ⟨by rfl,?_⟩) ?_ ?_
 rotate_left
 ·intro w'
  go_simp
  with_reducible rfl
 rotate_left
 ·simp only [Act.put,List.setIfInBounds_toArray,List.set_cons_zero,List.set_cons_succ,i64_w,i32_w]
  rfl
 refine pure_ (i:=2) (N:=some 23) (v:=?_) (a':=?_) #[true,true,true,false,false,false,false,false,false,false,false,false,false,false] rfl rfl (any_of HT_.out (by kernel_rfl)) (fun _ _ _ h => h) (Or.inl ⟨by rfl,?_⟩) ?_ ?_
 rotate_left
 ·intro w'
  go_simp
  with_reducible rfl
 rotate_left
 ·simp only [Act.put,List.setIfInBounds_toArray,List.set_cons_zero,List.set_cons_succ,i64_w,i32_w]
  rfl
 refine pure_ (i:=4) (N:=some 25) (v:=?_) (a':=?_) #[true,true,true,false,true,false,false,false,false,false,false,false,false,false] rfl rfl (any_of HT_.out (by kernel_rfl)) (fun _ _ _ h => h) (Or.inl ⟨by rfl,?_⟩) ?_ ?_
 rotate_left
 ·intro w'
  go_simp
  with_reducible rfl
 rotate_left
 ·simp only [Act.put,List.setIfInBounds_toArray,List.set_cons_zero,List.set_cons_succ,i64_w,i32_w]
  rfl
 refine pure_ (i:=5) (N:=some 26) (v:=?_) (a':=?_) #[true,true,true,false,true,true,false,false,false,false,false,false,false,false] rfl rfl (any_of HT_.out (by kernel_rfl)) (fun _ _ _ h => h) (Or.inl ⟨by rfl,?_⟩) ?_ ?_
 rotate_left
 ·intro w'
  go_simp
  with_reducible rfl
 rotate_left
 ·simp only [Act.put,List.setIfInBounds_toArray,List.set_cons_zero,List.set_cons_succ,i64_w,i32_w]
  rfl
 refine pure_ (i:=6) (N:=some 27) (v:=?_) (a':=?_) #[true,true,true,false,true,true,true,false,false,false,false,false,false,false] rfl rfl (any_of HT_.out (by kernel_rfl)) (fun _ _ _ h => h) (Or.inl ⟨by rfl,?_⟩) ?_ ?_
 rotate_left
 ·intro w'
  go_simp
  with_reducible rfl
 rotate_left
 ·simp only [Act.put,List.setIfInBounds_toArray,List.set_cons_zero,List.set_cons_succ,i64_w,i32_w]
  rfl
 refine take_ (i:=3) (N:=some 24) (v:=?_) (a':=?_) #[true,true,true,true,true,true,true,false,false,false,false,false,false,false] rfl rfl (take_ofW HT_.out HW_.out (by kernel_rfl)) (fun _ _ _ h => h) (Or.inl ⟨by rfl,?_⟩) hHeld ?_ ?_
 rotate_left
 ·rintro w' ⟨s0,s1⟩
  go_simp
  with_reducible rfl
 rotate_left
 ·simp only [Act.put,List.setIfInBounds_toArray,List.set_cons_zero,List.set_cons_succ,i64_w,i32_w]
  rfl
 refine take_ (i:=7) (N:=some 28) (v:=?_) (a':=?_) #[true,true,true,true,true,true,true,true,false,false,false,false,false,false] rfl rfl (take_ofW HT_.out HW_.out (by kernel_rfl)) (fun _ _ _ h => h) (Or.inl ⟨by rfl,?_⟩) hHeld ?_ ?_
 rotate_left
 ·rintro w' ⟨s0,s1⟩
  go_simp
  with_reducible rfl
 rotate_left
 ·simp only [Act.put,List.setIfInBounds_toArray,List.set_cons_zero,List.set_cons_succ,i64_w,i32_w]
  rfl
 refine one_ (i:=8) (N:=some 29) #[true,true,true,true,true,true,true,true,true,false,false,false,false,false] rfl rfl (one_of HT_.out (by kernel_rfl)) (by decide) (fun K hK => ?_)
 refine goes_ Try.func27 (by kernel_rfl) rfl #[.int .i64 s0_0,.int .i64 s0_1] (by rfl) rfl rfl (by (try simp only [List.map_toArray,List.map_cons,List.map_nil]);first|done|rfl|(simp only [List.length_drop,List.length_take];rfl)) ?_
 with_reducible refine (resamp_parts.calls k s0_0 s0_1 t148 t149 _ A3.out).mono ?_
 rintro e w' ⟨rfl,⟨nd,rfl⟩⟩
 refine ⟨_,rfl,?_⟩
 refine hK.out _ _ ⟨(blk_cell (ak_ HI0.out.1).out 0).trans rfl,(blk_cell (ak_ HI0.out.1).out 1).trans rfl⟩ (fun hHeld => ?_)
 clear hK K
 refine norm_ (a':=?_) ?_ ?_
 rotate_left
 ·show Act.put _ (some 29) _ = _
  simp only [Act.put,List.setIfInBounds_toArray,List.set_cons_zero,List.set_cons_succ,i64_w,i32_w]
  rfl
 refine pure_ (i:=9) (N:=some 20) (v:=?_) (a':=?_) #[true,true,true,true,true,true,true,true,true,true,false,false,false,false] rfl rfl (any_of HT_.out (by kernel_rfl)) (fun _ _ _ h => h) (Or.inl ⟨by rfl,?_⟩) ?_ ?_
 rotate_left
 ·intro w'
  go_simp
  with_reducible rfl
 rotate_left
 ·simp only [Act.put,List.setIfInBounds_toArray,List.set_cons_zero,List.set_cons_succ,i64_w,i32_w]
  rfl
 refine pure_ (i:=10) (N:=some 30) (v:=?_) (a':=?_) #[true,true,true,true,true,true,true,true,true,true,true,false,false,false] rfl rfl (any_of HT_.out (by kernel_rfl)) (fun _ _ _ h => h) (Or.inl ⟨by rfl,?_⟩) ?_ ?_
 rotate_left
 ·intro w'
  go_simp
  with_reducible rfl
 rotate_left
 ·simp only [Act.put,List.setIfInBounds_toArray,List.set_cons_zero,List.set_cons_succ,i64_w,i32_w]
  rfl
 refine pure_ (i:=11) (N:=some 31) (v:=?_) (a':=?_) #[true,true,true,true,true,true,true,true,true,true,true,true,false,false] rfl rfl (any_of HT_.out (by kernel_rfl)) (fun _ _ _ h => h) (Or.inl ⟨by rfl,?_⟩) ?_ ?_
 rotate_left
 ·intro w'
  go_simp
  with_reducible rfl
 rotate_left
 ·simp only [Act.put,List.setIfInBounds_toArray,List.set_cons_zero,List.set_cons_succ,i64_w,i32_w]
  rfl
 refine pure_ (i:=12) (N:=some 6) (v:=?_) (a':=?_) #[true,true,true,true,true,true,true,true,true,true,true,true,true,false] rfl rfl (any_of HT_.out (by kernel_rfl)) (fun _ _ _ h => h) (Or.inl ⟨by rfl,?_⟩) ?_ ?_
 rotate_left
 ·intro w'
  go_simp
  with_reducible rfl
 rotate_left
 ·simp only [Act.put,List.setIfInBounds_toArray,List.set_cons_zero,List.set_cons_succ,i64_w,i32_w]
  rfl
 refine pure_ (i:=13) (N:=some 7) (v:=?_) (a':=?_) #[true,true,true,true,true,true,true,true,true,true,true,true,true,true] rfl rfl (any_of HT_.out (by kernel_rfl)) (fun _ _ _ h => h) (Or.inl ⟨by rfl,?_⟩) ?_ ?_
 rotate_left
 ·intro w'
  go_simp
  with_reducible rfl
 rotate_left
 ·simp only [Act.put,List.setIfInBounds_toArray,List.set_cons_zero,List.set_cons_succ,i64_w,i32_w]
  rfl
 refine done_ (done_of HT_.out (by kernel_rfl)) ?_
 go_upto_region 2 with (fail)
 go_cut [41] (fun v41 wc => ∃ (kq : Nat) (x41_3 : Bool),v41 = .bool x41_3 ∧ Aside0 (resamp_Sampler_Run.j0 kq l1 t148 t149 x41_3 s0_0 s0_1 s0_2 = some (r1,r2,r3,r4,r5)) ∧ Aside0 (kq ≤ k) ∧ Aside0 (IsS53 w0 wc g s0_0 s0_1 s0_2) ∧ Aside0 (KeepBut w wc g none) ∧ Aside0 (Below w0.heap.size w0 wc))
 case first =>
  have H:=HC4.out
  clear HC4
  by_cases c6 : (l1.length : Int) > 4800
  ·rw [if_pos c6] at H
   have c6b0 : decide (4800 < (l1.length : Int)) = true:=decide_eq_true c6
   have c6b1 : decide (4800 < l1.length) = true:=decide_eq_true (by omega)
   clear c6
   (first|rw [c6b0]|(simp only [i64_w,i32_w];rw [c6b0])|skip)
   have H':=ak_ H
   clear H
   go_wp2
   refine Met.intro ?_
   go_step
   (repeat apply Exists.intro)
   first|refine ⟨?rel216,rfl⟩|(refine ⟨?rel216,?st216⟩;case' st216 => (first|rw [c6b0]|simp only [c6b0]))
   case rel216 => exact ⟨_,(true),(by first|rfl|(simp;done)|(simp [*];done)),H',⟨by first|omega|exact Nat.le_refl _⟩,⟨by repeat (first|(with_reducible first|exact HI0.out|apply IsS53.alloc|apply IsS53.drewN|apply IsS53.drew)|exact HI0.out)⟩,⟨by repeat (first|(with_reducible first|exact HK.out|apply KeepBut.set_|apply keep_drewN|apply keep_drew|apply keep_alloc)|exact HK.out)⟩,⟨by repeat (first|(with_reducible first|exact HB.out|apply ba_|apply bb_|apply bc_|refine below_set ?_ (IsS53.ge HI0.out))|exact HB.out)⟩⟩
  ·rw [if_neg c6] at H
   have c6b0 : decide (4800 < (l1.length : Int)) = false:=decide_eq_false c6
   have c6b1 : decide (4800 < l1.length) = false:=decide_eq_false (by omega)
   clear c6
   (first|rw [c6b0]|(simp only [i64_w,i32_w];rw [c6b0])|skip)
   by_cases c7 : t149 = 0
   ·rw [if_pos c7] at H
    exact absurd H (by simp)
   ·rw [if_neg c7] at H
    have c7b0 : (t149 == 0) = false:=beq_eq_false_iff_ne.mpr c7
    have c7b1 : (t149 != 0) = true:=bne_iff_ne.mpr c7
    have H':=ak_ H
    clear H
    go_wp2
    go_meet
    case rel => exact ⟨_,((((l1.length : Int) % t149) != 0)),(by first|rfl|(simp;done)|(simp [*];done)),H',⟨by first|omega|exact Nat.le_refl _⟩,⟨by repeat (first|(with_reducible first|exact HI0.out|apply IsS53.alloc|apply IsS53.drewN|apply IsS53.drew)|exact HI0.out)⟩,⟨by repeat (first|(with_reducible first|exact HK.out|apply KeepBut.set_|apply keep_drewN|apply keep_drew|apply keep_alloc)|exact HK.out)⟩,⟨by repeat (first|(with_reducible first|exact HB.out|apply ba_|apply bb_|apply bc_|refine below_set ?_ (IsS53.ge HI0.out))|exact HB.out)⟩⟩
 case rest => as_aux_lemma =>
  clear HC4
  try clear c1
  try clear c2
  try clear p2
  try clear c6
  try clear c6b0
  try clear c6b1
  try clear c7
  try clear c7b0
  try clear c7b1
  obtain ⟨kq,x41_3,rfl,HA,HJ3,HI0,HK,HB⟩:=hcut
  (try simp only [i64_w,i32_w])
  cases kq with
  | zero => exact absurd HA.out (by simp [resamp_Sampler_Run.j0])
  | succ kj3 =>
   have H:=HA.out
   clear HA
   simp only [resamp_Sampler_Run.j0] at H
   by_cases c8 : x41_3 = true
   ·subst c8
    have H1 : (some (([] : List Int),1,s0_0,s0_1,s0_2)) = some (r1,r2,r3,r4,r5):=by rw [if_pos rfl] at H;exact H
    clear H
    have H:=H1
    clear H1
    simp only [Option.some.injEq,Prod.mk.injEq] at H
    obtain ⟨rfl,rfl,rfl,rfl,rfl⟩:=H
    go_wp2
    go_ret2
    exact ⟨_,by first|rfl|(simp [errW_none,errW_some] <;> rfl)|(simp [*,errW_none,errW_some] <;> rfl),by first|exact Kd.R_nil _ _ _ _ _|exact Kd.N_nil _ _ _ _ _|exact Kd.V_nil _ _ _ _ _|exact Kd.Q_nil _ _ _ _ _|exact Kd.S_nil _ _ _ _ _,by repeat (first|(with_reducible first|exact HI0.out|apply IsS53.alloc|apply IsS53.drewN|apply IsS53.drew)|exact HI0.out),by repeat (first|(with_reducible first|exact HB.out|apply ba_|apply bb_|apply bc_|refine below_set ?_ (IsS53.ge HI0.out))|exact HB.out),by repeat (first|(with_reducible first|exact HK.out|apply KeepBut.set_|apply keep_drewN|apply keep_drew|apply keep_alloc)|exact HK.out)⟩
   ·replace c8:=Bool.eq_false_iff.mpr c8
    subst c8
    have H1 : ((some (([] : List Int) : List Int)).bind fun y150 => (if y150.length + s0_2.length < 17592186044416 then (resamp_Sampler_Run.l0 kj3 l1 t148 t149 (y150 ++ s0_2) l1 (l1.length : Int) 0 s0_0 s0_1 s0_2) else (none))) = some (r1,r2,r3,r4,r5):=by rw [if_neg (show ¬ (false = true) by decide)] at H;exact H
    clear H
    have H:=H1
    clear H1
    obtain ⟨y150,hy150⟩ : ∃ y_ : List Int,y_ = (([] : List Int)):=⟨_,rfl⟩
    replace H : (if y150.length + s0_2.length < 17592186044416 then (resamp_Sampler_Run.l0 kj3 l1 t148 t149 (y150 ++ s0_2) l1 (l1.length : Int) 0 s0_0 s0_1 s0_2) else (none)) = some (r1,r2,r3,r4,r5):=by first|(rw [hy150];with_reducible exact H)|(have H2_:=(Option.bind_some _ _).symm.trans H;rw [hy150];with_reducible exact H2_)|(have H2_:=(Option.bind_some _ _).symm.trans H;with_reducible exact H2_)|with_reducible exact H|(rw [hy150];exact H)|exact H
    have Ny150:=ak_ hy150
    clear hy150
    by_cases c9 : y150.length + s0_2.length < 17592186044416
    ·rw [if_pos c9] at H
     have LMc9:=ak_ c9
     clear c9
     obtain ⟨y154,hy154⟩ : ∃ y_ : List Int,y_ = (y150 ++ s0_2):=⟨_,rfl⟩
     replace H : (resamp_Sampler_Run.l0 kj3 l1 t148 t149 y154 l1 (l1.length : Int) 0 s0_0 s0_1 s0_2) = some (r1,r2,r3,r4,r5):=by first|(rw [hy154];with_reducible exact H)|(have H2_:=(Option.bind_some _ _).symm.trans H;rw [hy154];with_reducible exact H2_)|(have H2_:=(Option.bind_some _ _).symm.trans H;with_reducible exact H2_)|with_reducible exact H|(rw [hy154];exact H)|exact H
     have Ny154:=ak_ hy154
     clear hy154
     have H':=ak_ H
     clear H
     go_wp2_with (first|((with_reducible refine gate_dst (N:=42) rfl ?_);(try (refine gate_guard (by rfl) ?_;dsimp only));refine Kd.R_lit (Kd.int .i64) _ 2 ?hg (N:=42) ?hd (xs:=([] : List Int)) (inner:=[]) (ok:=fun _ => True) (okp:=fun _ => True) ?hr ?hp (fun _ hk => hk) trivial (Below.refl _ _) (Nat.le_refl _) (by simp) ?_;(case hd => rfl);(case hg => rfl);(case hr => first|(go_simp;done)|(go_simp;rfl));(case hp => exact (Reps.none _ _));intro v151 w10 ho11 hb hg_ hnew_;clear hg_ hnew_;(first|rw [← Ny150.out] at ho11|(simp only [Int.reduceToNat] at ho11;rw [← Ny150.out] at ho11));have n0_:=ak_ (Kd.R_lower ho11 (keep_size (w:=w) (g:=g) (row:=none) (by repeat (first|(with_reducible first|exact HK.out|apply KeepBut.set_|apply keep_drewN|apply keep_drew|apply keep_alloc)|exact HK.out))));have n1_:=ak_ (IsS53.below (by repeat (first|(with_reducible first|exact HI0.out|apply IsS53.alloc|apply IsS53.drewN|apply IsS53.drew)|exact HI0.out)) hb);have n2_:=ak_ (KeepBut.trans (by repeat (first|(with_reducible first|exact HK.out|apply KeepBut.set_|apply keep_drewN|apply keep_drew|apply keep_alloc)|exact HK.out)) (KeepBut.of_below hb g none) (.inl rfl));have n3_:=ak_ (below_step (by repeat (first|(with_reducible first|exact HB.out|apply ba_|apply bb_|apply bc_|refine below_set ?_ (IsS53.ge HI0.out))|exact HB.out)) hb);clear HI0;clear HK;clear HB;have HO152:=n0_;have HI0:=n1_;have HK:=n2_;have HB:=n3_;clear n0_ n1_ n2_ n3_;clear hb ho11)|((with_reducible refine gate_builtin (b:=.append) (xs:=#[.tmp 42,.tmp 46]) rfl ?_);(try (refine gate_guard (by rfl) ?_;dsimp only));at_builtin;refine Kd.R_append_rows (Kd.int .i64) w.heap.size rfl (.tmp 42) (.tmp 46) 27 2 (.int .i64 0) 8 rfl Try.underlying27 info2 rfl (by decide) (by omega) v151 y150 s0_2 _ _ _ (fun _ => True) (fun _ => False) rfl rfl ?aO ?aR (fun _ _ h => h) (fun _ h => h.elim) ?aF (Below.refl _ _) ?aS ?aL ?_;(case aR => rw [show 16 = s0_2.length from IsS53.len HI0.out];exact IsS53.row (show IsS53 w0 _ g s0_0 s0_1 s0_2 from by repeat (first|(with_reducible first|exact HI0.out|apply IsS53.alloc|apply IsS53.drewN|apply IsS53.drew)|exact HI0.out)));(case aF => exact (fun _ _ => trivial));(case aO => exact (by (with_reducible repeat (first|apply ra_|apply rb_|apply rc_));exact HO152.out));(case aS => exact (keep_size (w:=w) (g:=g) (row:=none) (by repeat (first|(with_reducible first|exact HK.out|apply KeepBut.set_|apply keep_drewN|apply keep_drew|apply keep_alloc)|exact HK.out))));(case aL => have:=LMc9.out;have hlx_:=IsS53.len HI0.out;omega);intro v155 w12 ho hb hg hat;rw [← Ny154.out] at ho;have n0_:=ak_ (IsS53.grown (by repeat (first|(with_reducible first|exact HI0.out|apply IsS53.alloc|apply IsS53.drewN|apply IsS53.drew)|exact HI0.out)) hg (IsS53.own_ne HI0.out HO152.out (by decide)));have n1_:=ak_ (below_weaken (by repeat (first|(with_reducible first|exact HB.out|apply ba_|apply bb_|apply bc_|refine below_set ?_ (IsS53.ge HI0.out))|exact HB.out)) HL.out hb);have n2_:=ak_ (KeepBut.trans (by repeat (first|(with_reducible first|exact HK.out|apply KeepBut.set_|apply keep_drewN|apply keep_drew|apply keep_alloc)|exact HK.out)) (KeepBut.of_grown hg g) (Kd.R_base2 HO152.out));have n3_:=ak_ (ho);clear HI0;clear HB;clear HK;clear HO152;have HI0:=n0_;have HB:=n1_;have HK:=n2_;have HO156:=n3_;clear n0_ n1_ n2_ n3_;clear ho hb hg hat))
     go_loopg [8,50] kj3 (fun kq v8 v50 w' => ∃ (x8_2 : List Int) (x50_2 : Int),v50 = .int .i64 x50_2 ∧ Aside0 (resamp_Sampler_Run.l0 kq l1 t148 t149 x8_2 l1 (l1.length : Int) x50_2 s0_0 s0_1 s0_2 = some (r1,r2,r3,r4,r5)) ∧ Aside0 (kq ≤ kj3) ∧ Aside0 (Kd.R (Kd.int .i64) 2 w' w.heap.size (fun _ => True) v8 x8_2) ∧ Aside0 (IsS53 w0 w' g s0_0 s0_1 s0_2) ∧ Aside0 (KeepBut w w' g none) ∧ Aside0 (Below w0.heap.size w0 w'))
     case atStart => exact ⟨(y154),(0),(by first|rfl|(simp;done)|(simp [*];done)),H',⟨Nat.le_refl _⟩,⟨by (with_reducible repeat (first|apply ra_|apply rb_|apply rc_));exact HO156.out⟩,⟨by repeat (first|(with_reducible first|exact HI0.out|apply IsS53.alloc|apply IsS53.drewN|apply IsS53.drew)|exact HI0.out)⟩,⟨by repeat (first|(with_reducible first|exact HK.out|apply KeepBut.set_|apply keep_drewN|apply keep_drew|apply keep_alloc)|exact HK.out)⟩,⟨by repeat (first|(with_reducible first|exact HB.out|apply ba_|apply bb_|apply bc_|refine below_set ?_ (IsS53.ge HI0.out))|exact HB.out)⟩⟩
     case round => as_aux_lemma =>
      clear H'
      try clear c1
      try clear c2
      try clear p2
      try clear c6
      try clear c6b0
      try clear c6b1
      try clear c7
      try clear c7b0
      try clear c7b1
      try clear c8
      try clear c9
      try clear p2
      obtain ⟨x8_2,x50_2,rfl,HA,HK2,HO_8,HI0,HK,HB⟩:=hrel
      (try simp only [i64_w,i32_w])
      cases gk with
      | zero => exact absurd HA.out (by simp [resamp_Sampler_Run.l0])
      | succ k2 =>
       have H:=HA.out
       clear HA
       simp only [resamp_Sampler_Run.l0] at H
       by_cases c13 : x50_2 < (l1.length : Int)
       ·rw [if_pos c13] at H
        have c13b0:=decide_eq_true c13
        clear c13
        by_cases c14 : 0 ≤ x50_2
        ·rw [if_pos c14] at H
         have c14b0:=decide_eq_true c14
         clear c14
         by_cases c15 : x50_2 < (l1.length : Int)
         ·rw [if_pos c15] at H
          have c15b0:=decide_eq_true c15
          clear c15
          replace H:=Option.bind_eq_some_iff.mp H
          obtain ⟨t158,A160,H⟩:=H
          (try dsimp only at H)
          have A16:=ak_ A160
          clear A160
          by_cases c17 : x8_2.length < 17592186044416
          ·rw [if_pos c17] at H
           have LMc17:=ak_ c17
           clear c17
           obtain ⟨y159,hy159⟩ : ∃ y_ : List Int,y_ = (x8_2 ++ [t158]):=⟨_,rfl⟩
           replace H : (resamp_Sampler_Run.l0 k2 l1 t148 t149 y159 l1 (l1.length : Int) (wrap64 (x50_2 + 1)) s0_0 s0_1 s0_2) = some (r1,r2,r3,r4,r5):=by first|(rw [hy159];with_reducible exact H)|(have H2_:=(Option.bind_some _ _).symm.trans H;rw [hy159];with_reducible exact H2_)|(have H2_:=(Option.bind_some _ _).symm.trans H;with_reducible exact H2_)|with_reducible exact H|(rw [hy159];exact H)|exact H
           have Ny159:=ak_ hy159
           clear hy159
           have H':=ak_ H
           clear H
           have p157 : 0 ≤ (x50_2 : Int):=of_decide_eq_true (by first|(with_reducible assumption)|assumption)
           have q157 : x50_2 < (l1.length : Int):=of_decide_eq_true (by first|(with_reducible assumption)|assumption)
           obtain ⟨ad157,e157,hx157_0⟩:=Kd.at_int HR1.out x50_2 p157 q157
           cases e157
           replace hx157_0:=keep_cell HK.out hx157_0 (by first|(rw [add_block];exact hf1 _ rfl (by omega))|exact hf1 _ rfl (by omega)|exact hf1 ad157 rfl (by omega))
           replace p157:=eq_true p157
           replace q157:=eq_true q157
           go_wp2_with (first|((with_reducible refine gate_callee (f:=28) rfl ?_);refine goesL_ (some 56) rfl rfl Try.func28 (by kernel_rfl) rfl #[.int .i64 (rd l1 x50_2)] rfl (by (try simp only [List.map_toArray,List.map_cons,List.map_nil]);first|done|rfl|(simp only [List.length_drop,List.length_take];rfl)) ?_;(with_reducible refine (fix_Sat16.calls k2 (rd l1 x50_2) t158 _ A16.out).mono ?_);rintro e w' ⟨rfl,⟨nd,rfl⟩⟩;refine ⟨_,rfl,?_⟩)|((with_reducible refine gate_builtin (b:=.append) (xs:=#[.tmp 54,.tmp 57]) rfl ?_);(try (refine gate_guard (by rfl) ?_;dsimp only));at_builtin;refine Kd.R_append (Kd.int .i64) w.heap.size rfl (.tmp 54) (.tmp 57) 27 2 (.int .i64 0) 8 rfl Try.underlying27 info2 rfl (by decide) (by omega) u8 x8_2 t158 [.int .i64 t158] (fun _ => True) (fun _ => False) rfl rfl ?aP (fun _ hk => hk.elim) ?aF ?aO (Below.refl _ _) ?aS ?aL ?_;(case aP => exact rfl);(case aF => exact (fun _ _ => trivial));(case aO => exact (by (with_reducible repeat (first|apply ra_|apply rb_|apply rc_));exact HO_8.out));(case aS => exact (keep_size (w:=w) (g:=g) (row:=none) (by repeat (first|(with_reducible first|exact HK.out|apply KeepBut.set_|apply keep_drewN|apply keep_drew|apply keep_alloc)|exact HK.out))));(case aL => have:=LMc17.out;omega);intro v160 w18 ho hb hg hat;rw [← Ny159.out] at ho;have n0_:=ak_ (IsS53.grown (by repeat (first|(with_reducible first|exact HI0.out|apply IsS53.alloc|apply IsS53.drewN|apply IsS53.drew)|exact HI0.out)) hg (IsS53.own_ne HI0.out HO_8.out (by decide)));have n1_:=ak_ (below_weaken (by repeat (first|(with_reducible first|exact HB.out|apply ba_|apply bb_|apply bc_|refine below_set ?_ (IsS53.ge HI0.out))|exact HB.out)) HL.out hb);have n2_:=ak_ (KeepBut.trans (by repeat (first|(with_reducible first|exact HK.out|apply KeepBut.set_|apply keep_drewN|apply keep_drew|apply keep_alloc)|exact HK.out)) (KeepBut.of_grown hg g) (Kd.R_base2 HO_8.out));have n3_:=ak_ (ho);clear HI0;clear HB;clear HK;clear HO_8;have HI0:=n0_;have HB:=n1_;have HK:=n2_;have HO161:=n3_;clear n0_ n1_ n2_ n3_;clear ho hb hg hat))
           go_roundg k2
           case measure => have:=HJ3.out;have:=HK2.out;omega
           case rel => exact ⟨(y159),(wrap64 (x50_2 + 1)),(by first|rfl|(simp;done)|(simp [*];done)),H',⟨by have:=HJ3.out;have:=HK2.out;omega⟩,⟨by (with_reducible repeat (first|apply ra_|apply rb_|apply rc_));exact HO161.out⟩,⟨by repeat (first|(with_reducible first|exact HI0.out|apply IsS53.alloc|apply IsS53.drewN|apply IsS53.drew)|exact HI0.out)⟩,⟨by repeat (first|(with_reducible first|exact HK.out|apply KeepBut.set_|apply keep_drewN|apply keep_drew|apply keep_alloc)|exact HK.out)⟩,⟨by repeat (first|(with_reducible first|exact HB.out|apply ba_|apply bb_|apply bc_|refine below_set ?_ (IsS53.ge HI0.out))|exact HB.out)⟩⟩
          ·rw [if_neg c17] at H
           exact absurd H (by simp)
         ·rw [if_neg c15] at H
          exact absurd H (by simp)
        ·rw [if_neg c14] at H
         exact absurd H (by simp)
       ·rw [if_neg c13] at H
        have c13b0:=decide_eq_false c13
        clear c13
        by_cases c19 : 0 ≤ t148
        ·rw [if_pos c19] at H
         have c19b0:=eq_true c19
         have c19b1 : decide (0 ≤ t148) = true:=decide_eq_true c19
         clear c19
         by_cases c20 : (t148 : Int).toNat ≤ 11728124029610
         ·rw [if_pos c20] at H
          have c20b0:=eq_true c20
          have c20b1 : decide ((t148 : Int).toNat ≤ 11728124029610) = true:=decide_eq_true c20
          clear c20
          obtain ⟨y162,hy162⟩ : ∃ y_ : List (List Int),y_ = (List.replicate (t148 : Int).toNat []):=⟨_,rfl⟩
          replace H : (resamp_Sampler_Run.l1 k2 l1 t148 t149 x8_2 y162 (y162.length : Int) 0 s0_0 s0_1 s0_2) = some (r1,r2,r3,r4,r5):=by first|(rw [hy162];with_reducible exact H)|(have H2_:=(Option.bind_some _ _).symm.trans H;rw [hy162];with_reducible exact H2_)|(have H2_:=(Option.bind_some _ _).symm.trans H;with_reducible exact H2_)|with_reducible exact H|(rw [hy162];exact H)|exact H
          have Ny162:=ak_ hy162
          clear hy162
          have H':=ak_ H
          clear H
          go_wp2_with (first|((with_reducible refine gate_dst (N:=61) rfl ?_);(try (refine gate_guard (by rfl) ?_;dsimp only));refine Kd.N_make (Kd.slice 2 (Kd.int .i64)) _ 27 rfl (N':=61) rfl 38 _ _ rfl t148 rfl rfl Try.underlying38 (.slice none 0 0) 24 info27 rfl (by decide) (by omega) [] (ok:=fun k_ => wr.heap.size ≤ k_) (okp:=fun _ => False) (Kd.FK_slice_mk (Nat.le_refl _) (Kd.F_nil _ _ _)) (fun _ hk => hk.elim) (Nat.le_refl _) (of_decide_eq_true (by first|(with_reducible assumption)|assumption)) (Nat.le_trans (Nat.mul_le_mul_right _ (of_decide_eq_true (by first|(with_reducible assumption)|assumption) : t148.toNat ≤ 11728124029610)) (by omega)) (Below.refl _ _) (Nat.le_refl _) ?_;intro v163 w21 ho22 hb hg_ hnew_;clear hg_ hnew_;(first|rw [← Ny162.out] at ho22|(simp only [Int.reduceToNat] at ho22;rw [← Ny162.out] at ho22));have n0_:=ak_ (Kd.R_below (by (with_reducible repeat (first|apply ra_|apply rb_|apply rc_));exact HO_8.out) hb);have n1_:=ak_ (Kd.N_lower (Kd.N_mono (ok':=fun k_ => some k_ ≠ (u8 : Value).ownBlock ∧ k_ ≠ g) ho22 (fun k_ hk_ => ⟨(Kd.fresh' (Kd.R_lt (by (with_reducible repeat (first|apply ra_|apply rb_|apply rc_));exact HO_8.out)) k_ hk_),(IsS53.fresh (by repeat (first|(with_reducible first|exact HI0.out|apply IsS53.alloc|apply IsS53.drewN|apply IsS53.drew)|exact HI0.out)) k_ hk_)⟩)) (keep_size (w:=w) (g:=g) (row:=none) (by repeat (first|(with_reducible first|exact HK.out|apply KeepBut.set_|apply keep_drewN|apply keep_drew|apply keep_alloc)|exact HK.out))));have n2_:=ak_ (IsS53.below (by repeat (first|(with_reducible first|exact HI0.out|apply IsS53.alloc|apply IsS53.drewN|apply IsS53.drew)|exact HI0.out)) hb);have n3_:=ak_ (KeepBut.trans (by repeat (first|(with_reducible first|exact HK.out|apply KeepBut.set_|apply keep_drewN|apply keep_drew|apply keep_alloc)|exact HK.out)) (KeepBut.of_below hb g none) (.inl rfl));have n4_:=ak_ (below_step (by repeat (first|(with_reducible first|exact HB.out|apply ba_|apply bb_|apply bc_|refine below_set ?_ (IsS53.ge HI0.out))|exact HB.out)) hb);clear HO_8;clear HI0;clear HK;clear HB;have HO_8:=n0_;have HO164:=n1_;have HI0:=n2_;have HK:=n3_;have HB:=n4_;clear n0_ n1_ n2_ n3_ n4_;clear hb ho22;obtain ⟨Ao23,co23,eo23⟩:=Kd.N_slice HO164.out;subst eo23))
          go_loopg [64] k2 (fun kq v64 w' => ∃ (x11_3 : List (List Int)) (x64_3 : Int),v64 = .int .i64 x64_3 ∧ Aside0 (resamp_Sampler_Run.l1 kq l1 t148 t149 x8_2 x11_3 (y162.length : Int) x64_3 s0_0 s0_1 s0_2 = some (r1,r2,r3,r4,r5)) ∧ Aside0 (kq ≤ k2) ∧ Aside0 (Kd.R (Kd.int .i64) 2 w' w.heap.size (fun _ => True) u8 x8_2) ∧ Aside0 (Kd.N (Kd.slice 2 (Kd.int .i64)) 27 w' w.heap.size (fun k_ => some k_ ≠ (u8 : Value).ownBlock ∧ k_ ≠ g) (.slice Ao23 y162.length co23) x11_3) ∧ Aside0 (IsS53 w0 w' g s0_0 s0_1 s0_2) ∧ Aside0 (KeepBut w w' g none) ∧ Aside0 (Below w0.heap.size w0 w'))
          case atStart => exact ⟨(y162),(0),(by first|rfl|(simp;done)|(simp [*];done)),H',⟨Nat.le_refl _⟩,⟨by (with_reducible repeat (first|apply ra_|apply rb_|apply rc_));exact HO_8.out⟩,⟨by (with_reducible repeat (first|apply Kd.N_alloc|apply Kd.N_drewN|apply Kd.N_drew));exact HO164.out⟩,⟨by repeat (first|(with_reducible first|exact HI0.out|apply IsS53.alloc|apply IsS53.drewN|apply IsS53.drew)|exact HI0.out)⟩,⟨by repeat (first|(with_reducible first|exact HK.out|apply KeepBut.set_|apply keep_drewN|apply keep_drew|apply keep_alloc)|exact HK.out)⟩,⟨by repeat (first|(with_reducible first|exact HB.out|apply ba_|apply bb_|apply bc_|refine below_set ?_ (IsS53.ge HI0.out))|exact HB.out)⟩⟩
          case round => as_aux_lemma =>
           clear H'
           try clear c1
           try clear p1
           try clear q1
           try clear hx1
           try clear c2
           try clear p2
           try clear c6
           try clear c6b0
           try clear c6b1
           try clear p6
           try clear c7
           try clear c7b0
           try clear c7b1
           try clear c8
           try clear c9
           try clear c13
           try clear c13b0
           try clear c14
           try clear c14b0
           try clear c15
           try clear c15b0
           try clear p15
           try clear q15
           try clear hx15
           try clear c17
           try clear c19
           try clear c19b0
           try clear c19b1
           try clear c20
           try clear c20b0
           try clear c20b1
           try clear hx157_0
           try clear p157
           try clear p2
           try clear q157
           obtain ⟨x11_3,x64_3,rfl,HA,HK3,HO_8,HO_11,HI0,HK,HB⟩:=hrel
           (try simp only [i64_w,i32_w])
           have hl11_3:=(Kd.N_reads' HO_11.out).1
           rw [hl11_3] at HO_11
           (try simp only [hl11_3])
           (try simp only [hl11_3] at HO_8)
           cases gk with
           | zero => exact absurd HA.out (by simp [resamp_Sampler_Run.l1])
           | succ k3 =>
            have H:=HA.out
            clear HA
            simp only [resamp_Sampler_Run.l1] at H
            by_cases c24 : x64_3 < (y162.length : Int)
            ·rw [if_pos c24] at H
             have c24b0:=decide_eq_true c24
             (try (have c24h0:=c24b0;simp only [hl11_3] at c24h0))
             clear c24
             replace H:=Option.bind_eq_some_iff.mp H
             obtain ⟨t165,A250,H⟩:=H
             (try dsimp only at H)
             have A25:=ak_ A250
             clear A250
             by_cases c26 : 0 ≤ x64_3
             ·rw [if_pos c26] at H
              have c26b0:=decide_eq_true c26
              (try (have c26h0:=c26b0;simp only [hl11_3] at c26h0))
              clear c26
              by_cases c27 : x64_3 < (x11_3.length : Int)
              ·rw [if_pos c27] at H
               have c27b0:=decide_eq_true c27
               (try (have c27h0:=c27b0;simp only [hl11_3] at c27h0))
               clear c27
               obtain ⟨y168,hy168⟩ : ∃ y_ : List (List Int),y_ = (x11_3.set (x64_3 : Int).toNat t165):=⟨_,rfl⟩
               replace H : (resamp_Sampler_Run.l1 k3 l1 t148 t149 x8_2 y168 (y162.length : Int) (wrap64 (x64_3 + 1)) s0_0 s0_1 s0_2) = some (r1,r2,r3,r4,r5):=by first|(rw [hy168];with_reducible exact H)|(have H2_:=(Option.bind_some _ _).symm.trans H;rw [hy168];with_reducible exact H2_)|(have H2_:=(Option.bind_some _ _).symm.trans H;with_reducible exact H2_)|with_reducible exact H|(rw [hy168];exact H)|exact H
               have Ny168:=ak_ hy168
               clear hy168
               have H':=ak_ H
               clear H
               try go_wp2
               have n0_:=ak_ (Kd.R_drew HO_8.out)
               have n1_:=ak_ (Kd.N_drew HO_11.out)
               have n2_:=ak_ (IsS53.drew HI0.out)
               have n3_:=ak_ (keep_drew HK.out)
               have n4_:=ak_ (below_drew1 HB.out)
               clear HO_8
               clear HO_11
               clear HI0
               clear HK
               clear HB
               have HO_8:=n0_
               have HO_11:=n1_
               have HI0:=n2_
               have HK:=n3_
               have HB:=n4_
               clear n0_ n1_ n2_ n3_ n4_
               refine start_ (n:=14) (S:=fun w' => w'.cell? ⟨g,0,none⟩ = some (.int .i64 s0_0) ∧ w'.cell? ⟨g,1,none⟩ = some (.int .i64 s0_1)) (ds:=[13]) #[false,false,false,false,false,false,false,false,false,false,false,false,false,false] (by kernel_rfl) rfl rfl ⟨(blk_cell (ak_ HI0.out.1).out 0).trans rfl,(blk_cell (ak_ HI0.out.1).out 1).trans rfl⟩ (fun hHeld => ?_);refine with_tabW resamp_Sampler_Run.tab14 resamp_Sampler_Run.bits14 (fun HT_ HW_ => ?_)
               generalize wr.drew = w29 at HO_8 HO_11 HI0 HK HB hHeld ⊢
               refine pure_ (i:=0) (N:=some 67) (v:=?_) (a':=?_) #[true,false,false,false,false,false,false,false,false,false,false,false,false,false] rfl rfl (any_of HT_.out (by kernel_rfl)) (fun _ _ _ h => h) (Or.inl ⟨by rfl,?_⟩) ?_ ?_
               rotate_left
               ·intro w'
                go_simp
                with_reducible rfl
               rotate_left
               ·simp only [Act.put,List.setIfInBounds_toArray,List.set_cons_zero,List.set_cons_succ,i64_w,i32_w]
                rfl
               refine pure_ (i:=1) (N:=some 68) (v:=?_) (a':=?_) #[true,true,false,false,false,false,false,false,false,false,false,false,false,false] rfl rfl (any_of HT_.out (by kernel_rfl)) (fun _ _ _ h => h) (Or.inl ⟨by rfl,?_⟩) ?_ ?_
               rotate_left
               ·intro w'
                go_simp
                with_reducible rfl
               rotate_left
               ·simp only [Act.put,List.setIfInBounds_toArray,List.set_cons_zero,List.set_cons_succ,i64_w,i32_w]
                rfl
               refine pure_ (i:=2) (N:=some 69) (v:=?_) (a':=?_) #[true,true,true,false,false,false,false,false,false,false,false,false,false,false] rfl rfl (any_of HT_.out (by kernel_rfl)) (fun _ _ _ h => h) (Or.inl ⟨by rfl,?_⟩) ?_ ?_
               rotate_left
               ·intro w'
                go_simp
                with_reducible rfl
               rotate_left
               ·simp only [Act.put,List.setIfInBounds_toArray,List.set_cons_zero,List.set_cons_succ,i64_w,i32_w]
                rfl
               refine pure_ (i:=3) (N:=some 70) (v:=?_) (a':=?_) #[true,true,true,true,false,false,false,false,false,false,false,false,false,false] rfl rfl (any_of HT_.out (by kernel_rfl)) (fun _ _ _ h => h) (Or.inl ⟨by rfl,?_⟩) ?_ ?_
               rotate_left
               ·intro w'
                go_simp
                with_reducible rfl
               rotate_left
               ·simp only [Act.put,List.setIfInBounds_toArray,List.set_cons_zero,List.set_cons_succ,i64_w,i32_w]
                rfl
               refine pure_ (i:=4) (N:=some 71) (v:=?_) (a':=?_) #[true,true,true,true,true,false,false,false,false,false,false,false,false,false] rfl rfl (any_of HT_.out (by kernel_rfl)) (fun _ _ _ h => h) (Or.inl ⟨by rfl,?_⟩) ?_ ?_
               rotate_left
               ·intro w'
                go_simp
                with_reducible rfl
               rotate_left
               ·simp only [Act.put,List.setIfInBounds_toArray,List.set_cons_zero,List.set_cons_succ,i64_w,i32_w]
                rfl
               refine pure_ (i:=6) (N:=some 73) (v:=?_) (a':=?_) #[true,true,true,true,true,false,true,false,false,false,false,false,false,false] rfl rfl (any_of HT_.out (by kernel_rfl)) (fun _ _ _ h => h) (Or.inl ⟨by rfl,?_⟩) ?_ ?_
               rotate_left
               ·intro w'
                go_simp
                with_reducible rfl
               rotate_left
               ·simp only [Act.put,List.setIfInBounds_toArray,List.set_cons_zero,List.set_cons_succ,i64_w,i32_w]
                rfl
               refine pure_ (i:=7) (N:=some 74) (v:=?_) (a':=?_) #[true,true,true,true,true,false,true,true,false,false,false,false,false,false] rfl rfl (any_of HT_.out (by kernel_rfl)) (fun _ _ _ h => h) (Or.inl ⟨by rfl,?_⟩) ?_ ?_
               rotate_left
               ·intro w'
                go_simp
                with_reducible rfl
               rotate_left
               ·simp only [Act.put,List.setIfInBounds_toArray,List.set_cons_zero,List.set_cons_succ,i64_w,i32_w]
                rfl
               refine pure_ (i:=8) (N:=some 75) (v:=?_) (a':=?_) #[true,true,true,true,true,false,true,true,true,false,false,false,false,false] rfl rfl (any_of HT_.out (by kernel_rfl)) (fun _ _ _ h => h) (Or.inl ⟨by rfl,?_⟩) ?_ ?_
               rotate_left
               ·intro w'
                go_simp
                with_reducible rfl
               rotate_left
               ·simp only [Act.put,List.setIfInBounds_toArray,List.set_cons_zero,List.set_cons_succ,i64_w,i32_w]
                rfl
               refine pure_ (i:=10) (N:=some 77) (v:=?_) (a':=?_) #[true,true,true,true,true,false,true,true,true,false,true,false,false,false] rfl rfl (any_of HT_.out (by kernel_rfl)) (fun _ _ _ h => h) (Or.inl ⟨by rfl,?_⟩) ?_ ?_
               rotate_left
               ·intro w'
                go_simp
                with_reducible rfl
               rotate_left
               ·simp only [Act.put,List.setIfInBounds_toArray,List.set_cons_zero,List.set_cons_succ,i64_w,i32_w]
                rfl
               refine take_ (i:=5) (N:=some 72) (v:=?_) (a':=?_) #[true,true,true,true,true,true,true,true,true,false,true,false,false,false] rfl rfl (take_ofW HT_.out HW_.out (by kernel_rfl)) (fun _ _ _ h => h) (Or.inl ⟨by rfl,?_⟩) hHeld ?_ ?_
               rotate_left
               ·rintro w' ⟨s0,s1⟩
                go_simp
                with_reducible rfl
               rotate_left
               ·simp only [Act.put,List.setIfInBounds_toArray,List.set_cons_zero,List.set_cons_succ,i64_w,i32_w]
                rfl
               refine take_ (i:=9) (N:=some 76) (v:=?_) (a':=?_) #[true,true,true,true,true,true,true,true,true,true,true,false,false,false] rfl rfl (take_ofW HT_.out HW_.out (by kernel_rfl)) (fun _ _ _ h => h) (Or.inl ⟨by rfl,?_⟩) hHeld ?_ ?_
               rotate_left
               ·rintro w' ⟨s0,s1⟩
                go_simp
                with_reducible rfl
               rotate_left
               ·simp only [Act.put,List.setIfInBounds_toArray,List.set_cons_zero,List.set_cons_succ,i64_w,i32_w]
                rfl
               refine one_ (i:=11) (N:=some 78) #[true,true,true,true,true,true,true,true,true,true,true,true,false,false] rfl rfl (one_of HT_.out (by kernel_rfl)) (by decide) (fun K hK => ?_)
               refine goes_ Try.func14 (by kernel_rfl) rfl #[.int .i64 s0_0,.int .i64 s0_1,.int .i64 x64_3] (by rfl) rfl rfl (by (try simp only [List.map_toArray,List.map_cons,List.map_nil]);first|done|rfl|(simp only [List.length_drop,List.length_take];rfl)) ?_
               with_reducible refine (resamp_Filter.calls k3 s0_0 s0_1 x64_3 t165 _ A25.out).mono ?_
               rintro e w30 ⟨v166,rfl,ho0,hb⟩
               refine ⟨_,rfl,?_⟩
               have n0_:=ak_ (Kd.R_elder' (by (with_reducible repeat (first|apply ra_|apply rb_|apply rc_));exact HO_8.out) (Kd.R_base ho0) hb)
               have n1_:=ak_ (Kd.N_elder' (by (with_reducible repeat (first|apply Kd.N_alloc|apply Kd.N_drewN|apply Kd.N_drew));exact HO_11.out) (Kd.R_base ho0) hb)
               have n2_:=ak_ (Kd.R_lower (Kd.R_new' ho0 (Kd.R_lt (by (with_reducible repeat (first|apply ra_|apply rb_|apply rc_));exact HO_8.out))) (keep_size (w:=w) (g:=g) (row:=none) (by repeat (first|(with_reducible first|exact HK.out|apply KeepBut.set_|apply keep_drewN|apply keep_drew|apply keep_alloc)|exact HK.out))))
               have n3_:=ak_ (IsS53.below (by repeat (first|(with_reducible first|exact HI0.out|apply IsS53.alloc|apply IsS53.drewN|apply IsS53.drew)|exact HI0.out)) hb)
               have n4_:=ak_ (KeepBut.trans (by repeat (first|(with_reducible first|exact HK.out|apply KeepBut.set_|apply keep_drewN|apply keep_drew|apply keep_alloc)|exact HK.out)) (KeepBut.of_below hb g none) (.inl rfl))
               have n5_:=ak_ (below_step (by repeat (first|(with_reducible first|exact HB.out|apply ba_|apply bb_|apply bc_|refine below_set ?_ (IsS53.ge HI0.out))|exact HB.out)) hb)
               clear HO_8
               clear HO_11
               clear HI0
               clear HK
               clear HB
               have HO_8:=n0_
               have HO_11:=n1_
               have HO167:=n2_
               have HI0:=n3_
               have HK:=n4_
               have HB:=n5_
               clear n0_ n1_ n2_ n3_ n4_ n5_
               (try clear hb)
               (try clear ho0)
               have p28 : 0 ≤ (x64_3 : Int):=of_decide_eq_true (by first|(with_reducible assumption)|assumption)
               have q28 : (x64_3 : Int) < ((x11_3.length : Int) : Int):=of_decide_eq_true (by first|(with_reducible assumption)|assumption)
               obtain ⟨go28,co28,eo28,gb28,gl28,cl28,HG28⟩:=Kd.N_form HO_11.out (by omega)
               (first|cases eo28|(injection eo28 with ea_ en_ ec_;(first|subst ea_|(injection ea_ with ea_;subst ea_));subst ec_;clear en_))
               have GB28:=ak_ gb28
               have GG28:=ak_ HG28
               clear gb28 gl28 HG28
               obtain ⟨ce28,hcl28,hM28,hcc28,hfr28⟩:=Kd.N_elem HO_11.out [] (x64_3 : Int) p28 q28
               obtain ⟨ua28_0,uc28_0,rfl,ul28_0,ge28_0⟩:=Kd.FK_slice_open hM28
               have hx28_0:=hcc28 0 _ rfl
               have hf28_0:=hfr28 0
               (try simp only [show ((Kd.slice 2 (Kd.int .i64))).sz = 1 from rfl,Nat.mul_one,Nat.add_zero] at hx28_0)
               (try simp only [show ((Kd.slice 2 (Kd.int .i64))).sz = 1 from rfl,Nat.mul_one,Nat.add_zero] at hf28_0)
               clear hcl28 hcc28 hfr28 hM28
               replace p28:=eq_true p28
               replace q28:=eq_true q28
               have HN0_go28:=ak_ (show g ≠ go28 from by have h_:=IsS53.own_neN HI0.out HO_11.out (by decide);intro e_;exact h_ (by rw [e_];rfl))
               have HX31:=ak_ (show Kd.N (Kd.slice 2 (Kd.int .i64)) 27 _ w.heap.size (fun k_ => some k_ ≠ (u8 : Value).ownBlock ∧ some k_ ≠ (v166 : Value).ownBlock ∧ k_ ≠ g) (.slice (some ⟨go28,0,none⟩) x11_3.length co23) x11_3 from (Kd.N_mono (HO_11.out) (fun k_ hk => ⟨hk.1.1,⟨hk.2,hk.1.2⟩⟩)))
               replace HX31:=ak_ (show Kd.N (Kd.slice 2 (Kd.int .i64)) 27 _ w.heap.size (fun k_ => some k_ ≠ (u8 : Value).ownBlock ∧ k_ ≠ g) (.slice (some ⟨go28,0,none⟩) x11_3.length co23) x11_3 from Kd.N_mono HX31.out (fun k_ hk => ⟨hk.1,hk.2.2⟩))
               obtain ⟨ce31,hcl31,hM31,hcc31,hfr31⟩:=Kd.N_elem HX31.out [] (x64_3 : Int) (of_decide_eq_true (by first|(with_reducible assumption)|assumption)) (by have h_ : (x64_3 : Int) < ((x11_3.length : Int) : Int):=of_decide_eq_true (by first|(with_reducible assumption)|assumption);first|exact h_|(have e_:=(Kd.N_reads' HO_11.out).1;omega)|simpa using h_)
               obtain ⟨ua31_0,uc31_0,rfl,ul31_0,ge31_0⟩:=Kd.FK_slice_open hM31
               have HP31:=(Kd.N_seg HX31.out (x64_3 : Int) (of_decide_eq_true (by first|(with_reducible assumption)|assumption)) (by have h_ : (x64_3 : Int) < ((x11_3.length : Int) : Int):=of_decide_eq_true (by first|(with_reducible assumption)|assumption);first|exact h_|(have e_:=(Kd.N_reads' HO_11.out).1;omega)|simpa using h_) (seg:=[v166]) (j:=0) hcl31 hcc31 (show 1 ≤ 1 from by decide) (x':=t165) (FK_slice_mkR (Kd.R_mono (ok':=(fun k_ => ((fun k_ => some k_ ≠ (u8 : Value).ownBlock ∧ k_ ≠ g)) k_ ∧ k_ ≠ go28)) (IsS53.apart HI0.out (Kd.R_apart' (HO167.out) (Kd.N_typed HO_11.out) (by decide)) (by decide)) (fun k_ hk => ⟨⟨hk.1.1.2,hk.2⟩,fun e_ => (hk.1.2) (by rw [e_];rfl)⟩))) (fun _ hk => hk)).1
               (try simp only [show ((Kd.slice 2 (Kd.int .i64))).sz = 1 from rfl,Nat.mul_one,Nat.add_zero] at HP31)
               rw [← Ny168.out] at HP31
               have HQ31:=ak_ HP31
               clear hcl31 hcc31 hfr31 hM31 HP31
               refine hK.out _ _ ⟨(blk_cell (ak_ HI0.out.1).out 0).trans rfl,(blk_cell (ak_ HI0.out.1).out 1).trans rfl⟩ (fun hHeld => ?_)
               clear hK K
               refine norm_ (a':=?_) ?_ ?_
               rotate_left
               ·show Act.put _ (some 78) _ = _
                simp only [Act.put,List.setIfInBounds_toArray,List.set_cons_zero,List.set_cons_succ,i64_w,i32_w]
                rfl
               refine pure_ (i:=12) (N:=some 79) (v:=?_) (a':=?_) #[true,true,true,true,true,true,true,true,true,true,true,true,true,false] rfl rfl (any_of HT_.out (by kernel_rfl)) (fun _ _ _ h => h) (Or.inl ⟨by rfl,?_⟩) ?_ ?_
               rotate_left
               ·intro w'
                go_simp
                with_reducible rfl
               rotate_left
               ·simp only [Act.put,List.setIfInBounds_toArray,List.set_cons_zero,List.set_cons_succ,i64_w,i32_w]
                rfl
               refine last_ (i:=13) (N:=none) #[true,true,true,true,true,true,true,true,true,true,true,true,true,true] rfl rfl (one_of HT_.out (by kernel_rfl)) (by decide) (fun K hK => ?_)
               refine skip_ (w1:=?_) (by rfl) rfl ?_ ?_
               rotate_left
               ·obtain ⟨av_,cv_,hv_⟩:=Kd.R_slice HO167.out
                rw [hv_]
                go_simp
                rw [← hv_]
                (try rfl)
               refine hK.out _ _ ?_
               clear hK K
               refine done_ (done_of HT_.out (by kernel_rfl)) ?_
               try go_wp2
               (try simp only [← hl11_3])
               go_roundg k3
               case measure => have:=HJ3.out;have:=HK2.out;have:=HK3.out;omega
               case rel => exact ⟨(y168),(wrap64 (x64_3 + 1)),(by first|rfl|(simp;done)|(simp [*];done)),H',⟨by have:=HJ3.out;have:=HK2.out;have:=HK3.out;omega⟩,⟨by (try simp only [hl11_3]);(with_reducible repeat (first|apply ra_|apply rb_|apply rc_));exact Kd.R_mono (Kd.R_far (p:=⟨go28,(x64_3 : Int).toNat,none⟩) (Kd.R_types HO_8.out GG28.out (by decide)) (fun _ hk => hk.2) (v166)) (fun _ hk => trivial)⟩,⟨by (try simp only [hl11_3]);(with_reducible repeat (first|apply Kd.N_alloc|apply Kd.N_drewN|apply Kd.N_drew));exact HQ31.out⟩,⟨by repeat (first|(with_reducible first|exact HI0.out|apply IsS53.alloc|apply IsS53.drewN|apply IsS53.drew|refine IsS53.far ?_ HN0_go28.out _)|exact HI0.out)⟩,⟨by repeat (first|(with_reducible first|exact HK.out|apply KeepBut.set_|apply keep_drewN|apply keep_drew|apply keep_alloc|refine keep_far ?_ GB28.out _)|exact HK.out)⟩,⟨by repeat (first|(with_reducible first|exact HB.out|apply ba_|apply bb_|apply bc_|refine below_set ?_ (Nat.le_trans HL.out GB28.out)|refine below_set ?_ (IsS53.ge HI0.out))|exact HB.out)⟩⟩
              ·rw [if_neg c27] at H
               exact absurd H (by simp)
             ·rw [if_neg c26] at H
              exact absurd H (by simp)
            ·rw [if_neg c24] at H
             have c24b0:=decide_eq_false c24
             (try (have c24h0:=c24b0;simp only [hl11_3] at c24h0))
             clear c24
             by_cases c32 : t149 = 0
             ·rw [if_pos c32] at H
              exact absurd H (by simp)
             ·rw [if_neg c32] at H
              have c32b0 : (t149 == 0) = false:=beq_eq_false_iff_ne.mpr c32
              have c32b1 : (t149 != 0) = true:=bne_iff_ne.mpr c32
              (try (have c32h0:=c32b0;simp only [hl11_3] at c32h0))
              (try (have c32h1:=c32b1;simp only [hl11_3] at c32h1))
              obtain ⟨ji33,hji33⟩ : ∃ j_ : Int,(wrap64 (Int.tdiv (wrap64 (t148 * (l1.length : Int))) t149)) = j_:=⟨_,rfl⟩
              replace H : (if 0 ≤ (ji33) then (if (ji33 : Int).toNat ≤ 35184372088832 then ((some (List.replicate (ji33 : Int).toNat 0 : List Int)).bind fun y169 => (resamp_Sampler_Run.l2 k3 t148 t149 x8_2 x11_3 y169 (y169.length : Int) 0 s0_0 s0_1 s0_2)) else (none)) else (none)) = some (r1,r2,r3,r4,r5):=by first|(rw [hji33] at H;exact H)|(simp only [hji33] at H ⊢;exact H)
              have hji33w : (IntKind.i64.wrap (Int.tdiv (wrap64 (t148 * (l1.length : Int))) t149)) = ji33:=(i64_w _).trans hji33
              by_cases c34 : 0 ≤ (ji33)
              ·rw [if_pos c34] at H
               have c34b0:=eq_true c34
               have c34b1 : decide (0 ≤ (ji33)) = true:=decide_eq_true c34
               clear c34
               by_cases c35 : (ji33 : Int).toNat ≤ 35184372088832
               ·rw [if_pos c35] at H
                have c35b0:=eq_true c35
                have c35b1 : decide ((ji33 : Int).toNat ≤ 35184372088832) = true:=decide_eq_true c35
                clear c35
                obtain ⟨y169,hy169⟩ : ∃ y_ : List Int,y_ = (List.replicate (ji33 : Int).toNat 0):=⟨_,rfl⟩
                replace H : (resamp_Sampler_Run.l2 k3 t148 t149 x8_2 x11_3 y169 (y169.length : Int) 0 s0_0 s0_1 s0_2) = some (r1,r2,r3,r4,r5):=by first|(rw [hy169];with_reducible exact H)|(have H2_:=(Option.bind_some _ _).symm.trans H;rw [hy169];with_reducible exact H2_)|(have H2_:=(Option.bind_some _ _).symm.trans H;with_reducible exact H2_)|with_reducible exact H|(rw [hy169];exact H)|exact H
                have Ny169:=ak_ hy169
                clear hy169
                have H':=ak_ H
                clear H
                go_wp2_with (first|((with_reducible refine gate_dst (N:=87) rfl ?_);(try (refine gate_guard (by rfl) ?_;dsimp only));refine Kd.R_make (Kd.int .i64) _ 2 rfl (N:=87) rfl 27 _ _ rfl ji33 rfl rfl Try.underlying27 (.int .i64 0) 8 info2 rfl (by decide) (by omega) 0 (ok:=fun _ => True) (okp:=fun _ => True) rfl (fun _ hk => hk) trivial (of_decide_eq_true (by first|(with_reducible assumption)|assumption)) (Nat.le_trans (Nat.mul_le_mul_right _ (of_decide_eq_true (by first|(with_reducible assumption)|assumption) : ji33.toNat ≤ 35184372088832)) (by omega)) (Below.refl _ _) (Nat.le_refl _) ?_;intro v170 w36 ho37 hb hg_ hnew_;clear hg_ hnew_;(first|rw [← Ny169.out] at ho37|(simp only [Int.reduceToNat] at ho37;rw [← Ny169.out] at ho37));have n0_:=ak_ (Kd.R_elder' (by (with_reducible repeat (first|apply ra_|apply rb_|apply rc_));exact HO_8.out) (Kd.R_base ho37) hb);have n1_:=ak_ (Kd.N_elder' (by (with_reducible repeat (first|apply Kd.N_alloc|apply Kd.N_drewN|apply Kd.N_drew));exact HO_11.out) (Kd.R_base ho37) hb);have n2_:=ak_ (Kd.R_lower (Kd.R_new' ho37 (Kd.R_lt (by (with_reducible repeat (first|apply ra_|apply rb_|apply rc_));exact HO_8.out))) (keep_size (w:=w) (g:=g) (row:=none) (by repeat (first|(with_reducible first|exact HK.out|apply KeepBut.set_|apply keep_drewN|apply keep_drew|apply keep_alloc)|exact HK.out))));have n3_:=ak_ (IsS53.below (by repeat (first|(with_reducible first|exact HI0.out|apply IsS53.alloc|apply IsS53.drewN|apply IsS53.drew)|exact HI0.out)) hb);have n4_:=ak_ (KeepBut.trans (by repeat (first|(with_reducible first|exact HK.out|apply KeepBut.set_|apply keep_drewN|apply keep_drew|apply keep_alloc)|exact HK.out)) (KeepBut.of_below hb g none) (.inl rfl));have n5_:=ak_ (below_step (by repeat (first|(with_reducible first|exact HB.out|apply ba_|apply bb_|apply bc_|refine below_set ?_ (IsS53.ge HI0.out))|exact HB.out)) hb);clear HO_8;clear HO_11;clear HI0;clear HK;clear HB;have HO_8:=n0_;have HO_11:=n1_;have HO171:=n2_;have HI0:=n3_;have HK:=n4_;have HB:=n5_;clear n0_ n1_ n2_ n3_ n4_ n5_;clear hb ho37;obtain ⟨Ao38,co38,eo38⟩:=Kd.R_slice HO171.out;subst eo38))
                go_loopg [90] k3 (fun kq v90 w' => ∃ (x13_4 : List Int) (x90_4 : Int),v90 = .int .i64 x90_4 ∧ Aside0 (resamp_Sampler_Run.l2 kq t148 t149 x8_2 x11_3 x13_4 (y169.length : Int) x90_4 s0_0 s0_1 s0_2 = some (r1,r2,r3,r4,r5)) ∧ Aside0 (kq ≤ k3) ∧ Aside0 (Kd.R (Kd.int .i64) 2 w' w.heap.size (fun k_ => some k_ ≠ ((.slice Ao38 y169.length co38) : Value).ownBlock) u8 x8_2) ∧ Aside0 (Kd.N (Kd.slice 2 (Kd.int .i64)) 27 w' w.heap.size (fun k_ => some k_ ≠ (u8 : Value).ownBlock ∧ some k_ ≠ ((.slice Ao38 y169.length co38) : Value).ownBlock ∧ k_ ≠ g) (.slice Ao23 x11_3.length co23) x11_3) ∧ Aside0 (Kd.R (Kd.int .i64) 2 w' w.heap.size (fun k_ => some k_ ≠ (u8 : Value).ownBlock) (.slice Ao38 y169.length co38) x13_4) ∧ Aside0 (IsS53 w0 w' g s0_0 s0_1 s0_2) ∧ Aside0 (KeepBut w w' g none) ∧ Aside0 (Below w0.heap.size w0 w'))
                case atStart => exact ⟨(y169),(0),(by first|rfl|(simp;done)|(simp [*];done)),H',⟨Nat.le_refl _⟩,⟨by (try simp only [hl11_3]);(with_reducible repeat (first|apply ra_|apply rb_|apply rc_));exact Kd.R_mono HO_8.out (fun _ hk => hk.2)⟩,⟨by (try simp only [hl11_3]);(with_reducible repeat (first|apply Kd.N_alloc|apply Kd.N_drewN|apply Kd.N_drew));exact Kd.N_mono HO_11.out (fun _ hk => ⟨hk.1.1,⟨hk.2,hk.1.2⟩⟩)⟩,⟨by (try simp only [hl11_3]);(with_reducible repeat (first|apply ra_|apply rb_|apply rc_));exact Kd.R_mono HO171.out (fun _ hk => hk.2)⟩,⟨by repeat (first|(with_reducible first|exact HI0.out|apply IsS53.alloc|apply IsS53.drewN|apply IsS53.drew)|exact HI0.out)⟩,⟨by repeat (first|(with_reducible first|exact HK.out|apply KeepBut.set_|apply keep_drewN|apply keep_drew|apply keep_alloc)|exact HK.out)⟩,⟨by repeat (first|(with_reducible first|exact HB.out|apply ba_|apply bb_|apply bc_|refine below_set ?_ (IsS53.ge HI0.out))|exact HB.out)⟩⟩
                case round => as_aux_lemma =>
                 clear H'
                 try clear c1
                 try clear p1
                 try clear q1
                 try clear hx1
                 try clear c2
                 try clear p2
                 try clear q2
                 try clear hx2
                 try clear hf2
                 try clear c3
                 try clear c6
                 try clear c6b0
                 try clear c6b1
                 try clear p6
                 try clear c7
                 try clear c7b0
                 try clear c7b1
                 try clear c8
                 try clear c9
                 try clear c13
                 try clear c13b0
                 try clear c14
                 try clear c14b0
                 try clear c15
                 try clear c15b0
                 try clear p15
                 try clear q15
                 try clear hx15
                 try clear c17
                 try clear c19
                 try clear c19b0
                 try clear c19b1
                 try clear c20
                 try clear c20b0
                 try clear c20b1
                 try clear c24
                 try clear c24b0
                 try clear c24h0
                 try clear c26
                 try clear c26b0
                 try clear c26h0
                 try clear c27
                 try clear c27b0
                 try clear c27h0
                 try clear c28
                 try clear p28
                 try clear q28
                 try clear hx28
                 try clear hf28
                 try clear c31
                 try clear c32
                 try clear c32b0
                 try clear c32b1
                 try clear c32h0
                 try clear c32h1
                 try clear c34
                 try clear c34b0
                 try clear c34b1
                 try clear c35
                 try clear c35b0
                 try clear c35b1
                 try clear hx157_0
                 try clear hx28_0
                 try clear p1
                 try clear p15
                 try clear p157
                 try clear p2
                 try clear p28
                 try clear p6
                 try clear q1
                 try clear q15
                 try clear q157
                 try clear q28
                 obtain ⟨x13_4,x90_4,rfl,HA,HK4,HO_8,HO_11,HO_13,HI0,HK,HB⟩:=hrel
                 (try simp only [i64_w,i32_w])
                 have hl13_4:=(Kd.R_reads' HO_13.out).1
                 rw [hl13_4] at HO_13
                 (try simp only [hl13_4])
                 (try simp only [hl13_4] at HO_8)
                 (try simp only [hl13_4] at HO_11)
                 cases gk with
                 | zero => exact absurd HA.out (by simp [resamp_Sampler_Run.l2])
                 | succ k4 =>
                  have H:=HA.out
                  clear HA
                  simp only [resamp_Sampler_Run.l2] at H
                  by_cases c39 : x90_4 < (y169.length : Int)
                  ·rw [if_pos c39] at H
                   have c39b0:=decide_eq_true c39
                   (try (have c39h0:=c39b0;simp only [hl11_3,hl13_4] at c39h0))
                   clear c39
                   by_cases c40 : t148 = 0
                   ·rw [if_pos c40] at H
                    exact absurd H (by simp)
                   ·rw [if_neg c40] at H
                    have c40b0 : (t148 == 0) = false:=beq_eq_false_iff_ne.mpr c40
                    have c40b1 : (t148 != 0) = true:=bne_iff_ne.mpr c40
                    (try (have c40h0:=c40b0;simp only [hl11_3,hl13_4] at c40h0))
                    (try (have c40h1:=c40b1;simp only [hl11_3,hl13_4] at c40h1))
                    obtain ⟨ji41,hji41⟩ : ∃ j_ : Int,(Int.tmod (wrap64 (x90_4 * t149)) t148) = j_:=⟨_,rfl⟩
                    replace H : (if 0 ≤ (ji41) then (if (ji41) < (x11_3.length : Int) then (resamp_Sampler_Run.l3 k4 t148 t149 x8_2 x11_3 x13_4 x90_4 (wrap64 (Int.tdiv (wrap64 (x90_4 * t149)) t148)) 16384 (y169.length : Int) x90_4 (rd_L1 x11_3 (ji41)) ((rd_L1 x11_3 (ji41)).length : Int) 0 s0_0 s0_1 s0_2) else (none)) else (none)) = some (r1,r2,r3,r4,r5):=by first|(rw [hji41] at H;exact H)|(simp only [hji41] at H ⊢;exact H)
                    by_cases c42 : 0 ≤ (ji41)
                    ·rw [if_pos c42] at H
                     have c42b0:=decide_eq_true c42
                     (try (have c42h0:=c42b0;simp only [hl11_3,hl13_4] at c42h0))
                     clear c42
                     by_cases c43 : (ji41) < (x11_3.length : Int)
                     ·rw [if_pos c43] at H
                      have c43b0:=decide_eq_true c43
                      (try (have c43h0:=c43b0;simp only [hl11_3,hl13_4] at c43h0))
                      clear c43
                      have H':=ak_ H
                      clear H
                      try go_wp2
                      have n0_:=ak_ (Kd.R_drew HO_8.out)
                      have n1_:=ak_ (Kd.N_drew HO_11.out)
                      have n2_:=ak_ (Kd.R_drew HO_13.out)
                      have n3_:=ak_ (IsS53.drew HI0.out)
                      have n4_:=ak_ (keep_drew HK.out)
                      have n5_:=ak_ (below_drew1 HB.out)
                      clear HO_8
                      clear HO_11
                      clear HO_13
                      clear HI0
                      clear HK
                      clear HB
                      have HO_8:=n0_
                      have HO_11:=n1_
                      have HO_13:=n2_
                      have HI0:=n3_
                      have HK:=n4_
                      have HB:=n5_
                      clear n0_ n1_ n2_ n3_ n4_ n5_
                      refine start_ (n:=12) (S:=fun w' => True) (ds:=[]) #[false,false,false,false,false,false,false,false,false,false,false,false] (by kernel_rfl) rfl rfl trivial (fun hHeld => ?_);refine with_tabW resamp_Sampler_Run.tab20 resamp_Sampler_Run.bits20 (fun HT_ HW_ => ?_)
                      generalize wr.drew = w44 at HO_8 HO_11 HO_13 HI0 HK HB hHeld ⊢
                      refine pure_ (i:=0) (N:=some 93) (v:=?_) (a':=?_) #[true,false,false,false,false,false,false,false,false,false,false,false] rfl rfl (any_of HT_.out (by kernel_rfl)) (fun _ _ _ h => h) (Or.inl ⟨by rfl,?_⟩) ?_ ?_
                      rotate_left
                      ·intro w'
                       go_simp
                       with_reducible rfl
                      rotate_left
                      ·simp only [Act.put,List.setIfInBounds_toArray,List.set_cons_zero,List.set_cons_succ,i64_w,i32_w]
                       rfl
                      refine pure_ (i:=1) (N:=some 94) (v:=?_) (a':=?_) #[true,true,false,false,false,false,false,false,false,false,false,false] rfl rfl (any_of HT_.out (by kernel_rfl)) (fun _ _ _ h => h) (Or.inl ⟨by rfl,?_⟩) ?_ ?_
                      rotate_left
                      ·intro w'
                       go_simp
                       with_reducible rfl
                      rotate_left
                      ·simp only [Act.put,List.setIfInBounds_toArray,List.set_cons_zero,List.set_cons_succ,i64_w,i32_w]
                       rfl
                      refine pure_ (i:=2) (N:=some 95) (v:=?_) (a':=?_) #[true,true,true,false,false,false,false,false,false,false,false,false] rfl rfl (any_of HT_.out (by kernel_rfl)) (fun _ _ _ h => h) (Or.inl ⟨by rfl,?_⟩) ?_ ?_
                      rotate_left
                      ·intro w'
                       go_simp
                       with_reducible rfl
                      rotate_left
                      ·simp only [Act.put,List.setIfInBounds_toArray,List.set_cons_zero,List.set_cons_succ,i64_w,i32_w]
                       rfl
                      refine pure_ (i:=3) (N:=some 96) (v:=?_) (a':=?_) #[true,true,true,true,false,false,false,false,false,false,false,false] rfl rfl (any_of HT_.out (by kernel_rfl)) (fun _ _ _ h => h) (Or.inl ⟨by rfl,?_⟩) ?_ ?_
                      rotate_left
                      ·intro w'
                       go_simp
                       with_reducible rfl
                      rotate_left
                      ·simp only [Act.put,List.setIfInBounds_toArray,List.set_cons_zero,List.set_cons_succ,i64_w,i32_w]
                       rfl
                      refine pure_ (i:=4) (N:=some 97) (v:=?_) (a':=?_) #[true,true,true,true,true,false,false,false,false,false,false,false] rfl rfl (any_of HT_.out (by kernel_rfl)) (fun _ _ _ h => h) (Or.inl ⟨by rfl,?_⟩) ?_ ?_
                      rotate_left
                      ·intro w'
                       go_simp
                       with_reducible rfl
                      rotate_left
                      ·simp only [Act.put,List.setIfInBounds_toArray,List.set_cons_zero,List.set_cons_succ,i64_w,i32_w]
                       rfl
                      refine pure_ (i:=5) (N:=some 98) (v:=?_) (a':=?_) #[true,true,true,true,true,true,false,false,false,false,false,false] rfl rfl (any_of HT_.out (by kernel_rfl)) (fun _ _ _ h => h) (Or.inl ⟨by rfl,?_⟩) ?_ ?_
                      rotate_left
                      ·intro w'
                       go_simp
                       with_reducible rfl
                      rotate_left
                      ·simp only [Act.put,List.setIfInBounds_toArray,List.set_cons_zero,List.set_cons_succ,i64_w,i32_w]
                       rfl
                      refine pure_ (i:=6) (N:=some 99) (v:=?_) (a':=?_) #[true,true,true,true,true,true,true,false,false,false,false,false] rfl rfl (any_of HT_.out (by kernel_rfl)) (fun _ _ _ h => h) (Or.inl ⟨by rfl,?_⟩) ?_ ?_
                      rotate_left
                      ·intro w'
                       go_simp
                       with_reducible rfl
                      rotate_left
                      ·simp only [Act.put,List.setIfInBounds_toArray,List.set_cons_zero,List.set_cons_succ,i64_w,i32_w]
                       rfl
                      refine pure_ (i:=7) (N:=some 100) (v:=?_) (a':=?_) #[true,true,true,true,true,true,true,true,false,false,false,false] rfl rfl (any_of HT_.out (by kernel_rfl)) (fun _ _ _ h => h) (Or.inl ⟨by rfl,?_⟩) ?_ ?_
                      rotate_left
                      ·intro w'
                       go_simp
                       with_reducible rfl
                      rotate_left
                      ·simp only [Act.put,List.setIfInBounds_toArray,List.set_cons_zero,List.set_cons_succ,i64_w,i32_w]
                       rfl
                      refine pure_ (i:=8) (N:=some 101) (v:=?_) (a':=?_) #[true,true,true,true,true,true,true,true,true,false,false,false] rfl rfl (any_of HT_.out (by kernel_rfl)) (fun _ _ _ h => h) (Or.inl ⟨by rfl,?_⟩) ?_ ?_
                      rotate_left
                      ·intro w'
                       go_simp
                       with_reducible rfl
                      rotate_left
                      ·simp only [Act.put,List.setIfInBounds_toArray,List.set_cons_zero,List.set_cons_succ,i64_w,i32_w]
                       rfl
                      refine pure_ (i:=9) (N:=some 102) (v:=?_) (a':=?_) #[true,true,true,true,true,true,true,true,true,true,false,false] rfl rfl (any_of HT_.out (by kernel_rfl)) (fun _ _ _ h => h) (Or.inl ⟨by rfl,?_⟩) ?_ ?_
                      rotate_left
                      ·intro w'
                       go_simp
                       with_reducible rfl
                      rotate_left
                      ·simp only [Act.put,List.setIfInBounds_toArray,List.set_cons_zero,List.set_cons_succ,i64_w,i32_w]
                       rfl
                      refine pure_ (i:=10) (N:=some 15) (v:=?_) (a':=?_) #[true,true,true,true,true,true,true,true,true,true,true,false] rfl rfl (any_of HT_.out (by kernel_rfl)) (fun _ _ _ h => h) (Or.inl ⟨by rfl,?_⟩) ?_ ?_
                      rotate_left
                      ·intro w'
                       go_simp
                       with_reducible rfl
                      rotate_left
                      ·simp only [Act.put,List.setIfInBounds_toArray,List.set_cons_zero,List.set_cons_succ,i64_w,i32_w]
                       rfl
                      refine pure_ (i:=11) (N:=some 16) (v:=?_) (a':=?_) #[true,true,true,true,true,true,true,true,true,true,true,true] rfl rfl (any_of HT_.out (by kernel_rfl)) (fun _ _ _ h => h) (Or.inl ⟨by rfl,?_⟩) ?_ ?_
                      rotate_left
                      ·intro w'
                       go_simp
                       with_reducible rfl
                      rotate_left
                      ·simp only [Act.put,List.setIfInBounds_toArray,List.set_cons_zero,List.set_cons_succ,i64_w,i32_w]
                       rfl
                      refine done_ (done_of HT_.out (by kernel_rfl)) ?_
                      have p178 : 0 ≤ ((ji41) : Int):=of_decide_eq_true (by first|(with_reducible assumption)|assumption)
                      have q178 : (ji41) < (x11_3.length : Int):=of_decide_eq_true (by first|(with_reducible assumption)|assumption)
                      obtain ⟨ad178,A178_0,c178_0,e178,hx178_0,hl178_0,hi178_0⟩:=at_L1 (Kd.N_reads' HO_11.out).2.2 (ji41) p178 q178
                      cases e178
                      obtain ⟨ce178,hce178,hMe178,hcc178⟩:=Kd.N_get HO_11.out [] (ji41) p178 (by first|exact q178|exact of_decide_eq_true (by first|(with_reducible assumption)|assumption)|(have e_:=(Kd.N_reads' HO_11.out).1;omega))
                      obtain ⟨ua178_0,uc178_0,rfl,ul178_0,ge178_0⟩:=Kd.FK_slice_open hMe178
                      have hv178_0:=hcc178 0 _ rfl
                      rw [Nat.add_zero,show ((Kd.slice 2 (Kd.int .i64))).sz = 1 from rfl,Nat.mul_one] at hv178_0
                      replace hv178_0:=Option.some.inj (hv178_0.symm.trans hx178_0)
                      injection hv178_0 with hva_ hvn_ hvc_
                      rw [hva_] at ge178_0
                      rw [hvc_] at ul178_0
                      have HL178_0:=ak_ (show Kd.V (Kd.int .i64) 2 _ w.heap.size _ _ (rd_L1 x11_3 (ji41)) from Kd.V_mk ul178_0 ge178_0)
                      clear hva_ hvn_ hvc_ ge178_0 ul178_0
                      clear hcc178 hce178
                      have HR178_0:=ak_ hi178_0
                      have HC178_0:=ak_ hl178_0
                      clear hi178_0 hl178_0
                      replace p178:=eq_true p178
                      replace q178:=eq_true q178
                      try go_wp2
                      go_loopg [17,108] k4 (fun kq v17 v108 w' => ∃ (x17_5 : Int) (x108_5 : Int),v17 = .int .i64 x17_5 ∧ v108 = .int .i64 x108_5 ∧ Aside0 (resamp_Sampler_Run.l3 kq t148 t149 x8_2 x11_3 x13_4 x90_4 (wrap64 (Int.tdiv (wrap64 (x90_4 * t149)) t148)) x17_5 (y169.length : Int) x90_4 (rd_L1 x11_3 (ji41)) ((rd_L1 x11_3 (ji41)).length : Int) x108_5 s0_0 s0_1 s0_2 = some (r1,r2,r3,r4,r5)) ∧ Aside0 (kq ≤ k4) ∧ Aside0 (Kd.R (Kd.int .i64) 2 w' w.heap.size (fun k_ => some k_ ≠ ((.slice Ao38 x13_4.length co38) : Value).ownBlock) u8 x8_2) ∧ Aside0 (Kd.N (Kd.slice 2 (Kd.int .i64)) 27 w' w.heap.size (fun k_ => some k_ ≠ (u8 : Value).ownBlock ∧ some k_ ≠ ((.slice Ao38 x13_4.length co38) : Value).ownBlock ∧ k_ ≠ g) (.slice (some ad178) x11_3.length co23) x11_3) ∧ Aside0 (Kd.R (Kd.int .i64) 2 w' w.heap.size (fun k_ => some k_ ≠ (u8 : Value).ownBlock) (.slice Ao38 x13_4.length co38) x13_4) ∧ Aside0 (Kd.C (Kd.int .i64) w' A178_0 (rd_L1 x11_3 (ji41)).length (rd_L1 x11_3 (ji41))) ∧ Aside0 (IsS53 w0 w' g s0_0 s0_1 s0_2) ∧ Aside0 (KeepBut w w' g none) ∧ Aside0 (Below w0.heap.size w0 w'))
                      case atStart => exact ⟨(16384),(0),(by first|rfl|(simp;done)|(simp [*];done)),(by first|rfl|(simp;done)|(simp [*];done)),H',⟨Nat.le_refl _⟩,⟨by (try simp only [hl11_3]);(try simp only [hl13_4]);(with_reducible repeat (first|apply ra_|apply rb_|apply rc_));exact HO_8.out⟩,⟨by (try simp only [hl11_3]);(try simp only [hl13_4]);(with_reducible repeat (first|apply Kd.N_alloc|apply Kd.N_drewN|apply Kd.N_drew));exact HO_11.out⟩,⟨by (try simp only [hl11_3]);(try simp only [hl13_4]);(with_reducible repeat (first|apply ra_|apply rb_|apply rc_));exact HO_13.out⟩,⟨by repeat (first|(with_reducible exact HR178_0.out)|(with_reducible refine Kd.C_alloc ?_ _)|(with_reducible refine Kd.C_drewN ?_ _)|(with_reducible refine Kd.C_drew ?_)|exact HR178_0.out)⟩,⟨by repeat (first|(with_reducible first|exact HI0.out|apply IsS53.alloc|apply IsS53.drewN|apply IsS53.drew)|exact HI0.out)⟩,⟨by repeat (first|(with_reducible first|exact HK.out|apply KeepBut.set_|apply keep_drewN|apply keep_drew|apply keep_alloc)|exact HK.out)⟩,⟨by repeat (first|(with_reducible first|exact HB.out|apply ba_|apply bb_|apply bc_|refine below_set ?_ (IsS53.ge HI0.out))|exact HB.out)⟩⟩
                      case round => as_aux_lemma =>
                       clear H'
                       try clear c1
                       try clear p1
                       try clear q1
                       try clear hx1
                       try clear c2
                       try clear p2
                       try clear q2
                       try clear hx2
                       try clear hf2
                       try clear c3
                       try clear c4
                       try clear c6
                       try clear c6b0
                       try clear c6b1
                       try clear p6
                       try clear c7
                       try clear c7b0
                       try clear c7b1
                       try clear c8
                       try clear c9
                       try clear c13
                       try clear c13b0
                       try clear c14
                       try clear c14b0
                       try clear c15
                       try clear c15b0
                       try clear p15
                       try clear q15
                       try clear hx15
                       try clear c17
                       try clear p17
                       try clear q17
                       try clear hx17
                       try clear c19
                       try clear c19b0
                       try clear c19b1
                       try clear c20
                       try clear c20b0
                       try clear c20b1
                       try clear c24
                       try clear c24b0
                       try clear c24h0
                       try clear c26
                       try clear c26b0
                       try clear c26h0
                       try clear c27
                       try clear c27b0
                       try clear c27h0
                       try clear c28
                       try clear p28
                       try clear q28
                       try clear hx28
                       try clear hf28
                       try clear c31
                       try clear c32
                       try clear c32b0
                       try clear c32b1
                       try clear c32h0
                       try clear c32h1
                       try clear c34
                       try clear c34b0
                       try clear c34b1
                       try clear c35
                       try clear c35b0
                       try clear c35b1
                       try clear c39
                       try clear c39b0
                       try clear c39h0
                       try clear c40
                       try clear c40b0
                       try clear c40b1
                       try clear c40h0
                       try clear c40h1
                       try clear c42
                       try clear c42b0
                       try clear c42h0
                       try clear c43
                       try clear c43b0
                       try clear c43h0
                       try clear hx157_0
                       try clear hx178_0
                       try clear hx28_0
                       try clear p1
                       try clear p15
                       try clear p157
                       try clear p178
                       try clear p2
                       try clear p28
                       try clear p6
                       try clear q1
                       try clear q15
                       try clear q157
                       try clear q178
                       try clear q2
                       try clear q28
                       obtain ⟨x17_5,x108_5,rfl,rfl,HA,HK5,HO_8,HO_11,HO_13,HR178_0,HI0,HK,HB⟩:=hrel
                       (try simp only [i64_w,i32_w])
                       cases gk with
                       | zero => exact absurd HA.out (by simp [resamp_Sampler_Run.l3])
                       | succ k5 =>
                        have H:=HA.out
                        clear HA
                        simp only [resamp_Sampler_Run.l3] at H
                        by_cases c45 : x108_5 < ((rd_L1 x11_3 (ji41)).length : Int)
                        ·rw [if_pos c45] at H
                         have c45b0:=decide_eq_true c45
                         (try (have c45h0:=c45b0;simp only [hl11_3,hl13_4] at c45h0))
                         clear c45
                         by_cases c46 : 0 ≤ x108_5
                         ·rw [if_pos c46] at H
                          have c46b0:=decide_eq_true c46
                          (try (have c46h0:=c46b0;simp only [hl11_3,hl13_4] at c46h0))
                          clear c46
                          by_cases c47 : x108_5 < ((rd_L1 x11_3 (ji41)).length : Int)
                          ·rw [if_pos c47] at H
                           have c47b0:=decide_eq_true c47
                           (try (have c47h0:=c47b0;simp only [hl11_3,hl13_4] at c47h0))
                           clear c47
                           obtain ⟨ji48,hji48⟩ : ∃ j_ : Int,(wrap64 ((wrap64 ((wrap64 ((wrap64 (Int.tdiv (wrap64 (x90_4 * t149)) t148)) + 8)) + x108_5)) - 7)) = j_:=⟨_,rfl⟩
                           replace H : (if 0 ≤ (ji48) then (if (ji48) < (x8_2.length : Int) then (resamp_Sampler_Run.l3 k5 t148 t149 x8_2 x11_3 x13_4 x90_4 (wrap64 (Int.tdiv (wrap64 (x90_4 * t149)) t148)) (wrap64 (x17_5 + (wrap64 ((rd (rd_L1 x11_3 (ji41)) x108_5) * (rd x8_2 (ji48)))))) (y169.length : Int) x90_4 (rd_L1 x11_3 (ji41)) ((rd_L1 x11_3 (ji41)).length : Int) (wrap64 (x108_5 + 1)) s0_0 s0_1 s0_2) else (none)) else (none)) = some (r1,r2,r3,r4,r5):=by first|(rw [hji48] at H;exact H)|(simp only [hji48] at H ⊢;exact H)
                           have hji48w : (IntKind.i64.wrap ((wrap64 ((wrap64 ((wrap64 (Int.tdiv (wrap64 (x90_4 * t149)) t148)) + 8)) + x108_5)) - 7)) = ji48:=(i64_w _).trans hji48
                           by_cases c49 : 0 ≤ (ji48)
                           ·rw [if_pos c49] at H
                            have c49b0:=decide_eq_true c49
                            (try (have c49h0:=c49b0;simp only [hl11_3,hl13_4] at c49h0))
                            clear c49
                            by_cases c50 : (ji48) < (x8_2.length : Int)
                            ·rw [if_pos c50] at H
                             have c50b0:=decide_eq_true c50
                             (try (have c50h0:=c50b0;simp only [hl11_3,hl13_4] at c50h0))
                             clear c50
                             have H':=ak_ H
                             clear H
                             have p179 : 0 ≤ (x108_5 : Int):=of_decide_eq_true (by first|(with_reducible assumption)|assumption)
                             have q179 : x108_5 < ((rd_L1 x11_3 (ji41)).length : Int):=of_decide_eq_true (by first|(with_reducible assumption)|assumption)
                             obtain ⟨ad179,e179,hx179_0⟩:=Kd.at_int (by repeat (first|(with_reducible exact HR178_0.out)|(with_reducible refine Kd.C_alloc ?_ _)|(with_reducible refine Kd.C_drewN ?_ _)|(with_reducible refine Kd.C_drew ?_)|exact HR178_0.out)) x108_5 p179 q179
                             cases e179
                             replace p179:=eq_true p179
                             replace q179:=eq_true q179
                             obtain ⟨Ao51,co51,eo51⟩:=Kd.R_slice HO_8.out
                             subst eo51
                             have p180 : 0 ≤ ((ji48) : Int):=of_decide_eq_true (by first|(with_reducible assumption)|assumption)
                             have q180 : (ji48) < (x8_2.length : Int):=of_decide_eq_true (by first|(with_reducible assumption)|assumption)
                             obtain ⟨ad180,e180,hx180_0⟩:=Kd.at_int (Kd.R_reads' HO_8.out).2.2 (ji48) p180 q180
                             cases e180
                             replace p180:=eq_true p180
                             replace q180:=eq_true q180
                             go_wp2
                             go_roundg k5
                             case measure => have:=HJ3.out;have:=HK2.out;have:=HK3.out;have:=HK4.out;have:=HK5.out;omega
                             case rel => exact ⟨(wrap64 (x17_5 + (wrap64 ((rd (rd_L1 x11_3 (ji41)) x108_5) * (rd x8_2 (ji48)))))),(wrap64 (x108_5 + 1)),(by first|rfl|(simp;done)|(simp only [← hji41,← hji48] <;> (first|rfl|simp))|(simp [*];done)),(by first|rfl|(simp;done)|(simp [*];done)),H',⟨by have:=HJ3.out;have:=HK2.out;have:=HK3.out;have:=HK4.out;have:=HK5.out;omega⟩,⟨by (try simp only [hl11_3]);(try simp only [hl13_4]);(with_reducible repeat (first|apply ra_|apply rb_|apply rc_));exact HO_8.out⟩,⟨by (try simp only [hl11_3]);(try simp only [hl13_4]);(with_reducible repeat (first|apply Kd.N_alloc|apply Kd.N_drewN|apply Kd.N_drew));exact HO_11.out⟩,⟨by (try simp only [hl11_3]);(try simp only [hl13_4]);(with_reducible repeat (first|apply ra_|apply rb_|apply rc_));exact HO_13.out⟩,⟨by repeat (first|(with_reducible exact HR178_0.out)|(with_reducible refine Kd.C_alloc ?_ _)|(with_reducible refine Kd.C_drewN ?_ _)|(with_reducible refine Kd.C_drew ?_)|exact HR178_0.out)⟩,⟨by repeat (first|(with_reducible first|exact HI0.out|apply IsS53.alloc|apply IsS53.drewN|apply IsS53.drew)|exact HI0.out)⟩,⟨by repeat (first|(with_reducible first|exact HK.out|apply KeepBut.set_|apply keep_drewN|apply keep_drew|apply keep_alloc)|exact HK.out)⟩,⟨by repeat (first|(with_reducible first|exact HB.out|apply ba_|apply bb_|apply bc_|refine below_set ?_ (IsS53.ge HI0.out))|exact HB.out)⟩⟩
                            ·rw [if_neg c50] at H
                             exact absurd H (by simp)
                           ·rw [if_neg c49] at H
                            exact absurd H (by simp)
                          ·rw [if_neg c47] at H
                           exact absurd H (by simp)
                         ·rw [if_neg c46] at H
                          exact absurd H (by simp)
                        ·rw [if_neg c45] at H
                         have c45b0:=decide_eq_false c45
                         (try (have c45h0:=c45b0;simp only [hl11_3,hl13_4] at c45h0))
                         clear c45
                         replace H:=Option.bind_eq_some_iff.mp H
                         obtain ⟨t181,A520,H⟩:=H
                         (try dsimp only at H)
                         have A52:=ak_ A520
                         clear A520
                         by_cases c53 : 0 ≤ x90_4
                         ·rw [if_pos c53] at H
                          have c53b0:=decide_eq_true c53
                          (try (have c53h0:=c53b0;simp only [hl11_3,hl13_4] at c53h0))
                          clear c53
                          by_cases c54 : x90_4 < (x13_4.length : Int)
                          ·rw [if_pos c54] at H
                           have c54b0:=decide_eq_true c54
                           (try (have c54h0:=c54b0;simp only [hl11_3,hl13_4] at c54h0))
                           clear c54
                           obtain ⟨y182,hy182⟩ : ∃ y_ : List Int,y_ = (x13_4.set (x90_4 : Int).toNat t181):=⟨_,rfl⟩
                           replace H : (resamp_Sampler_Run.l2 k5 t148 t149 x8_2 x11_3 y182 (y169.length : Int) (wrap64 (x90_4 + 1)) s0_0 s0_1 s0_2) = some (r1,r2,r3,r4,r5):=by first|(rw [hy182];with_reducible exact H)|(have H2_:=(Option.bind_some _ _).symm.trans H;rw [hy182];with_reducible exact H2_)|(have H2_:=(Option.bind_some _ _).symm.trans H;with_reducible exact H2_)|with_reducible exact H|(rw [hy182];exact H)|exact H
                           have Ny182:=ak_ hy182
                           clear hy182
                           have H':=ak_ H
                           clear H
                           go_wp2_with (first|((with_reducible refine gate_callee (f:=28) rfl ?_);refine goesL_ (some 130) rfl rfl Try.func28 (by kernel_rfl) rfl #[.int .i64 (x17_5 / 32768)] rfl (by (try simp only [List.map_toArray,List.map_cons,List.map_nil]);first|done|rfl|(simp only [List.length_drop,List.length_take];rfl)) ?_;(with_reducible refine (fix_Sat16.calls k5 (x17_5 / 32768) t181 _ A52.out).mono ?_);rintro e w' ⟨rfl,⟨nd,rfl⟩⟩;refine ⟨_,rfl,?_⟩;(try (rw [drewN_self wr];generalize hq_ : World.drewN wr _ = wr;have n0_ : Aside0 (Kd.N (Kd.slice 2 (Kd.int .i64)) 27 wr w.heap.size (fun k_ => some k_ ≠ (u8 : Value).ownBlock ∧ some k_ ≠ (.slice Ao38 x13_4.length co38 : Value).ownBlock ∧ k_ ≠ g) (.slice (some ad178) x11_3.length co23) x11_3):=⟨by rw [← hq_];exact (by (with_reducible repeat (first|apply Kd.N_alloc|apply Kd.N_drewN|apply Kd.N_drew));exact HO_11.out)⟩;have n1_ : Aside0 (Kd.R (Kd.int .i64) 2 wr w.heap.size (fun k_ => some k_ ≠ (u8 : Value).ownBlock) (.slice Ao38 x13_4.length co38) x13_4):=⟨by rw [← hq_];exact (by (with_reducible repeat (first|apply ra_|apply rb_|apply rc_));exact HO_13.out)⟩;have n2_ : Aside0 (Kd.R (Kd.int .i64) 2 wr w.heap.size (fun k_ => some k_ ≠ (.slice Ao38 x13_4.length co38 : Value).ownBlock) u8 x8_2):=⟨by rw [← hq_];exact (by (with_reducible repeat (first|apply ra_|apply rb_|apply rc_));exact HO_8.out)⟩;have n3_ : Aside0 (IsS53 w0 wr g s0_0 s0_1 s0_2):=⟨by rw [← hq_];exact (by repeat (first|(with_reducible first|exact HI0.out|apply IsS53.alloc|apply IsS53.drewN|apply IsS53.drew)|exact HI0.out))⟩;have n4_ : Aside0 (KeepBut w wr g none):=⟨by rw [← hq_];exact (by repeat (first|(with_reducible first|exact HK.out|apply KeepBut.set_|apply keep_drewN|apply keep_drew|apply keep_alloc)|exact HK.out))⟩;have n5_ : Aside0 (Below w0.heap.size w0 wr):=⟨by rw [← hq_];exact (by repeat (first|(with_reducible first|exact HB.out|apply ba_|apply bb_|apply bc_|refine below_set ?_ (IsS53.ge HI0.out))|exact HB.out))⟩;have n6_ : Aside0 (Kd.C (Kd.int .i64) wr A178_0 (rd_L1 x11_3 (ji41)).length (rd_L1 x11_3 (ji41))):=⟨by rw [← hq_];exact (by repeat (first|(with_reducible exact HR178_0.out)|(with_reducible refine Kd.C_alloc ?_ _)|(with_reducible refine Kd.C_drewN ?_ _)|(with_reducible refine Kd.C_drew ?_)|exact HR178_0.out))⟩;clear HO_11 HO_13 HO_8 HI0 HK HB HR178_0 hq_;have HO_11:=n0_;have HO_13:=n1_;have HO_8:=n2_;have HI0:=n3_;have HK:=n4_;have HB:=n5_;have HR178_0:=n6_;clear n0_ n1_ n2_ n3_ n4_ n5_ n6_));have p55 : 0 ≤ (x90_4 : Int):=of_decide_eq_true (by first|(with_reducible assumption)|assumption);have q55 : (x90_4 : Int) < ((x13_4.length : Int) : Int):=of_decide_eq_true (by first|(with_reducible assumption)|assumption);obtain ⟨go55,co55,eo55,gb55,gl55,cl55,HG55⟩:=Kd.R_form HO_13.out (by omega);(first|cases eo55|(injection eo55 with ea_ en_ ec_;(first|subst ea_|(injection ea_ with ea_;subst ea_));subst ec_;clear en_));have GB55:=ak_ gb55;have GG55:=ak_ HG55;clear gb55 gl55 HG55;obtain ⟨hx55_0,hf55_0⟩:=Kd.R_celln 0 HO_13.out (x90_4 : Int) p55 q55;replace p55:=eq_true p55;replace q55:=eq_true q55;obtain ⟨hy56_,hz56_⟩:=Kd.R_celln 0 HO_13.out (x90_4 : Int) (of_decide_eq_true (by first|(with_reducible assumption)|assumption)) (of_decide_eq_true (by first|(with_reducible assumption)|assumption));have HP56:=Kd.R_putg HO_13.out (x90_4 : Int) t181)|((with_reducible refine gate_store (t:=2) (p:=131) rfl ?_);refine store_event (t:=2) (p:=131) (v:=?vo_w57) (w1:=(wr.setCell ⟨go55,(x90_4 : Int).toNat,none⟩ (.int .i64 t181))) ?hg ?ho ?hn ?hr ?_;(case ho => rfl);(case hg => rfl);(case hn => rfl);(case hr => first|(go_simp;done)|(go_simp;rfl));intro w57 hw;have hg : wr.grownBy w57 (some go55):=(by rw [hw];exact HP56.2);have hp_ : Kd.R (Kd.int .i64) 2 w57 w.heap.size (fun k_ => some k_ ≠ (u8 : Value).ownBlock) (.slice (some ⟨go55,0,none⟩) x13_4.length co38) y182:=(by rw [hw,Ny182.out];exact HP56.1);clear HP56;have n0_:=ak_ (Kd.R_after (v:=(.slice (some ⟨go55,0,none⟩) x13_4.length co38)) (v1:=(.slice (some ⟨go55,0,none⟩) x13_4.length co38)) (ok:=(fun _ => True)) (by (with_reducible repeat (first|apply ra_|apply rb_|apply rc_));exact Kd.R_mono HO_8.out (fun _ hk => ⟨trivial,hk⟩)) hg (.inl rfl));have n1_:=ak_ (Kd.N_afterv (v:=(.slice (some ⟨go55,0,none⟩) x13_4.length co38)) (v1:=(.slice (some ⟨go55,0,none⟩) x13_4.length co38)) (ok:=(fun k_ => some k_ ≠ (u8 : Value).ownBlock ∧ k_ ≠ g)) (by (with_reducible repeat (first|apply Kd.N_alloc|apply Kd.N_drewN|apply Kd.N_drew));exact Kd.N_mono HO_11.out (fun _ hk => ⟨⟨hk.1,hk.2.2⟩,hk.2.1⟩)) hg (.inl rfl));have n2_:=ak_ (hp_);have n3_:=ak_ (IsS53.grown (by repeat (first|(with_reducible first|exact HI0.out|apply IsS53.alloc|apply IsS53.drewN|apply IsS53.drew)|exact HI0.out)) hg (IsS53.own_ne HI0.out HO_13.out (by decide)));have n4_:=ak_ ((by rw [hw];exact below_set (HB.out) (Nat.le_trans HL.out GB55.out) : Below w0.heap.size w0 w57));have n5_:=ak_ (KeepBut.trans (by repeat (first|(with_reducible first|exact HK.out|apply KeepBut.set_|apply keep_drewN|apply keep_drew|apply keep_alloc)|exact HK.out)) (KeepBut.of_grown hg g) (Kd.R_base2 HO_13.out));clear HO_8;clear HO_11;clear HO_13;clear HI0;clear HB;clear HK;have HO_8:=n0_;have HO_11:=n1_;have HO_13:=n2_;have HI0:=n3_;have HB:=n4_;have HK:=n5_;clear n0_ n1_ n2_ n3_ n4_ n5_;clear hg hw hp_))
                           (try simp only [← hl13_4])
                           go_roundg k5
                           case measure => have:=HJ3.out;have:=HK2.out;have:=HK3.out;have:=HK4.out;have:=HK5.out;omega
                           case rel => exact ⟨(y182),(wrap64 (x90_4 + 1)),(by first|rfl|(simp;done)|(simp [*];done)),H',⟨by have:=HJ3.out;have:=HK2.out;have:=HK3.out;have:=HK4.out;have:=HK5.out;omega⟩,⟨by (try simp only [hl11_3]);(try simp only [hl13_4]);(with_reducible repeat (first|apply ra_|apply rb_|apply rc_));exact Kd.R_mono HO_8.out (fun _ hk => hk.2)⟩,⟨by (try simp only [hl11_3]);(try simp only [hl13_4]);(with_reducible repeat (first|apply Kd.N_alloc|apply Kd.N_drewN|apply Kd.N_drew));exact Kd.N_mono HO_11.out (fun _ hk => ⟨hk.1.1,⟨hk.2,hk.1.2⟩⟩)⟩,⟨by (try simp only [hl11_3]);(try simp only [hl13_4]);(with_reducible repeat (first|apply ra_|apply rb_|apply rc_));exact HO_13.out⟩,⟨by repeat (first|(with_reducible first|exact HI0.out|apply IsS53.alloc|apply IsS53.drewN|apply IsS53.drew)|exact HI0.out)⟩,⟨by repeat (first|(with_reducible first|exact HK.out|apply KeepBut.set_|apply keep_drewN|apply keep_drew|apply keep_alloc)|exact HK.out)⟩,⟨by repeat (first|(with_reducible first|exact HB.out|apply ba_|apply bb_|apply bc_|refine below_set ?_ (IsS53.ge HI0.out))|exact HB.out)⟩⟩
                          ·rw [if_neg c54] at H
                           exact absurd H (by simp)
                         ·rw [if_neg c53] at H
                          exact absurd H (by simp)
                     ·rw [if_neg c43] at H
                      exact absurd H (by simp)
                    ·rw [if_neg c42] at H
                     exact absurd H (by simp)
                  ·rw [if_neg c39] at H
                   have c39b0:=decide_eq_false c39
                   (try (have c39h0:=c39b0;simp only [hl11_3,hl13_4] at c39h0))
                   clear c39
                   obtain ⟨ji58,hji58⟩ : ∃ j_ : Int,(wrap64 ((x8_2.length : Int) - 16)) = j_:=⟨_,rfl⟩
                   replace H : (if 0 ≤ (ji58) then (if (ji58) ≤ (x8_2.length : Int) then ((some (x8_2.drop ((ji58) : Int).toNat : List Int)).bind fun y173 => (some (x13_4,0,s0_0,s0_1,List.take 16 y173 ++ List.drop y173.length s0_2))) else (none)) else (none)) = some (r1,r2,r3,r4,r5):=by first|(rw [hji58] at H;exact H)|(simp only [hji58] at H ⊢;exact H)
                   have hji58w : (IntKind.i64.wrap ((x8_2.length : Int) - 16)) = ji58:=(i64_w _).trans hji58
                   by_cases c59 : 0 ≤ (ji58)
                   ·rw [if_pos c59] at H
                    have c59b0:=eq_true c59
                    have c59b1 : decide (0 ≤ (ji58)) = true:=decide_eq_true c59
                    clear c59
                    by_cases c60 : (ji58) ≤ (x8_2.length : Int)
                    ·rw [if_pos c60] at H
                     have c60b0:=eq_true c60
                     have c60b1 : decide ((ji58) ≤ (x8_2.length : Int)) = true:=decide_eq_true c60
                     clear c60
                     obtain ⟨y173,hy173⟩ : ∃ y_ : List Int,y_ = (x8_2.drop ((ji58) : Int).toNat):=⟨_,rfl⟩
                     replace H : (some (x13_4,0,s0_0,s0_1,List.take 16 y173 ++ List.drop y173.length s0_2)) = some (r1,r2,r3,r4,r5):=by first|(rw [hy173];with_reducible exact H)|(have H2_:=(Option.bind_some _ _).symm.trans H;rw [hy173];with_reducible exact H2_)|(have H2_:=(Option.bind_some _ _).symm.trans H;with_reducible exact H2_)|with_reducible exact H|(rw [hy173];exact H)|exact H
                     have Ny173:=ak_ hy173
                     clear hy173
                     simp only [Option.some.injEq,Prod.mk.injEq] at H
                     obtain ⟨rfl,rfl,rfl,rfl,rfl⟩:=H
                     try go_wp2
                     have n0_:=ak_ (Kd.R_drew HO_8.out)
                     have n1_:=ak_ (Kd.N_drew HO_11.out)
                     have n2_:=ak_ (Kd.R_drew HO_13.out)
                     have n3_:=ak_ (IsS53.drew HI0.out)
                     have n4_:=ak_ (keep_drew HK.out)
                     have n5_:=ak_ (below_drew1 HB.out)
                     clear HO_8
                     clear HO_11
                     clear HO_13
                     clear HI0
                     clear HK
                     clear HB
                     have HO_8:=n0_
                     have HO_11:=n1_
                     have HO_13:=n2_
                     have HI0:=n3_
                     have HK:=n4_
                     have HB:=n5_
                     clear n0_ n1_ n2_ n3_ n4_ n5_
                     obtain ⟨Ao62,co62,eo62⟩:=Kd.R_slice HO_8.out
                     (first|subst eo62|(injection eo62 with f1_ f2_ f3_;have f4_:=f1_.symm;have f5_:=f3_.symm;clear f1_ f2_ f3_;subst f4_;subst f5_))
                     have q63 : ((ji58) : Int) ≤ ((x8_2.length : Int) : Int):=of_decide_eq_true (by first|(with_reducible assumption)|assumption)
                     obtain ⟨i063,hi063,_,hsz63,_⟩:=info_parts info2
                     have hroom63 : x8_2.length ≤ co62:=(Kd.R_reads' HO_8.out).2.1
                     have hC63 : Kd.F (Kd.int .i64) _ _ Ao62 x8_2.length x8_2:=(Kd.V_at (base:=w.heap.size) (Kd.R_V (IsS53.apart HI0.out (Kd.R_apart' (HO_8.out) (Kd.N_typed HO_11.out) (by decide)) (by decide)))).2.2
                     have q063 : (0 : Int) ≤ ((ji58) : Int):=of_decide_eq_true (by first|(with_reducible assumption)|assumption)
                     have hcut63:=cut_from (P:=Try.prog) 27 2 .i64 Try.underlying27 hi063 1 hsz63 Ao62 x8_2.length co62 (ji58) q063 q63
                     have hr63:=Kd.F_cut (m:=((ji58) : Int).toNat) (c:=co62) hC63 (by omega) hroom63
                     obtain ⟨A63,hA63⟩ : ∃ A_1,A_1 = (if co62 = ((ji58) : Int).toNat then Ao62 else (Ao62 : Option Addr).map (·.add (((ji58) : Int).toNat * 1))):=⟨_,rfl⟩
                     obtain ⟨c63,hc63⟩ : ∃ c_1,c_1 = co62 - ((ji58) : Int).toNat:=⟨_,rfl⟩
                     have hy63 : y173.length = x8_2.length - ((ji58) : Int).toNat:=(by rw [Ny173.out,List.length_drop] <;> omega)
                     rw [show (x8_2).drop ((ji58) : Int).toNat = y173 from Ny173.out.symm] at hr63
                     replace hr63 : Kd.F (Kd.int .i64) _ _ A63 y173.length y173:=(by rw [hA63];exact hr63)
                     rw [← hy63,← hA63,← hc63] at hcut63
                     have HO177:=ak_ (show Kd.V (Kd.int .i64) 2 _ w.heap.size _ (.slice A63 y173.length c63) y173 from Kd.V_mk (by rw [hy63,hc63];exact Nat.sub_le_sub_right hroom63 _) hr63)
                     have HC177:=ak_ (show y173.length ≤ c63 from by rw [hy63,hc63];exact Nat.sub_le_sub_right hroom63 _)
                     clear hr63 hC63 hroom63 hi063 hsz63 hc63
                     have KY63:=ak_ hy63
                     have KA63:=ak_ hA63
                     clear hy63 hA63
                     replace q63:=eq_true q63
                     refine start_ (n:=10) (S:=fun w' => True) (ds:=[]) #[false,false,false,false,false,false,false,false,false,false] (by kernel_rfl) rfl rfl trivial (fun hHeld => ?_);refine with_tabW resamp_Sampler_Run.tab29 resamp_Sampler_Run.bits29 (fun HT_ HW_ => ?_)
                     generalize wr.drew = w61 at HO_8 HO_11 HO_13 HI0 HK HB HO177 hHeld ⊢
                     refine pure_ (i:=0) (N:=some 133) (v:=?_) (a':=?_) #[true,false,false,false,false,false,false,false,false,false] rfl rfl (any_of HT_.out (by kernel_rfl)) (fun _ _ _ h => h) (Or.inl ⟨by rfl,?_⟩) ?_ ?_
                     rotate_left
                     ·intro w'
                      go_simp
                      with_reducible rfl
                     rotate_left
                     ·simp only [Act.put,List.setIfInBounds_toArray,List.set_cons_zero,List.set_cons_succ,i64_w,i32_w]
                      rfl
                     refine pure_ (i:=1) (N:=some 134) (v:=?_) (a':=?_) #[true,true,false,false,false,false,false,false,false,false] rfl rfl (any_of HT_.out (by kernel_rfl)) (fun _ _ _ h => h) (Or.inl ⟨by rfl,?_⟩) ?_ ?_
                     rotate_left
                     ·intro w'
                      go_simp
                      with_reducible rfl
                     rotate_left
                     ·simp only [Act.put,List.setIfInBounds_toArray,List.set_cons_zero,List.set_cons_succ,i64_w,i32_w]
                      rfl
                     refine pure_ (i:=2) (N:=some 135) (v:=?_) (a':=?_) #[true,true,true,false,false,false,false,false,false,false] rfl rfl (any_of HT_.out (by kernel_rfl)) (fun _ _ _ h => h) (Or.inl ⟨by rfl,?_⟩) ?_ ?_
                     rotate_left
                     ·intro w'
                      go_simp
                      with_reducible rfl
                     rotate_left
                     ·simp only [Act.put,List.setIfInBounds_toArray,List.set_cons_zero,List.set_cons_succ,i64_w,i32_w]
                      rfl
                     refine pure_ (i:=3) (N:=some 136) (v:=?_) (a':=?_) #[true,true,true,true,false,false,false,false,false,false] rfl rfl (any_of HT_.out (by kernel_rfl)) (fun _ _ _ h => h) (Or.inl ⟨by rfl,?_⟩) ?_ ?_
                     rotate_left
                     ·intro w'
                      go_simp
                      with_reducible rfl
                     rotate_left
                     ·simp only [Act.put,List.setIfInBounds_toArray,List.set_cons_zero,List.set_cons_succ,i64_w,i32_w]
                      rfl
                     refine pure_ (i:=4) (N:=some 137) (v:=?_) (a':=?_) #[true,true,true,true,true,false,false,false,false,false] rfl rfl (any_of HT_.out (by kernel_rfl)) (fun _ _ _ h => h) (Or.inl ⟨by rfl,?_⟩) ?_ ?_
                     rotate_left
                     ·intro w'
                      go_simp
                      with_reducible rfl
                     rotate_left
                     ·simp only [Act.put,List.setIfInBounds_toArray,List.set_cons_zero,List.set_cons_succ,i64_w,i32_w]
                      rfl
                     refine pure_ (i:=5) (N:=some 138) (v:=?_) (a':=?_) #[true,true,true,true,true,true,false,false,false,false] rfl rfl (any_of HT_.out (by kernel_rfl)) (fun _ _ _ h => h) (Or.inl ⟨by rfl,?_⟩) ?_ ?_
                     rotate_left
                     ·intro w'
                      go_simp
                      with_reducible rfl
                     rotate_left
                     ·simp only [Act.put,List.setIfInBounds_toArray,List.set_cons_zero,List.set_cons_succ,i64_w,i32_w]
                      rfl
                     refine pure_ (i:=6) (N:=some 139) (v:=?_) (a':=?_) #[true,true,true,true,true,true,true,false,false,false] rfl rfl (any_of HT_.out (by kernel_rfl)) (fun _ _ _ h => h) (Or.inl ⟨by rfl,?_⟩) ?_ ?_
                     rotate_left
                     ·intro w'
                      go_simp
                      with_reducible rfl
                     rotate_left
                     ·simp only [Act.put,List.setIfInBounds_toArray,List.set_cons_zero,List.set_cons_succ,i64_w,i32_w]
                      rfl
                     refine pure_ (i:=7) (N:=some 140) (v:=?_) (a':=?_) #[true,true,true,true,true,true,true,true,false,false] rfl rfl (any_of HT_.out (by kernel_rfl)) (fun _ _ _ h => h) (Or.inl ⟨by rfl,?_⟩) ?_ ?_
                     rotate_left
                     ·intro w'
                      go_simp
                      with_reducible rfl
                     rotate_left
                     ·simp only [Act.put,List.setIfInBounds_toArray,List.set_cons_zero,List.set_cons_succ,i64_w,i32_w]
                      rfl
                     refine pure_ (i:=8) (N:=some 141) (v:=?_) (a':=?_) #[true,true,true,true,true,true,true,true,true,false] rfl rfl (any_of HT_.out (by kernel_rfl)) (fun _ _ _ h => h) (Or.inl ⟨by rfl,?_⟩) ?_ ?_
                     rotate_left
                     ·intro w'
                      go_simp
                      with_reducible rfl
                     rotate_left
                     ·simp only [Act.put,List.setIfInBounds_toArray,List.set_cons_zero,List.set_cons_succ,i64_w,i32_w]
                      rfl
                     refine one_ (i:=9) (N:=some 142) #[true,true,true,true,true,true,true,true,true,true] rfl rfl (one_of HT_.out (by kernel_rfl)) (by decide) (fun K hK => ?_)
                     refine copyS53_step rfl (.tmp 136) (.tmp 141) 27 27 2 rfl Try.underlying27 (by first|rfl|kernel_rfl) _ _ _ _ y173 rfl rfl (show IsS53 w0 _ g s0_0 s0_1 s0_2 from by repeat (first|(with_reducible first|exact HI0.out|apply IsS53.alloc|apply IsS53.drewN|apply IsS53.drew)|exact HI0.out)) (by repeat (first|(with_reducible first|exact HB.out|apply ba_|apply bb_|apply bc_|refine below_set ?_ (IsS53.ge HI0.out))|exact HB.out)) ?aC ?_
                     (case aC => repeat (first|exact (Kd.V_reads' HO177.out).2.2|(with_reducible refine Kd.C_alloc ?_ _)|(with_reducible refine Kd.C_drewN ?_ _)|(with_reducible refine Kd.C_drew ?_)))
                     intro w64 hi hb hk
                     have n0_:=ak_ (Kd.R_mono (Kd.R_keep (IsS53.apart (show IsS53 w0 _ g s0_0 s0_1 s0_2 from by repeat (first|(with_reducible first|exact HI0.out|apply IsS53.alloc|apply IsS53.drewN|apply IsS53.drew)|exact HI0.out)) (by (with_reducible repeat (first|apply ra_|apply rb_|apply rc_));exact HO_8.out) (by decide)) hk (fun _ h => h.2)) (fun _ h => h.1))
                     have n1_:=ak_ (Kd.N_mono (Kd.N_keep (Kd.N_mono (ok:=fun k_ => (some k_ ≠ (.slice Ao62 x8_2.length co62 : Value).ownBlock ∧ (some k_ ≠ (.slice Ao38 x13_4.length co38 : Value).ownBlock ∧ k_ ≠ g))) (by (with_reducible repeat (first|apply Kd.N_alloc|apply Kd.N_drewN|apply Kd.N_drew));exact HO_11.out) (fun k_ hk_ => (⟨hk_,hk_.2.2⟩ : _ ∧ k_ ≠ g))) hk (fun _ h => h.2)) (fun _ h => h.1))
                     have n2_:=ak_ (Kd.R_mono (Kd.R_keep (IsS53.apart (show IsS53 w0 _ g s0_0 s0_1 s0_2 from by repeat (first|(with_reducible first|exact HI0.out|apply IsS53.alloc|apply IsS53.drewN|apply IsS53.drew)|exact HI0.out)) (by (with_reducible repeat (first|apply ra_|apply rb_|apply rc_));exact HO_13.out) (by decide)) hk (fun _ h => h.2)) (fun _ h => h.1))
                     have n3_:=ak_ (Kd.V_mono (Kd.V_keep (Kd.V_mono (ok:=fun k_ => ((some k_ ≠ (.slice Ao38 x13_4.length co38 : Value).ownBlock ∧ some k_ ≠ (.slice Ao23 x11_3.length co23 : Value).ownBlock) ∧ k_ ≠ g)) (by (with_reducible repeat (first|apply Kd.V_alloc|apply Kd.V_drewN|apply Kd.V_drew));exact HO177.out) (fun k_ hk_ => (⟨hk_,hk_.2⟩ : _ ∧ k_ ≠ g))) hk (fun _ h => h.2)) (fun _ h => h.1))
                     have n4_:=ak_ (KeepBut.trans (by repeat (first|(with_reducible first|exact HK.out|apply KeepBut.set_|apply keep_drewN|apply keep_drew|apply keep_alloc)|exact HK.out)) hk (.inl rfl))
                     have n5_:=ak_ (hb)
                     have n6_:=ak_ (hi)
                     clear HO_8
                     clear HO_11
                     clear HO_13
                     clear HO177
                     clear HK
                     clear HB
                     clear HI0
                     have HO_8:=n0_
                     have HO_11:=n1_
                     have HO_13:=n2_
                     have HO177:=n3_
                     have HK:=n4_
                     have HB:=n5_
                     have HI0:=n6_
                     clear n0_ n1_ n2_ n3_ n4_ n5_ n6_
                     (try clear hb)
                     (try clear hk)
                     (try clear hi)
                     refine hK.out _ _ trivial (fun hHeld => ?_)
                     clear hK K
                     refine norm_ (a':=?_) ?_ ?_
                     rotate_left
                     ·show Act.put _ (some 142) _ = _
                      simp only [Act.put,List.setIfInBounds_toArray,List.set_cons_zero,List.set_cons_succ,i64_w,i32_w]
                      rfl
                     refine done_ (done_of HT_.out (by kernel_rfl)) ?_
                     try go_wp2
                     go_ret2
                     exact ⟨_,by first|rfl|(simp [errW_none,errW_some] <;> rfl)|(simp only [← hji33,← hji58];first|rfl|(simp [errW_none,errW_some] <;> rfl))|(simp [*,errW_none,errW_some] <;> rfl),by (with_reducible repeat (first|apply ra_|apply rb_|apply rc_));exact Kd.R_mono HO_13.out (fun _ hk => trivial),by repeat (first|(with_reducible first|exact HI0.out|apply IsS53.alloc|apply IsS53.drewN|apply IsS53.drew)|exact HI0.out),by repeat (first|(with_reducible first|exact HB.out|apply ba_|apply bb_|apply bc_|refine below_set ?_ (IsS53.ge HI0.out))|exact HB.out),by repeat (first|(with_reducible first|exact HK.out|apply KeepBut.set_|apply keep_drewN|apply keep_drew|apply keep_alloc)|exact HK.out)⟩
                    ·rw [if_neg c60] at H
                     exact absurd H (by simp)
                   ·rw [if_neg c59] at H
                    exact absurd H (by simp)
               ·rw [if_neg c35] at H
                exact absurd H (by simp)
              ·rw [if_neg c34] at H
               exact absurd H (by simp)
         ·rw [if_neg c20] at H
          exact absurd H (by simp)
        ·rw [if_neg c19] at H
         exact absurd H (by simp)
    ·rw [if_neg c9] at H
     exact absurd H (by simp)

end Go.Proofs.Ytcicenmmpbgmoaa.P
