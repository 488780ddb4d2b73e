/- The machine side of the laws of one chapter, without conditions: each call of a Go function comes to what the Lean function of its name answers. Written for this claim by a program of the prover. -/
import Derived.Test.YtlmacbiahofmcaaPx0
import Derived.Test.YtlmacbiahofmcaaPx2
import Derived.Test.YtlmacbiahofmcaaPx3
import Derived.Test.YtlmacbiahofmcaaPx8
import Derived.Test.YtlmacbiahofmcaaPx9
namespace Go.Proofs.Ytlmacbiahofmcaa.P
open Go.RowKit Go.Proofs.YtlmacbiahofmcaaW.PrintWords Go.Proofs.YtlmacbiahofmcaaW.PrintLast Go.Proofs.YtlmacbiahofmcaaW.PrintMore
attribute [local go_sem] max2_int min2_int max_two min_two max_three min_three max_four min_four   -- for this text's walks alone
set_option linter.unusedVariables false
set_option linter.unusedSimpArgs false

/-! ### mdct_Forward: function 11 -/
mutual
def mdct_Forward.j0 : Nat → List Int → Int → List Int → Bool → Option (List Int × Int)
 | 0,_,_,_,_ => none
 | k + 1,x0,x6,x7,x35 => if x35 = true then (some (([] : List Int),1)) else (if 0 ≤ (x0.length : Int) then (if ((x0.length : Int) : Int).toNat ≤ 35184372088832 then ((some (List.replicate ((x0.length : Int) : Int).toNat 0 : List Int)).bind fun y154 => (mdct_Forward.l0 k x0 x6 x7 y154 (y154.length : Int) 0)) else (none)) else (none))
def mdct_Forward.l0 : Nat → List Int → Int → List Int → List Int → Int → Int → Option (List Int × Int)
 | 0,_,_,_,_,_,_ => none
 | k + 1,x0,x6,x7,x9,x40,x41 => if x41 < x40 then (if 0 ≤ x41 then (if x41 < (x7.length : Int) then (if x41 < (x0.length : Int) then ((fix_Clamp.f k (rd x0 x41) (-16777216) 16777216).bind fun t159 => ((fix_Mul.f k (rd x7 x41) t159 15).bind fun t160 => (if x41 < (x9.length : Int) then (mdct_Forward.l0 k x0 x6 x7 (x9.set (x41 : Int).toNat t160) x40 (wrap64 (x41 + 1))) else (none)))) else (none)) else (none)) else (none)) else ((mdct_waves.f k x6).bind fun t162 => (if 0 ≤ x6 then (if (x6 : Int).toNat ≤ 35184372088832 then ((some (List.replicate (x6 : Int).toNat 0 : List Int)).bind fun y165 => (mdct_Forward.l1 k x6 x9 t162 y165 (y165.length : Int) 0)) else (none)) else (none)))
def mdct_Forward.l1 : Nat → Int → List Int → List Int → List Int → Int → Int → Option (List Int × Int)
 | 0,_,_,_,_,_,_ => none
 | k + 1,x6,x9,x11,x12,x63,x64 => if x64 < x63 then (if (wrap64 (8 * x6)) = 0 then (none) else (mdct_Forward.l2 k x6 x9 x11 x12 x64 16384 (Int.tmod (wrap64 ((wrap64 (1 + x6)) * (wrap64 ((wrap64 (2 * x64)) + 1)))) (wrap64 (8 * x6))) (Int.tmod (wrap64 (2 * (wrap64 ((wrap64 (2 * x64)) + 1)))) (wrap64 (8 * x6))) x63 x64 (x9.length : Int) 0)) else (some (x12,0))
def mdct_Forward.l2 : Nat → Int → List Int → List Int → List Int → Int → Int → Int → Int → Int → Int → Int → Int → Option (List Int × Int)
 | 0,_,_,_,_,_,_,_,_,_,_,_,_ => none
 | k + 1,x6,x9,x11,x12,x13,x14,x15,x16,x63,x64,x84,x85 => if x85 < x84 then (if 0 ≤ x85 then (if x85 < (x9.length : Int) then (if 0 ≤ x15 then (if x15 < (x11.length : Int) then (if (wrap64 (x15 + x16)) ≥ (x11.length : Int) then (mdct_Forward.l2 k x6 x9 x11 x12 x13 (wrap64 (x14 + (wrap64 ((rd x9 x85) * (rd x11 x15))))) (wrap64 ((wrap64 (x15 + x16)) - (x11.length : Int))) x16 x63 x64 x84 (wrap64 (x85 + 1))) else (mdct_Forward.l2 k x6 x9 x11 x12 x13 (wrap64 (x14 + (wrap64 ((rd x9 x85) * (rd x11 x15))))) (wrap64 (x15 + x16)) x16 x63 x64 x84 (wrap64 (x85 + 1)))) else (none)) else (none)) else (none)) else (none)) else (if 0 ≤ x13 then (if x13 < (x12.length : Int) then (mdct_Forward.l1 k x6 x9 x11 (x12.set (x13 : Int).toNat (x14 / 32768)) x63 (wrap64 (x64 + 1))) else (none)) else (none))
end
def mdct_Forward.f (k : Nat) (l0 : List Int) (a1 : Int) : Option (List Int × Int):=(mdct_Shape.f k (wrap64 ((l0.length : Int) / 2)) a1).bind fun bt150 => (if bt150.2 = 0 then (mdct_Forward.j0 k l0 (wrap64 ((l0.length : Int) / 2)) bt150.1 (((l0.length : Int) % 2) != 0)) else (mdct_Forward.j0 k l0 (wrap64 ((l0.length : Int) / 2)) bt150.1 true))
theorem mdct_Forward.mono_l : ∀ k,(∀ y0 y1 y2 y3,LeO (mdct_Forward.j0 k y0 y1 y2 y3) (mdct_Forward.j0 (k + 1) y0 y1 y2 y3)) ∧ (∀ y0 y1 y2 y3 y4 y5,LeO (mdct_Forward.l0 k y0 y1 y2 y3 y4 y5) (mdct_Forward.l0 (k + 1) y0 y1 y2 y3 y4 y5)) ∧ (∀ y0 y1 y2 y3 y4 y5,LeO (mdct_Forward.l1 k y0 y1 y2 y3 y4 y5) (mdct_Forward.l1 (k + 1) y0 y1 y2 y3 y4 y5)) ∧ (∀ y0 y1 y2 y3 y4 y5 y6 y7 y8 y9 y10 y11,LeO (mdct_Forward.l2 k y0 y1 y2 y3 y4 y5 y6 y7 y8 y9 y10 y11) (mdct_Forward.l2 (k + 1) y0 y1 y2 y3 y4 y5 y6 y7 y8 y9 y10 y11))
 | 0 => ⟨fun _ _ _ _ r h => by simp [mdct_Forward.j0] at h,fun _ _ _ _ _ _ r h => by simp [mdct_Forward.l0] at h,fun _ _ _ _ _ _ r h => by simp [mdct_Forward.l1] at h,fun _ _ _ _ _ _ _ _ _ _ _ _ r h => by simp [mdct_Forward.l2] at h⟩
 | k + 1 => by
  obtain ⟨ih0,ih1,ih2,ih3⟩:=mdct_Forward.mono_l k
  refine ⟨?_,?_,?_,?_⟩
  all_goals (intros;first|unfold mdct_Forward.j0|unfold mdct_Forward.l0|unfold mdct_Forward.l1|unfold mdct_Forward.l2)
  all_goals (repeat' first|(with_reducible first|exact ih0 _ _ _ _|exact ih1 _ _ _ _ _ _|exact ih2 _ _ _ _ _ _|exact ih3 _ _ _ _ _ _ _ _ _ _ _ _|exact fix_Clamp.mono _ _ _ _|exact fix_Mul.mono _ _ _ _|exact mdct_Shape.mono _ _ _|exact mdct_waves.mono _ _|exact LeO.refl _|exact LeO.none _|refine LeO.ite ?_ ?_|refine LeO.bind ?_ (fun _ => ?_))|exact ih0 _ _ _ _|exact ih1 _ _ _ _ _ _|exact ih2 _ _ _ _ _ _|exact ih3 _ _ _ _ _ _ _ _ _ _ _ _|exact fix_Clamp.mono _ _ _ _|exact fix_Mul.mono _ _ _ _|exact mdct_Shape.mono _ _ _|exact mdct_waves.mono _ _|exact LeO.none _|refine LeO.ite ?_ ?_|refine LeO.bind ?_ (fun _ => ?_))
theorem mdct_Forward.mono : ∀ a0 a1 k,LeO (mdct_Forward.f k a0 a1) (mdct_Forward.f (k + 1) a0 a1):=by
 intro a0 a1 k
 obtain ⟨ih0,ih1,ih2,ih3⟩:=mdct_Forward.mono_l k
 unfold mdct_Forward.f
 repeat' first|(with_reducible first|exact ih0 _ _ _ _|exact ih1 _ _ _ _ _ _|exact ih2 _ _ _ _ _ _|exact ih3 _ _ _ _ _ _ _ _ _ _ _ _|exact fix_Clamp.mono _ _ _ _|exact fix_Mul.mono _ _ _ _|exact mdct_Shape.mono _ _ _|exact mdct_waves.mono _ _|exact LeO.refl _|exact LeO.none _|refine LeO.ite ?_ ?_|refine LeO.bind ?_ (fun _ => ?_))|exact ih0 _ _ _ _|exact ih1 _ _ _ _ _ _|exact ih2 _ _ _ _ _ _|exact ih3 _ _ _ _ _ _ _ _ _ _ _ _|exact fix_Clamp.mono _ _ _ _|exact fix_Mul.mono _ _ _ _|exact mdct_Shape.mono _ _ _|exact mdct_waves.mono _ _|exact LeO.none _|refine LeO.ite ?_ ?_|refine LeO.bind ?_ (fun _ => ?_)
def mdct_Forward.T9 : Bool × List (List Nat × List Nat):=(true,[([],[]),([],[]),([],[]),([],[]),([2,3],[2,3]),([4],[4]),([],[]),([],[]),([6,7],[6,7]),([8],[8]),([9],[9]),([5,10,10],[5,10]),([0,1,0,1,2,3,4,5,6,7,8,9,10,11],[0,1]),([12,11,11,0,1,2,3,4,5,6,7,8,9,10,11],[11,12])])
def mdct_Forward.B9 : List Nat:=[0,0,0,0,12,28,0,0,192,448,960,2044,4095,8191]
theorem mdct_Forward.tab9 : rtab .any (opsOf Try.f11 9) = mdct_Forward.T9:=by kernel_rfl
theorem mdct_Forward.bits9 : waitsOk mdct_Forward.T9.2 mdct_Forward.B9 = true:=by kernel_rfl
def mdct_Forward.T17 : Bool × List (List Nat × List Nat):=(true,[([],[]),([0],[0]),([],[]),([2],[2]),([3],[3]),([1,4],[1,4]),([],[]),([6],[6]),([5,7],[5,7]),([],[]),([9],[9]),([10],[10]),([11],[11]),([],[]),([13],[13]),([12,14],[12,14]),([8,0,1,2,3,4,5,6,7,8],[8]),([15,16,0,1,2,3,4,5,6,7,8,9,10,11,12,13,14,15,16],[15])])
def mdct_Forward.B17 : List Nat:=[0,1,0,4,12,31,0,64,255,0,512,1536,3584,0,8192,32256,511,131071]
theorem mdct_Forward.tab17 : rtab .any (opsOf Try.f11 17) = mdct_Forward.T17:=by kernel_rfl
theorem mdct_Forward.bits17 : waitsOk mdct_Forward.T17.2 mdct_Forward.B17 = true:=by kernel_rfl
set_option maxHeartbeats 8000000 in
set_option maxRecDepth 100000 in
theorem mdct_Forward.calls (k : Nat) (A0 : Option Addr) (c0 : Nat) (l0 : List Int) (a1 : Int) (r1 : List Int) (r2 : Int) (w : World) (hr0 : Kd.C (Kd.int .i64) w A0 l0.length l0) (hc0 : l0.length ≤ c0) (h : mdct_Forward.f k l0 a1 = some (r1,r2)) :
  Calls Try.prog 11 #[.slice A0 l0.length c0,.int .i64 a1] w fun e w' => ∃ v0_ : Value,e = .returned (.tuple #[v0_,.int .i64 r2]) ∧ Kd.R (Kd.int .i64) 2 w' w.heap.size (fun _ => True) v0_ r1 ∧ Below w.heap.size w w':=by
 have HR0:=ak_ hr0
 have HC0:=ak_ hc0
 clear hr0 hc0
 have HB:=ak_ (Below.refl w.heap.size w)
 have H : ((mdct_Shape.f k (wrap64 ((l0.length : Int) / 2)) a1).bind fun bt150 => (if bt150.2 = 0 then (mdct_Forward.j0 k l0 (wrap64 ((l0.length : Int) / 2)) bt150.1 (((l0.length : Int) % 2) != 0)) else (mdct_Forward.j0 k l0 (wrap64 ((l0.length : Int) / 2)) bt150.1 true))) = some (r1,r2):=h
 clear h
 replace H:=Option.bind_eq_some_iff.mp H
 obtain ⟨⟨t150,t151⟩,A30,H⟩:=H
 (try dsimp only at H)
 have A3:=ak_ A30
 clear A30
 have HC4:=ak_ H
 clear H
 go_enter Try.func11,Try.ntmps11
 go_upto_region 3 with (first|((with_reducible refine gate_callee (f:=10) rfl ?_);refine goesL_ (some 25) rfl rfl Try.func10 (by kernel_rfl) rfl #[.int .i64 (wrap64 ((l0.length : Int) / 2)),.int .i64 a1] rfl (by (try simp only [List.map_toArray,List.map_cons,List.map_nil]);first|done|rfl|(simp only [List.length_drop,List.length_take];rfl)) ?_;(with_reducible refine (mdct_Shape.calls k (wrap64 ((l0.length : Int) / 2)) a1 t150 t151 _ A3.out).mono ?_);rintro e w5 ⟨v152,rfl,ho0,hb⟩;refine ⟨_,rfl,?_⟩;have n0_:=ak_ (Kd.R_lower ho0 (below_size (by repeat (first|(with_reducible first|exact HB.out|apply ba_|apply bb_|apply bc_)|exact HB.out))));have n1_:=ak_ (below_step (by repeat (first|(with_reducible first|exact HB.out|apply ba_|apply bb_|apply bc_)|exact HB.out)) hb);clear HB;have HO153:=n0_;have HB:=n1_;clear n0_ n1_;(try clear hb);(try clear ho0)))
 (try simp only [Act.put,List.setIfInBounds_toArray,List.set_cons_zero,List.set_cons_succ])
 go_cut [35] (fun v35 wc => ∃ (kq : Nat) (x35_3 : Bool),v35 = .bool x35_3 ∧ Aside0 (mdct_Forward.j0 kq l0 (wrap64 ((l0.length : Int) / 2)) t150 x35_3 = some (r1,r2)) ∧ Aside0 (kq ≤ k) ∧ Aside0 (Kd.R (Kd.int .i64) 2 wc w.heap.size (fun _ => True) v152 t150) ∧ Aside0 (Below w.heap.size w wc))
 case first =>
  have H:=HC4.out
  clear HC4
  by_cases c6 : t151 = 0
  ·rw [if_pos c6] at H
   have c6b0 : (t151 == 0) = true:=beq_iff_eq.mpr c6
   have c6b1 : (t151 != 0) = false:=bne_eq_false_iff_eq.mpr c6
   clear c6
   (first|rw [c6b0]|(simp only [i64_w,i32_w];rw [c6b0])|skip)
   have H':=ak_ H
   clear H
   go_wp2
   go_meet
   case rel => exact ⟨_,((((l0.length : Int) % 2) != 0)),(by first|rfl|(simp;done)|(simp [*];done)),H',⟨by first|omega|exact Nat.le_refl _⟩,⟨by (with_reducible repeat (first|apply ra_|apply rb_|apply rc_));exact HO153.out⟩,⟨by repeat (first|(with_reducible first|exact HB.out|apply ba_|apply bb_|apply bc_)|exact HB.out)⟩⟩
  ·rw [if_neg c6] at H
   have c6b0 : (t151 == 0) = false:=beq_eq_false_iff_ne.mpr c6
   have c6b1 : (t151 != 0) = true:=bne_iff_ne.mpr c6
   (first|rw [c6b0]|(simp only [i64_w,i32_w];rw [c6b0])|skip)
   have H':=ak_ H
   clear H
   go_wp2
   go_meet
   case rel => exact ⟨_,(true),(by first|rfl|(simp;done)|(simp [*];done)),H',⟨by first|omega|exact Nat.le_refl _⟩,⟨by (with_reducible repeat (first|apply ra_|apply rb_|apply rc_));exact HO153.out⟩,⟨by repeat (first|(with_reducible first|exact HB.out|apply ba_|apply bb_|apply bc_)|exact HB.out)⟩⟩
 case rest =>
  clear HC4
  try clear c1
  try clear p2
  try clear c6
  try clear c6b0
  try clear c6b1
  try clear p6
  obtain ⟨kq,x35_3,rfl,HA,HJ3,HO_7,HB⟩:=hcut
  (try simp only [i64_w,i32_w])
  cases kq with
  | zero => exact absurd HA.out (by simp [mdct_Forward.j0])
  | succ kj3 =>
   have H:=HA.out
   clear HA
   simp only [mdct_Forward.j0] at H
   by_cases c7 : x35_3 = true
   ·subst c7
    have H1 : (some (([] : List Int),1)) = some (r1,r2):=by rw [if_pos rfl] at H;exact H
    clear H
    have H:=H1
    clear H1
    simp only [Option.some.injEq,Prod.mk.injEq] at H
    obtain ⟨rfl,rfl⟩:=H
    go_wp2
    go_ret2
    exact ⟨_,by first|rfl|(simp [errW_none,errW_some] <;> rfl)|(simp [*,errW_none,errW_some] <;> rfl),by first|exact Kd.R_nil _ _ _ _ _|exact Kd.N_nil _ _ _ _ _|exact Kd.V_nil _ _ _ _ _|exact Kd.Q_nil _ _ _ _ _|exact Kd.S_nil _ _ _ _ _,by repeat (first|(with_reducible first|exact HB.out|apply ba_|apply bb_|apply bc_)|exact HB.out)⟩
   ·replace c7:=Bool.eq_false_iff.mpr c7
    subst c7
    have H1 : (if 0 ≤ (l0.length : Int) then (if ((l0.length : Int) : Int).toNat ≤ 35184372088832 then ((some (List.replicate ((l0.length : Int) : Int).toNat 0 : List Int)).bind fun y154 => (mdct_Forward.l0 kj3 l0 (wrap64 ((l0.length : Int) / 2)) t150 y154 (y154.length : Int) 0)) else (none)) else (none)) = some (r1,r2):=by rw [if_neg (show ¬ (false = true) by decide)] at H;exact H
    clear H
    have H:=H1
    clear H1
    by_cases c8 : 0 ≤ (l0.length : Int)
    ·rw [if_pos c8] at H
     have c8b0:=eq_true c8
     have c8b1 : decide (0 ≤ (l0.length : Int)) = true:=decide_eq_true c8
     clear c8
     by_cases c9 : ((l0.length : Int) : Int).toNat ≤ 35184372088832
     ·rw [if_pos c9] at H
      have c9b0:=eq_true c9
      have c9b1 : decide (((l0.length : Int) : Int).toNat ≤ 35184372088832) = true:=decide_eq_true c9
      clear c9
      obtain ⟨y154,hy154⟩ : ∃ y_ : List Int,y_ = (List.replicate ((l0.length : Int) : Int).toNat 0):=⟨_,rfl⟩
      replace H : (mdct_Forward.l0 kj3 l0 (wrap64 ((l0.length : Int) / 2)) t150 y154 (y154.length : Int) 0) = some (r1,r2):=by first|(rw [hy154];with_reducible exact H)|(have H2_:=(Option.bind_some _ _).symm.trans H;rw [hy154];with_reducible exact H2_)|(have H2_:=(Option.bind_some _ _).symm.trans H;with_reducible exact H2_)|with_reducible exact H|(rw [hy154];exact H)|exact H
      have Ny154:=ak_ hy154
      clear hy154
      have H':=ak_ H
      clear H
      go_wp2_with (first|((with_reducible refine gate_dst (N:=38) rfl ?_);(try (refine gate_guard (by rfl) ?_;dsimp only));refine Kd.R_make (Kd.int .i64) _ 2 rfl (N:=38) rfl 23 _ _ rfl (l0.length : Int) rfl rfl Try.underlying23 (.int .i64 0) 8 info2 rfl (by decide) (by omega) 0 (ok:=fun _ => True) (okp:=fun _ => True) rfl (fun _ hk => hk) trivial (of_decide_eq_true (by first|(with_reducible assumption)|assumption)) (Nat.le_trans (Nat.mul_le_mul_right _ (of_decide_eq_true (by first|(with_reducible assumption)|assumption) : (l0.length : Int).toNat ≤ 35184372088832)) (by omega)) (Below.refl _ _) (Nat.le_refl _) ?_;intro v155 w10 ho11 hb hg_ hnew_;clear hg_ hnew_;(first|rw [← Ny154.out] at ho11|(simp only [Int.reduceToNat] at ho11;rw [← Ny154.out] at ho11));have n0_:=ak_ (Kd.R_elder' (by (with_reducible repeat (first|apply ra_|apply rb_|apply rc_));exact HO_7.out) (Kd.R_base ho11) hb);have n1_:=ak_ (Kd.R_lower (Kd.R_new' ho11 (Kd.R_lt (by (with_reducible repeat (first|apply ra_|apply rb_|apply rc_));exact HO_7.out))) (below_size (by repeat (first|(with_reducible first|exact HB.out|apply ba_|apply bb_|apply bc_)|exact HB.out))));have n2_:=ak_ (below_step (by repeat (first|(with_reducible first|exact HB.out|apply ba_|apply bb_|apply bc_)|exact HB.out)) hb);clear HO_7;clear HB;have HO_7:=n0_;have HO156:=n1_;have HB:=n2_;clear n0_ n1_ n2_;clear hb ho11;obtain ⟨Ao12,co12,eo12⟩:=Kd.R_slice HO156.out;subst eo12))
      go_loopg [41] kj3 (fun kq v41 w' => ∃ (x9_2 : List Int) (x41_2 : Int),v41 = .int .i64 x41_2 ∧ Aside0 (mdct_Forward.l0 kq l0 (wrap64 ((l0.length : Int) / 2)) t150 x9_2 (y154.length : Int) x41_2 = some (r1,r2)) ∧ Aside0 (kq ≤ kj3) ∧ Aside0 (Kd.R (Kd.int .i64) 2 w' w.heap.size (fun k_ => some k_ ≠ ((.slice Ao12 y154.length co12) : Value).ownBlock) v152 t150) ∧ Aside0 (Kd.R (Kd.int .i64) 2 w' w.heap.size (fun k_ => some k_ ≠ (v152 : Value).ownBlock) (.slice Ao12 y154.length co12) x9_2) ∧ Aside0 (Below w.heap.size w w'))
      case atStart => exact ⟨(y154),(0),(by first|rfl|(simp;done)|(simp [*];done)),H',⟨Nat.le_refl _⟩,⟨by (with_reducible repeat (first|apply ra_|apply rb_|apply rc_));exact Kd.R_mono HO_7.out (fun _ hk => hk.2)⟩,⟨by (with_reducible repeat (first|apply ra_|apply rb_|apply rc_));exact Kd.R_mono HO156.out (fun _ hk => hk.2)⟩,⟨by repeat (first|(with_reducible first|exact HB.out|apply ba_|apply bb_|apply bc_)|exact HB.out)⟩⟩
      case round =>
       clear H'
       try clear c1
       try clear p2
       try clear c6
       try clear c6b0
       try clear c6b1
       try clear p6
       try clear c7
       try clear c8
       try clear c8b0
       try clear c8b1
       try clear c9
       try clear c9b0
       try clear c9b1
       try clear c10
       try clear c11
       try clear p2
       try clear p6
       obtain ⟨x9_2,x41_2,rfl,HA,HK2,HO_7,HO_9,HB⟩:=hrel
       (try simp only [i64_w,i32_w])
       have hl9_2:=(Kd.R_reads' HO_9.out).1
       rw [hl9_2] at HO_9
       (try simp only [hl9_2])
       (try simp only [hl9_2] at HO_7)
       cases gk with
       | zero => exact absurd HA.out (by simp [mdct_Forward.l0])
       | succ k2 =>
        have H:=HA.out
        clear HA
        simp only [mdct_Forward.l0] at H
        by_cases c13 : x41_2 < (y154.length : Int)
        ·rw [if_pos c13] at H
         have c13b0:=decide_eq_true c13
         (try (have c13h0:=c13b0;simp only [hl9_2] at c13h0))
         clear c13
         by_cases c14 : 0 ≤ x41_2
         ·rw [if_pos c14] at H
          have c14b0:=decide_eq_true c14
          (try (have c14h0:=c14b0;simp only [hl9_2] at c14h0))
          clear c14
          by_cases c15 : x41_2 < (t150.length : Int)
          ·rw [if_pos c15] at H
           have c15b0:=decide_eq_true c15
           (try (have c15h0:=c15b0;simp only [hl9_2] at c15h0))
           clear c15
           by_cases c16 : x41_2 < (l0.length : Int)
           ·rw [if_pos c16] at H
            have c16b0:=decide_eq_true c16
            (try (have c16h0:=c16b0;simp only [hl9_2] at c16h0))
            clear c16
            replace H:=Option.bind_eq_some_iff.mp H
            obtain ⟨t159,A170,H⟩:=H
            (try dsimp only at H)
            have A17:=ak_ A170
            clear A170
            replace H:=Option.bind_eq_some_iff.mp H
            obtain ⟨t160,A180,H⟩:=H
            (try dsimp only at H)
            have A18:=ak_ A180
            clear A180
            by_cases c19 : x41_2 < (x9_2.length : Int)
            ·rw [if_pos c19] at H
             have c19b0:=decide_eq_true c19
             (try (have c19h0:=c19b0;simp only [hl9_2] at c19h0))
             clear c19
             obtain ⟨y161,hy161⟩ : ∃ y_ : List Int,y_ = (x9_2.set (x41_2 : Int).toNat t160):=⟨_,rfl⟩
             replace H : (mdct_Forward.l0 k2 l0 (wrap64 ((l0.length : Int) / 2)) t150 y161 (y154.length : Int) (wrap64 (x41_2 + 1))) = some (r1,r2):=by first|(rw [hy161];with_reducible exact H)|(have H2_:=(Option.bind_some _ _).symm.trans H;rw [hy161];with_reducible exact H2_)|(have H2_:=(Option.bind_some _ _).symm.trans H;with_reducible exact H2_)|with_reducible exact H|(rw [hy161];exact H)|exact H
             have Ny161:=ak_ hy161
             clear hy161
             have H':=ak_ H
             clear H
             try go_wp2
             have n0_:=ak_ (Kd.R_drew HO_7.out)
             have n1_:=ak_ (Kd.R_drew HO_9.out)
             have n2_:=ak_ (below_drew1 HB.out)
             clear HO_7
             clear HO_9
             clear HB
             have HO_7:=n0_
             have HO_9:=n1_
             have HB:=n2_
             clear n0_ n1_ n2_
             obtain ⟨Ao22,co22,eo22⟩:=Kd.R_slice HO_7.out
             (first|subst eo22|(injection eo22 with f1_ f2_ f3_;have f4_:=f1_.symm;have f5_:=f3_.symm;clear f1_ f2_ f3_;subst f4_;subst f5_))
             have p157 : 0 ≤ (x41_2 : Int):=of_decide_eq_true (by first|(with_reducible assumption)|assumption)
             have q157 : x41_2 < (t150.length : Int):=of_decide_eq_true (by first|(with_reducible assumption)|assumption)
             obtain ⟨ad157,e157,hx157_0⟩:=Kd.at_int (Kd.R_reads' HO_7.out).2.2 x41_2 p157 q157
             cases e157
             replace p157:=eq_true p157
             replace q157:=eq_true q157
             have p158 : 0 ≤ (x41_2 : Int):=of_decide_eq_true (by first|(with_reducible assumption)|assumption)
             have q158 : x41_2 < (l0.length : Int):=of_decide_eq_true (by first|(with_reducible assumption)|assumption)
             obtain ⟨ad158,e158,hx158_0⟩:=Kd.at_int HR0.out x41_2 p158 q158
             have hw158_0:=hx158_0
             cases e158
             replace hx158_0:=(HB.out.cell (World.block_lt_of_cell? w _ hx158_0)).trans hx158_0
             replace p158:=eq_true p158
             replace q158:=eq_true q158
             refine start_ (n:=14) (S:=fun w' => w'.cell? (ad157.add (x41_2).toNat) = some (.int .i64 (rd t150 x41_2)) ∧ w'.cell? (ad158.add (x41_2).toNat) = some (.int .i64 (rd l0 x41_2))) (ds:=[13]) #[false,false,false,false,false,false,false,false,false,false,false,false,false,false] (by kernel_rfl) rfl rfl ⟨hx157_0,((HB.out.cell (World.block_lt_of_cell? w _ hw158_0)).trans hw158_0)⟩ (fun hHeld => ?_);refine with_tabW mdct_Forward.tab9 mdct_Forward.bits9 (fun HT_ HW_ => ?_)
             generalize wr.drew = w21 at HO_7 HO_9 HB hx157_0 hx158_0 hHeld ⊢
             refine pure_ (i:=0) (N:=some 44) (v:=?_) (a':=?_) #[true,false,false,false,false,false,false,false,false,false,false,false,false,false] rfl rfl (any_of HT_.out (by kernel_rfl)) (fun _ _ _ h => h) (Or.inl ⟨by rfl,?_⟩) ?_ ?_
             rotate_left
             ·intro w'
              go_simp
              with_reducible rfl
             rotate_left
             ·simp only [Act.put,List.setIfInBounds_toArray,List.set_cons_zero,List.set_cons_succ,i64_w,i32_w]
              rfl
             refine pure_ (i:=1) (N:=some 45) (v:=?_) (a':=?_) #[true,true,false,false,false,false,false,false,false,false,false,false,false,false] rfl rfl (any_of HT_.out (by kernel_rfl)) (fun _ _ _ h => h) (Or.inl ⟨by rfl,?_⟩) ?_ ?_
             rotate_left
             ·intro w'
              go_simp
              with_reducible rfl
             rotate_left
             ·simp only [Act.put,List.setIfInBounds_toArray,List.set_cons_zero,List.set_cons_succ,i64_w,i32_w]
              rfl
             refine pure_ (i:=2) (N:=some 46) (v:=?_) (a':=?_) #[true,true,true,false,false,false,false,false,false,false,false,false,false,false] rfl rfl (any_of HT_.out (by kernel_rfl)) (fun _ _ _ h => h) (Or.inl ⟨by rfl,?_⟩) ?_ ?_
             rotate_left
             ·intro w'
              go_simp
              with_reducible rfl
             rotate_left
             ·simp only [Act.put,List.setIfInBounds_toArray,List.set_cons_zero,List.set_cons_succ,i64_w,i32_w]
              rfl
             refine pure_ (i:=3) (N:=some 47) (v:=?_) (a':=?_) #[true,true,true,true,false,false,false,false,false,false,false,false,false,false] rfl rfl (any_of HT_.out (by kernel_rfl)) (fun _ _ _ h => h) (Or.inl ⟨by rfl,?_⟩) ?_ ?_
             rotate_left
             ·intro w'
              go_simp
              with_reducible rfl
             rotate_left
             ·simp only [Act.put,List.setIfInBounds_toArray,List.set_cons_zero,List.set_cons_succ,i64_w,i32_w]
              rfl
             refine pure_ (i:=4) (N:=some 48) (v:=?_) (a':=?_) #[true,true,true,true,true,false,false,false,false,false,false,false,false,false] rfl rfl (any_of HT_.out (by kernel_rfl)) (fun _ _ _ h => h) (Or.inl ⟨by rfl,?_⟩) ?_ ?_
             rotate_left
             ·intro w'
              go_simp
              with_reducible rfl
             rotate_left
             ·simp only [Act.put,List.setIfInBounds_toArray,List.set_cons_zero,List.set_cons_succ,i64_w,i32_w]
              rfl
             refine pure_ (i:=6) (N:=some 50) (v:=?_) (a':=?_) #[true,true,true,true,true,false,true,false,false,false,false,false,false,false] rfl rfl (any_of HT_.out (by kernel_rfl)) (fun _ _ _ h => h) (Or.inl ⟨by rfl,?_⟩) ?_ ?_
             rotate_left
             ·intro w'
              go_simp
              with_reducible rfl
             rotate_left
             ·simp only [Act.put,List.setIfInBounds_toArray,List.set_cons_zero,List.set_cons_succ,i64_w,i32_w]
              rfl
             refine pure_ (i:=7) (N:=some 51) (v:=?_) (a':=?_) #[true,true,true,true,true,false,true,true,false,false,false,false,false,false] rfl rfl (any_of HT_.out (by kernel_rfl)) (fun _ _ _ h => h) (Or.inl ⟨by rfl,?_⟩) ?_ ?_
             rotate_left
             ·intro w'
              go_simp
              with_reducible rfl
             rotate_left
             ·simp only [Act.put,List.setIfInBounds_toArray,List.set_cons_zero,List.set_cons_succ,i64_w,i32_w]
              rfl
             refine pure_ (i:=8) (N:=some 52) (v:=?_) (a':=?_) #[true,true,true,true,true,false,true,true,true,false,false,false,false,false] rfl rfl (any_of HT_.out (by kernel_rfl)) (fun _ _ _ h => h) (Or.inl ⟨by rfl,?_⟩) ?_ ?_
             rotate_left
             ·intro w'
              go_simp
              with_reducible rfl
             rotate_left
             ·simp only [Act.put,List.setIfInBounds_toArray,List.set_cons_zero,List.set_cons_succ,i64_w,i32_w]
              rfl
             refine take_ (i:=5) (N:=some 49) (v:=?_) (a':=?_) #[true,true,true,true,true,true,true,true,true,false,false,false,false,false] rfl rfl (take_ofW HT_.out HW_.out (by kernel_rfl)) (fun _ _ _ h => h) (Or.inl ⟨by rfl,?_⟩) hHeld ?_ ?_
             rotate_left
             ·rintro w' ⟨s0,s1⟩
              go_simp
              with_reducible rfl
             rotate_left
             ·simp only [Act.put,List.setIfInBounds_toArray,List.set_cons_zero,List.set_cons_succ,i64_w,i32_w]
              rfl
             refine take_ (i:=9) (N:=some 53) (v:=?_) (a':=?_) #[true,true,true,true,true,true,true,true,true,true,false,false,false,false] rfl rfl (take_ofW HT_.out HW_.out (by kernel_rfl)) (fun _ _ _ h => h) (Or.inl ⟨by rfl,?_⟩) hHeld ?_ ?_
             rotate_left
             ·rintro w' ⟨s0,s1⟩
              go_simp
              with_reducible rfl
             rotate_left
             ·simp only [Act.put,List.setIfInBounds_toArray,List.set_cons_zero,List.set_cons_succ,i64_w,i32_w]
              rfl
             refine one_ (i:=10) (N:=some 54) #[true,true,true,true,true,true,true,true,true,true,true,false,false,false] rfl rfl (one_of HT_.out (by kernel_rfl)) (by decide) (fun K hK => ?_)
             refine goes_ Try.func28 (by kernel_rfl) rfl #[.int .i64 (rd l0 x41_2),.int .i64 (-16777216),.int .i64 16777216] (by rfl) rfl rfl (by (try simp only [List.map_toArray,List.map_cons,List.map_nil]);first|done|rfl|(simp only [List.length_drop,List.length_take];rfl)) ?_
             with_reducible refine (fix_Clamp.calls k2 (rd l0 x41_2) (-16777216) 16777216 t159 _ A17.out).mono ?_
             rintro e w' ⟨rfl,⟨nd,rfl⟩⟩
             refine ⟨_,rfl,?_⟩
             refine hK.out _ _ ⟨hHeld.1,((HB.out.cell (World.block_lt_of_cell? w _ hw158_0)).trans hw158_0)⟩ (fun hHeld => ?_)
             clear hK K
             refine norm_ (a':=?_) ?_ ?_
             rotate_left
             ·show Act.put _ (some 54) _ = _
              simp only [Act.put,List.setIfInBounds_toArray,List.set_cons_zero,List.set_cons_succ,i64_w,i32_w]
              rfl
             refine one_ (i:=11) (N:=some 55) #[true,true,true,true,true,true,true,true,true,true,true,true,false,false] rfl rfl (one_of HT_.out (by kernel_rfl)) (by decide) (fun K hK => ?_)
             refine goes_ Try.func27 (by kernel_rfl) rfl #[.int .i64 (rd t150 x41_2),.int .i64 t159,.int .i64 15] (by rfl) rfl rfl (by (try simp only [List.map_toArray,List.map_cons,List.map_nil]);first|done|rfl|(simp only [List.length_drop,List.length_take];rfl)) ?_
             with_reducible refine (fix_Mul.calls k2 (rd t150 x41_2) t159 15 t160 _ A18.out).mono ?_
             rintro e w' ⟨rfl,⟨nd,rfl⟩⟩
             refine ⟨_,rfl,?_⟩
             have p20 : 0 ≤ (x41_2 : Int):=of_decide_eq_true (by first|(with_reducible assumption)|assumption)
             have q20 : (x41_2 : Int) < ((x9_2.length : Int) : Int):=of_decide_eq_true (by first|(with_reducible assumption)|assumption)
             obtain ⟨go20,co20,eo20,gb20,gl20,cl20,HG20⟩:=Kd.R_form HO_9.out (by omega)
             (first|cases eo20|(injection eo20 with ea_ en_ ec_;(first|subst ea_|(injection ea_ with ea_;subst ea_));subst ec_;clear en_))
             have GB20:=ak_ gb20
             have GG20:=ak_ HG20
             clear gb20 gl20 HG20
             obtain ⟨hx20_0,hf20_0⟩:=Kd.R_celln 0 HO_9.out (x41_2 : Int) p20 q20
             replace p20:=eq_true p20
             replace q20:=eq_true q20
             have HP23:=Kd.R_putn HO_9.out (x41_2 : Int) t160
             rw [← Ny161.out] at HP23
             have HQ23:=ak_ HP23
             clear HP23
             refine hK.out _ _ ⟨hHeld.1,((HB.out.cell (World.block_lt_of_cell? w _ hw158_0)).trans hw158_0)⟩ (fun hHeld => ?_)
             clear hK K
             refine norm_ (a':=?_) ?_ ?_
             rotate_left
             ·show Act.put _ (some 55) _ = _
              simp only [Act.put,List.setIfInBounds_toArray,List.set_cons_zero,List.set_cons_succ,i64_w,i32_w]
              rfl
             refine pure_ (i:=12) (N:=some 56) (v:=?_) (a':=?_) #[true,true,true,true,true,true,true,true,true,true,true,true,true,false] rfl rfl (any_of HT_.out (by kernel_rfl)) (fun _ _ _ h => h) (Or.inl ⟨by rfl,?_⟩) ?_ ?_
             rotate_left
             ·intro w'
              go_simp
              with_reducible rfl
             rotate_left
             ·simp only [Act.put,List.setIfInBounds_toArray,List.set_cons_zero,List.set_cons_succ,i64_w,i32_w]
              rfl
             refine last_ (i:=13) (N:=none) #[true,true,true,true,true,true,true,true,true,true,true,true,true,true] rfl rfl (one_of HT_.out (by kernel_rfl)) (by decide) (fun K hK => ?_)
             refine skip_ (w1:=?_) (by rfl) rfl ?_ ?_
             rotate_left
             ·go_simp
              rfl
             refine hK.out _ _ ?_
             clear hK K
             refine done_ (done_of HT_.out (by kernel_rfl)) ?_
             try go_wp2
             (try simp only [← hl9_2])
             go_roundg k2
             case measure => have:=HJ3.out;have:=HK2.out;omega
             case rel => exact ⟨(y161),(wrap64 (x41_2 + 1)),(by first|rfl|(simp;done)|(simp [*];done)),H',⟨by have:=HJ3.out;have:=HK2.out;omega⟩,⟨by (try simp only [hl9_2]);(with_reducible repeat (first|apply ra_|apply rb_|apply rc_));exact Kd.R_mono (Kd.R_far (p:=⟨go20,(x41_2 : Int).toNat,none⟩) (Kd.R_mono HO_7.out (fun k_ hk => (⟨hk,fun e_ => hk (by rw [e_];rfl)⟩ : _ ∧ k_ ≠ go20))) (fun _ hk => hk.2) (.int .i64 t160)) (fun _ hk => hk.1)⟩,⟨by (try simp only [hl9_2]);(with_reducible repeat (first|apply ra_|apply rb_|apply rc_));exact HQ23.out⟩,⟨by repeat (first|(with_reducible first|exact HB.out|apply ba_|apply bb_|apply bc_|refine below_set ?_ GB20.out)|exact HB.out)⟩⟩
            ·rw [if_neg c19] at H
             exact absurd H (by simp)
           ·rw [if_neg c16] at H
            exact absurd H (by simp)
          ·rw [if_neg c15] at H
           exact absurd H (by simp)
         ·rw [if_neg c14] at H
          exact absurd H (by simp)
        ·rw [if_neg c13] at H
         have c13b0:=decide_eq_false c13
         (try (have c13h0:=c13b0;simp only [hl9_2] at c13h0))
         clear c13
         replace H:=Option.bind_eq_some_iff.mp H
         obtain ⟨t162,A240,H⟩:=H
         (try dsimp only at H)
         have A24:=ak_ A240
         clear A240
         obtain ⟨ji25,hji25⟩ : ∃ j_ : Int,(wrap64 ((l0.length : Int) / 2)) = j_:=⟨_,rfl⟩
         replace H : (if 0 ≤ (ji25) then (if ((ji25) : Int).toNat ≤ 35184372088832 then ((some (List.replicate ((ji25) : Int).toNat 0 : List Int)).bind fun y165 => (mdct_Forward.l1 k2 (ji25) x9_2 t162 y165 (y165.length : Int) 0)) else (none)) else (none)) = some (r1,r2):=by first|(rw [hji25] at H;exact H)|(simp only [hji25] at H ⊢;exact H)
         (try rw [hji25] at A24)
         have hji25w : (IntKind.i64.wrap ((l0.length : Int) / 2)) = ji25:=(i64_w _).trans hji25
         by_cases c26 : 0 ≤ (ji25)
         ·rw [if_pos c26] at H
          have c26b0:=eq_true c26
          have c26b1 : decide (0 ≤ (ji25)) = true:=decide_eq_true c26
          clear c26
          by_cases c27 : ((ji25) : Int).toNat ≤ 35184372088832
          ·rw [if_pos c27] at H
           have c27b0:=eq_true c27
           have c27b1 : decide (((ji25) : Int).toNat ≤ 35184372088832) = true:=decide_eq_true c27
           clear c27
           obtain ⟨y165,hy165⟩ : ∃ y_ : List Int,y_ = (List.replicate ((ji25) : Int).toNat 0):=⟨_,rfl⟩
           replace H : (mdct_Forward.l1 k2 (ji25) x9_2 t162 y165 (y165.length : Int) 0) = some (r1,r2):=by first|(rw [hy165];with_reducible exact H)|(have H2_:=(Option.bind_some _ _).symm.trans H;rw [hy165];with_reducible exact H2_)|(have H2_:=(Option.bind_some _ _).symm.trans H;with_reducible exact H2_)|with_reducible exact H|(rw [hy165];exact H)|exact H
           have Ny165:=ak_ hy165
           clear hy165
           have H':=ak_ H
           clear H
           go_wp2_with (first|((with_reducible refine gate_callee (f:=29) rfl ?_);refine goesL_ (some 59) rfl rfl Try.func29 (by kernel_rfl) rfl #[.int .i64 (ji25)] rfl (by (try simp only [List.map_toArray,List.map_cons,List.map_nil]);first|done|(simp only [hji25];rfl)|rfl|(simp only [List.length_drop,List.length_take];rfl)) ?_;(with_reducible refine (mdct_waves.calls k2 (ji25) t162 _ A24.out).mono ?_);rintro e w28 ⟨v163,rfl,ho0,hb⟩;refine ⟨_,rfl,?_⟩;have n0_:=ak_ (Kd.R_elder' (by (with_reducible repeat (first|apply ra_|apply rb_|apply rc_));exact HO_7.out) (Kd.R_base ho0) hb);have n1_:=ak_ (Kd.R_elder' (by (with_reducible repeat (first|apply ra_|apply rb_|apply rc_));exact HO_9.out) (Kd.R_base ho0) hb);have n2_:=ak_ (Kd.R_lower (Kd.R_new' (Kd.R_new' ho0 (Kd.R_lt (by (with_reducible repeat (first|apply ra_|apply rb_|apply rc_));exact HO_7.out))) (Kd.R_lt (by (with_reducible repeat (first|apply ra_|apply rb_|apply rc_));exact HO_9.out))) (below_size (by repeat (first|(with_reducible first|exact HB.out|apply ba_|apply bb_|apply bc_)|exact HB.out))));have n3_:=ak_ (below_step (by repeat (first|(with_reducible first|exact HB.out|apply ba_|apply bb_|apply bc_)|exact HB.out)) hb);clear HO_7;clear HO_9;clear HB;have HO_7:=n0_;have HO_9:=n1_;have HO164:=n2_;have HB:=n3_;clear n0_ n1_ n2_ n3_;(try clear hb);(try clear ho0))|((with_reducible refine gate_dst (N:=61) rfl ?_);(try (refine gate_guard (by rfl) ?_;dsimp only));refine Kd.R_make (Kd.int .i64) _ 2 rfl (N:=61) rfl 23 _ _ rfl (ji25) rfl rfl Try.underlying23 (.int .i64 0) 8 info2 rfl (by decide) (by omega) 0 (ok:=fun _ => True) (okp:=fun _ => True) rfl (fun _ hk => hk) trivial (of_decide_eq_true (by first|(with_reducible assumption)|assumption)) (Nat.le_trans (Nat.mul_le_mul_right _ (of_decide_eq_true (by first|(with_reducible assumption)|assumption) : (ji25).toNat ≤ 35184372088832)) (by omega)) (Below.refl _ _) (Nat.le_refl _) ?_;intro v166 w29 ho30 hb hg_ hnew_;clear hg_ hnew_;(first|rw [← Ny165.out] at ho30|(simp only [Int.reduceToNat] at ho30;rw [← Ny165.out] at ho30));have n0_:=ak_ (Kd.R_elder' (by (with_reducible repeat (first|apply ra_|apply rb_|apply rc_));exact HO_7.out) (Kd.R_base ho30) hb);have n1_:=ak_ (Kd.R_elder' (by (with_reducible repeat (first|apply ra_|apply rb_|apply rc_));exact HO_9.out) (Kd.R_base ho30) hb);have n2_:=ak_ (Kd.R_elder' (by (with_reducible repeat (first|apply ra_|apply rb_|apply rc_));exact HO164.out) (Kd.R_base ho30) hb);have n3_:=ak_ (Kd.R_lower (Kd.R_new' (Kd.R_new' (Kd.R_new' ho30 (Kd.R_lt (by (with_reducible repeat (first|apply ra_|apply rb_|apply rc_));exact HO_7.out))) (Kd.R_lt (by (with_reducible repeat (first|apply ra_|apply rb_|apply rc_));exact HO_9.out))) (Kd.R_lt (by (with_reducible repeat (first|apply ra_|apply rb_|apply rc_));exact HO164.out))) (below_size (by repeat (first|(with_reducible first|exact HB.out|apply ba_|apply bb_|apply bc_)|exact HB.out))));have n4_:=ak_ (below_step (by repeat (first|(with_reducible first|exact HB.out|apply ba_|apply bb_|apply bc_)|exact HB.out)) hb);clear HO_7;clear HO_9;clear HO164;clear HB;have HO_7:=n0_;have HO_9:=n1_;have HO164:=n2_;have HO167:=n3_;have HB:=n4_;clear n0_ n1_ n2_ n3_ n4_;clear hb ho30;obtain ⟨Ao31,co31,eo31⟩:=Kd.R_slice HO167.out;subst eo31))
           go_loopg [64] k2 (fun kq v64 w' => ∃ (x12_3 : List Int) (x64_3 : Int),v64 = .int .i64 x64_3 ∧ Aside0 (mdct_Forward.l1 kq (ji25) x9_2 t162 x12_3 (y165.length : Int) x64_3 = some (r1,r2)) ∧ Aside0 (kq ≤ k2) ∧ Aside0 (Kd.R (Kd.int .i64) 2 w' w.heap.size (fun k_ => some k_ ≠ (v163 : Value).ownBlock ∧ some k_ ≠ ((.slice Ao31 y165.length co31) : Value).ownBlock) (.slice Ao12 x9_2.length co12) x9_2) ∧ Aside0 (Kd.R (Kd.int .i64) 2 w' w.heap.size (fun k_ => some k_ ≠ ((.slice Ao12 x9_2.length co12) : Value).ownBlock ∧ some k_ ≠ ((.slice Ao31 y165.length co31) : Value).ownBlock) v163 t162) ∧ Aside0 (Kd.R (Kd.int .i64) 2 w' w.heap.size (fun k_ => some k_ ≠ ((.slice Ao12 x9_2.length co12) : Value).ownBlock ∧ some k_ ≠ (v163 : Value).ownBlock) (.slice Ao31 y165.length co31) x12_3) ∧ Aside0 (Below w.heap.size w w'))
           case atStart => exact ⟨(y165),(0),(by first|rfl|(simp;done)|(simp [*];done)),H',⟨Nat.le_refl _⟩,⟨by (try simp only [hl9_2]);(with_reducible repeat (first|apply ra_|apply rb_|apply rc_));exact Kd.R_mono HO_9.out (fun _ hk => ⟨hk.1.2,hk.2⟩)⟩,⟨by (try simp only [hl9_2]);(with_reducible repeat (first|apply ra_|apply rb_|apply rc_));exact Kd.R_mono HO164.out (fun _ hk => ⟨hk.1.2,hk.2⟩)⟩,⟨by (try simp only [hl9_2]);(with_reducible repeat (first|apply ra_|apply rb_|apply rc_));exact Kd.R_mono HO167.out (fun _ hk => ⟨hk.1.2,hk.2⟩)⟩,⟨by repeat (first|(with_reducible first|exact HB.out|apply ba_|apply bb_|apply bc_)|exact HB.out)⟩⟩
           case round =>
            clear H'
            try clear c1
            try clear p1
            try clear q1
            try clear hx1
            try clear c2
            try clear p2
            try clear q2
            try clear hx2
            try clear hf2
            try clear c6
            try clear c6b0
            try clear c6b1
            try clear p6
            try clear c7
            try clear c8
            try clear c8b0
            try clear c8b1
            try clear c9
            try clear c9b0
            try clear c9b1
            try clear c10
            try clear c11
            try clear c13
            try clear c13b0
            try clear c13h0
            try clear c14
            try clear c14b0
            try clear c14h0
            try clear c15
            try clear c15b0
            try clear c15h0
            try clear p15
            try clear q15
            try clear hx15
            try clear c16
            try clear c16b0
            try clear c16h0
            try clear c19
            try clear c19b0
            try clear c19h0
            try clear p20
            try clear q20
            try clear hx20
            try clear hf20
            try clear c26
            try clear c26b0
            try clear c26b1
            try clear c27
            try clear c27b0
            try clear c27b1
            try clear c28
            try clear c29
            try clear hx157_0
            try clear hx158_0
            try clear hx20_0
            try clear p157
            try clear p158
            try clear p2
            try clear p20
            try clear p6
            try clear q157
            try clear q158
            try clear q20
            obtain ⟨x12_3,x64_3,rfl,HA,HK3,HO_9,HO_11,HO_12,HB⟩:=hrel
            (try simp only [i64_w,i32_w])
            have hl12_3:=(Kd.R_reads' HO_12.out).1
            rw [hl12_3] at HO_12
            (try simp only [hl12_3])
            (try simp only [hl12_3] at HO_9)
            (try simp only [hl12_3] at HO_11)
            cases gk with
            | zero => exact absurd HA.out (by simp [mdct_Forward.l1])
            | succ k3 =>
             have H:=HA.out
             clear HA
             simp only [mdct_Forward.l1] at H
             by_cases c32 : x64_3 < (y165.length : Int)
             ·rw [if_pos c32] at H
              have c32b0:=decide_eq_true c32
              (try (have c32h0:=c32b0;simp only [hl9_2,hl12_3] at c32h0))
              clear c32
              by_cases c33 : (wrap64 (8 * (ji25))) = 0
              ·rw [if_pos c33] at H
               exact absurd H (by simp)
              ·rw [if_neg c33] at H
               have c33b0 : ((wrap64 (8 * (ji25))) == 0) = false:=beq_eq_false_iff_ne.mpr c33
               have c33b1 : ((wrap64 (8 * (ji25))) != 0) = true:=bne_iff_ne.mpr c33
               (try (have c33h0:=c33b0;simp only [hl9_2,hl12_3] at c33h0))
               (try (have c33h1:=c33b1;simp only [hl9_2,hl12_3] at c33h1))
               have H':=ak_ H
               clear H
               try go_wp2
               have n0_:=ak_ (Kd.R_drew HO_9.out)
               have n1_:=ak_ (Kd.R_drew HO_11.out)
               have n2_:=ak_ (Kd.R_drew HO_12.out)
               have n3_:=ak_ (below_drew1 HB.out)
               clear HO_9
               clear HO_11
               clear HO_12
               clear HB
               have HO_9:=n0_
               have HO_11:=n1_
               have HO_12:=n2_
               have HB:=n3_
               clear n0_ n1_ n2_ n3_
               refine start_ (n:=18) (S:=fun w' => True) (ds:=[]) #[false,false,false,false,false,false,false,false,false,false,false,false,false,false,false,false,false,false] (by kernel_rfl) rfl rfl trivial (fun hHeld => ?_);refine with_tabW mdct_Forward.tab17 mdct_Forward.bits17 (fun HT_ HW_ => ?_)
               generalize wr.drew = w34 at HO_9 HO_11 HO_12 HB hHeld ⊢
               refine pure_ (i:=0) (N:=some 67) (v:=?_) (a':=?_) #[true,false,false,false,false,false,false,false,false,false,false,false,false,false,false,false,false,false] rfl rfl (any_of HT_.out (by kernel_rfl)) (fun _ _ _ h => h) (Or.inl ⟨by rfl,?_⟩) ?_ ?_
               rotate_left
               ·intro w'
                go_simp
                with_reducible rfl
               rotate_left
               ·simp only [Act.put,List.setIfInBounds_toArray,List.set_cons_zero,List.set_cons_succ,i64_w,i32_w]
                rfl
               refine pure_ (i:=1) (N:=some 68) (v:=?_) (a':=?_) #[true,true,false,false,false,false,false,false,false,false,false,false,false,false,false,false,false,false] rfl rfl (any_of HT_.out (by kernel_rfl)) (fun _ _ _ h => h) (Or.inl ⟨by rfl,?_⟩) ?_ ?_
               rotate_left
               ·intro w'
                go_simp
                with_reducible rfl
               rotate_left
               ·simp only [Act.put,List.setIfInBounds_toArray,List.set_cons_zero,List.set_cons_succ,i64_w,i32_w]
                rfl
               refine pure_ (i:=2) (N:=some 69) (v:=?_) (a':=?_) #[true,true,true,false,false,false,false,false,false,false,false,false,false,false,false,false,false,false] rfl rfl (any_of HT_.out (by kernel_rfl)) (fun _ _ _ h => h) (Or.inl ⟨by rfl,?_⟩) ?_ ?_
               rotate_left
               ·intro w'
                go_simp
                with_reducible rfl
               rotate_left
               ·simp only [Act.put,List.setIfInBounds_toArray,List.set_cons_zero,List.set_cons_succ,i64_w,i32_w]
                rfl
               refine pure_ (i:=3) (N:=some 70) (v:=?_) (a':=?_) #[true,true,true,true,false,false,false,false,false,false,false,false,false,false,false,false,false,false] rfl rfl (any_of HT_.out (by kernel_rfl)) (fun _ _ _ h => h) (Or.inl ⟨by rfl,?_⟩) ?_ ?_
               rotate_left
               ·intro w'
                go_simp
                with_reducible rfl
               rotate_left
               ·simp only [Act.put,List.setIfInBounds_toArray,List.set_cons_zero,List.set_cons_succ,i64_w,i32_w]
                rfl
               refine pure_ (i:=4) (N:=some 71) (v:=?_) (a':=?_) #[true,true,true,true,true,false,false,false,false,false,false,false,false,false,false,false,false,false] rfl rfl (any_of HT_.out (by kernel_rfl)) (fun _ _ _ h => h) (Or.inl ⟨by rfl,?_⟩) ?_ ?_
               rotate_left
               ·intro w'
                go_simp
                with_reducible rfl
               rotate_left
               ·simp only [Act.put,List.setIfInBounds_toArray,List.set_cons_zero,List.set_cons_succ,i64_w,i32_w]
                rfl
               refine pure_ (i:=5) (N:=some 72) (v:=?_) (a':=?_) #[true,true,true,true,true,true,false,false,false,false,false,false,false,false,false,false,false,false] rfl rfl (any_of HT_.out (by kernel_rfl)) (fun _ _ _ h => h) (Or.inl ⟨by rfl,?_⟩) ?_ ?_
               rotate_left
               ·intro w'
                go_simp
                with_reducible rfl
               rotate_left
               ·simp only [Act.put,List.setIfInBounds_toArray,List.set_cons_zero,List.set_cons_succ,i64_w,i32_w]
                rfl
               refine pure_ (i:=6) (N:=some 73) (v:=?_) (a':=?_) #[true,true,true,true,true,true,true,false,false,false,false,false,false,false,false,false,false,false] rfl rfl (any_of HT_.out (by kernel_rfl)) (fun _ _ _ h => h) (Or.inl ⟨by rfl,?_⟩) ?_ ?_
               rotate_left
               ·intro w'
                go_simp
                with_reducible rfl
               rotate_left
               ·simp only [Act.put,List.setIfInBounds_toArray,List.set_cons_zero,List.set_cons_succ,i64_w,i32_w]
                rfl
               refine pure_ (i:=7) (N:=some 74) (v:=?_) (a':=?_) #[true,true,true,true,true,true,true,true,false,false,false,false,false,false,false,false,false,false] rfl rfl (any_of HT_.out (by kernel_rfl)) (fun _ _ _ h => h) (Or.inl ⟨by rfl,?_⟩) ?_ ?_
               rotate_left
               ·intro w'
                go_simp
                with_reducible rfl
               rotate_left
               ·simp only [Act.put,List.setIfInBounds_toArray,List.set_cons_zero,List.set_cons_succ,i64_w,i32_w]
                rfl
               refine pure_ (i:=8) (N:=some 75) (v:=?_) (a':=?_) #[true,true,true,true,true,true,true,true,true,false,false,false,false,false,false,false,false,false] rfl rfl (any_of HT_.out (by kernel_rfl)) (fun _ _ _ h => h) (Or.inl ⟨by rfl,?_⟩) ?_ ?_
               rotate_left
               ·intro w'
                go_simp
                with_reducible rfl
               rotate_left
               ·simp only [Act.put,List.setIfInBounds_toArray,List.set_cons_zero,List.set_cons_succ,i64_w,i32_w]
                rfl
               refine pure_ (i:=9) (N:=some 76) (v:=?_) (a':=?_) #[true,true,true,true,true,true,true,true,true,true,false,false,false,false,false,false,false,false] rfl rfl (any_of HT_.out (by kernel_rfl)) (fun _ _ _ h => h) (Or.inl ⟨by rfl,?_⟩) ?_ ?_
               rotate_left
               ·intro w'
                go_simp
                with_reducible rfl
               rotate_left
               ·simp only [Act.put,List.setIfInBounds_toArray,List.set_cons_zero,List.set_cons_succ,i64_w,i32_w]
                rfl
               refine pure_ (i:=10) (N:=some 77) (v:=?_) (a':=?_) #[true,true,true,true,true,true,true,true,true,true,true,false,false,false,false,false,false,false] rfl rfl (any_of HT_.out (by kernel_rfl)) (fun _ _ _ h => h) (Or.inl ⟨by rfl,?_⟩) ?_ ?_
               rotate_left
               ·intro w'
                go_simp
                with_reducible rfl
               rotate_left
               ·simp only [Act.put,List.setIfInBounds_toArray,List.set_cons_zero,List.set_cons_succ,i64_w,i32_w]
                rfl
               refine pure_ (i:=11) (N:=some 78) (v:=?_) (a':=?_) #[true,true,true,true,true,true,true,true,true,true,true,true,false,false,false,false,false,false] rfl rfl (any_of HT_.out (by kernel_rfl)) (fun _ _ _ h => h) (Or.inl ⟨by rfl,?_⟩) ?_ ?_
               rotate_left
               ·intro w'
                go_simp
                with_reducible rfl
               rotate_left
               ·simp only [Act.put,List.setIfInBounds_toArray,List.set_cons_zero,List.set_cons_succ,i64_w,i32_w]
                rfl
               refine pure_ (i:=12) (N:=some 79) (v:=?_) (a':=?_) #[true,true,true,true,true,true,true,true,true,true,true,true,true,false,false,false,false,false] rfl rfl (any_of HT_.out (by kernel_rfl)) (fun _ _ _ h => h) (Or.inl ⟨by rfl,?_⟩) ?_ ?_
               rotate_left
               ·intro w'
                go_simp
                with_reducible rfl
               rotate_left
               ·simp only [Act.put,List.setIfInBounds_toArray,List.set_cons_zero,List.set_cons_succ,i64_w,i32_w]
                rfl
               refine pure_ (i:=13) (N:=some 80) (v:=?_) (a':=?_) #[true,true,true,true,true,true,true,true,true,true,true,true,true,true,false,false,false,false] rfl rfl (any_of HT_.out (by kernel_rfl)) (fun _ _ _ h => h) (Or.inl ⟨by rfl,?_⟩) ?_ ?_
               rotate_left
               ·intro w'
                go_simp
                with_reducible rfl
               rotate_left
               ·simp only [Act.put,List.setIfInBounds_toArray,List.set_cons_zero,List.set_cons_succ,i64_w,i32_w]
                rfl
               refine pure_ (i:=14) (N:=some 81) (v:=?_) (a':=?_) #[true,true,true,true,true,true,true,true,true,true,true,true,true,true,true,false,false,false] rfl rfl (any_of HT_.out (by kernel_rfl)) (fun _ _ _ h => h) (Or.inl ⟨by rfl,?_⟩) ?_ ?_
               rotate_left
               ·intro w'
                go_simp
                with_reducible rfl
               rotate_left
               ·simp only [Act.put,List.setIfInBounds_toArray,List.set_cons_zero,List.set_cons_succ,i64_w,i32_w]
                rfl
               refine pure_ (i:=15) (N:=some 82) (v:=?_) (a':=?_) #[true,true,true,true,true,true,true,true,true,true,true,true,true,true,true,true,false,false] rfl rfl (any_of HT_.out (by kernel_rfl)) (fun _ _ _ h => h) (Or.inl ⟨by rfl,?_⟩) ?_ ?_
               rotate_left
               ·intro w'
                go_simp
                with_reducible rfl
               rotate_left
               ·simp only [Act.put,List.setIfInBounds_toArray,List.set_cons_zero,List.set_cons_succ,i64_w,i32_w]
                rfl
               refine pure_ (i:=16) (N:=some 15) (v:=?_) (a':=?_) #[true,true,true,true,true,true,true,true,true,true,true,true,true,true,true,true,true,false] rfl rfl (any_of HT_.out (by kernel_rfl)) (fun _ _ _ h => h) (Or.inl ⟨by rfl,?_⟩) ?_ ?_
               rotate_left
               ·intro w'
                go_simp
                with_reducible rfl
               rotate_left
               ·simp only [Act.put,List.setIfInBounds_toArray,List.set_cons_zero,List.set_cons_succ,i64_w,i32_w]
                rfl
               refine pure_ (i:=17) (N:=some 16) (v:=?_) (a':=?_) #[true,true,true,true,true,true,true,true,true,true,true,true,true,true,true,true,true,true] rfl rfl (any_of HT_.out (by kernel_rfl)) (fun _ _ _ h => h) (Or.inl ⟨by rfl,?_⟩) ?_ ?_
               rotate_left
               ·intro w'
                go_simp
                with_reducible rfl
               rotate_left
               ·simp only [Act.put,List.setIfInBounds_toArray,List.set_cons_zero,List.set_cons_succ,i64_w,i32_w]
                rfl
               refine done_ (done_of HT_.out (by kernel_rfl)) ?_
               try go_wp2
               go_loopg [14,15,85] k3 (fun kq v14 v15 v85 w' => ∃ (x14_4 : Int) (x15_4 : Int) (x85_4 : Int),v14 = .int .i64 x14_4 ∧ v15 = .int .i64 x15_4 ∧ v85 = .int .i64 x85_4 ∧ Aside0 (mdct_Forward.l2 kq (ji25) x9_2 t162 x12_3 x64_3 x14_4 x15_4 (Int.tmod (wrap64 (2 * (wrap64 ((wrap64 (2 * x64_3)) + 1)))) (wrap64 (8 * (ji25)))) (y165.length : Int) x64_3 (x9_2.length : Int) x85_4 = some (r1,r2)) ∧ Aside0 (kq ≤ k3) ∧ Aside0 (Kd.R (Kd.int .i64) 2 w' w.heap.size (fun k_ => some k_ ≠ (v163 : Value).ownBlock ∧ some k_ ≠ ((.slice Ao31 x12_3.length co31) : Value).ownBlock) (.slice Ao12 x9_2.length co12) x9_2) ∧ Aside0 (Kd.R (Kd.int .i64) 2 w' w.heap.size (fun k_ => some k_ ≠ ((.slice Ao12 x9_2.length co12) : Value).ownBlock ∧ some k_ ≠ ((.slice Ao31 x12_3.length co31) : Value).ownBlock) v163 t162) ∧ Aside0 (Kd.R (Kd.int .i64) 2 w' w.heap.size (fun k_ => some k_ ≠ ((.slice Ao12 x9_2.length co12) : Value).ownBlock ∧ some k_ ≠ (v163 : Value).ownBlock) (.slice Ao31 x12_3.length co31) x12_3) ∧ Aside0 (Below w.heap.size w w'))
               case atStart => exact ⟨(16384),(Int.tmod (wrap64 ((wrap64 (1 + (ji25))) * (wrap64 ((wrap64 (2 * x64_3)) + 1)))) (wrap64 (8 * (ji25)))),(0),(by first|rfl|(simp;done)|(simp [*];done)),(by first|rfl|(simp;done)|(simp only [← hji25] <;> (first|rfl|simp))|(simp [*];done)),(by first|rfl|(simp;done)|(simp [*];done)),H',⟨Nat.le_refl _⟩,⟨by (try simp only [hl9_2]);(try simp only [hl12_3]);(with_reducible repeat (first|apply ra_|apply rb_|apply rc_));exact HO_9.out⟩,⟨by (try simp only [hl9_2]);(try simp only [hl12_3]);(with_reducible repeat (first|apply ra_|apply rb_|apply rc_));exact HO_11.out⟩,⟨by (try simp only [hl9_2]);(try simp only [hl12_3]);(with_reducible repeat (first|apply ra_|apply rb_|apply rc_));exact HO_12.out⟩,⟨by repeat (first|(with_reducible first|exact HB.out|apply ba_|apply bb_|apply bc_)|exact HB.out)⟩⟩
               case round =>
                clear H'
                try clear c1
                try clear p1
                try clear q1
                try clear hx1
                try clear c2
                try clear p2
                try clear q2
                try clear hx2
                try clear hf2
                try clear c3
                try clear c6
                try clear c6b0
                try clear c6b1
                try clear p6
                try clear c7
                try clear c8
                try clear c8b0
                try clear c8b1
                try clear c9
                try clear c9b0
                try clear c9b1
                try clear c10
                try clear c11
                try clear c13
                try clear c13b0
                try clear c13h0
                try clear c14
                try clear c14b0
                try clear c14h0
                try clear c15
                try clear c15b0
                try clear c15h0
                try clear p15
                try clear q15
                try clear hx15
                try clear c16
                try clear c16b0
                try clear c16h0
                try clear c19
                try clear c19b0
                try clear c19h0
                try clear p20
                try clear q20
                try clear hx20
                try clear hf20
                try clear c26
                try clear c26b0
                try clear c26b1
                try clear c27
                try clear c27b0
                try clear c27b1
                try clear c28
                try clear c29
                try clear c32
                try clear c32b0
                try clear c32h0
                try clear c33
                try clear c33b0
                try clear c33b1
                try clear c33h0
                try clear c33h1
                try clear hx157_0
                try clear hx158_0
                try clear hx20_0
                try clear p1
                try clear p15
                try clear p157
                try clear p158
                try clear p2
                try clear p20
                try clear p6
                try clear q1
                try clear q15
                try clear q157
                try clear q158
                try clear q2
                try clear q20
                obtain ⟨x14_4,x15_4,x85_4,rfl,rfl,rfl,HA,HK4,HO_9,HO_11,HO_12,HB⟩:=hrel
                (try simp only [i64_w,i32_w])
                cases gk with
                | zero => exact absurd HA.out (by simp [mdct_Forward.l2])
                | succ k4 =>
                 have H:=HA.out
                 clear HA
                 simp only [mdct_Forward.l2] at H
                 by_cases c35 : x85_4 < (x9_2.length : Int)
                 ·rw [if_pos c35] at H
                  have c35b0:=decide_eq_true c35
                  (try (have c35h0:=c35b0;simp only [hl9_2,hl12_3] at c35h0))
                  clear c35
                  by_cases c36 : 0 ≤ x85_4
                  ·rw [if_pos c36] at H
                   have c36b0:=decide_eq_true c36
                   (try (have c36h0:=c36b0;simp only [hl9_2,hl12_3] at c36h0))
                   clear c36
                   by_cases c37 : x85_4 < (x9_2.length : Int)
                   ·rw [if_pos c37] at H
                    have c37b0:=decide_eq_true c37
                    (try (have c37h0:=c37b0;simp only [hl9_2,hl12_3] at c37h0))
                    clear c37
                    by_cases c38 : 0 ≤ x15_4
                    ·rw [if_pos c38] at H
                     have c38b0:=decide_eq_true c38
                     (try (have c38h0:=c38b0;simp only [hl9_2,hl12_3] at c38h0))
                     clear c38
                     by_cases c39 : x15_4 < (t162.length : Int)
                     ·rw [if_pos c39] at H
                      have c39b0:=decide_eq_true c39
                      (try (have c39h0:=c39b0;simp only [hl9_2,hl12_3] at c39h0))
                      clear c39
                      by_cases c40 : (wrap64 (x15_4 + (Int.tmod (wrap64 (2 * (wrap64 ((wrap64 (2 * x64_3)) + 1)))) (wrap64 (8 * (ji25)))))) ≥ (t162.length : Int)
                      ·rw [if_pos c40] at H
                       have c40b0 : decide ((t162.length : Int) ≤ (wrap64 (x15_4 + (Int.tmod (wrap64 (2 * (wrap64 ((wrap64 (2 * x64_3)) + 1)))) (wrap64 (8 * (ji25))))))) = true:=decide_eq_true c40
                       (try (have c40h0:=c40b0;simp only [hl9_2,hl12_3] at c40h0))
                       clear c40
                       have H':=ak_ H
                       clear H
                       have p168 : 0 ≤ (x85_4 : Int):=of_decide_eq_true (by first|(with_reducible assumption)|assumption)
                       have q168 : x85_4 < (x9_2.length : Int):=of_decide_eq_true (by first|(with_reducible assumption)|assumption)
                       obtain ⟨ad168,e168,hx168_0⟩:=Kd.at_int (Kd.R_reads' HO_9.out).2.2 x85_4 p168 q168
                       cases e168
                       replace p168:=eq_true p168
                       replace q168:=eq_true q168
                       obtain ⟨Ao41,co41,eo41⟩:=Kd.R_slice HO_11.out
                       subst eo41
                       have p169 : 0 ≤ (x15_4 : Int):=of_decide_eq_true (by first|(with_reducible assumption)|assumption)
                       have q169 : x15_4 < (t162.length : Int):=of_decide_eq_true (by first|(with_reducible assumption)|assumption)
                       obtain ⟨ad169,e169,hx169_0⟩:=Kd.at_int (Kd.R_reads' HO_11.out).2.2 x15_4 p169 q169
                       cases e169
                       replace p169:=eq_true p169
                       replace q169:=eq_true q169
                       go_wp2
                       go_roundg k4
                       case measure => have:=HJ3.out;have:=HK2.out;have:=HK3.out;have:=HK4.out;omega
                       case rel => exact ⟨(wrap64 (x14_4 + (wrap64 ((rd x9_2 x85_4) * (rd t162 x15_4))))),(wrap64 ((wrap64 (x15_4 + (Int.tmod (wrap64 (2 * (wrap64 ((wrap64 (2 * x64_3)) + 1)))) (wrap64 (8 * (ji25)))))) - (t162.length : Int))),(wrap64 (x85_4 + 1)),(by first|rfl|(simp;done)|(simp [*];done)),(by first|rfl|(simp;done)|(simp only [← hji25] <;> (first|rfl|simp))|(simp [*];done)),(by first|rfl|(simp;done)|(simp [*];done)),H',⟨by have:=HJ3.out;have:=HK2.out;have:=HK3.out;have:=HK4.out;omega⟩,⟨by (try simp only [hl9_2]);(try simp only [hl12_3]);(with_reducible repeat (first|apply ra_|apply rb_|apply rc_));exact HO_9.out⟩,⟨by (try simp only [hl9_2]);(try simp only [hl12_3]);(with_reducible repeat (first|apply ra_|apply rb_|apply rc_));exact HO_11.out⟩,⟨by (try simp only [hl9_2]);(try simp only [hl12_3]);(with_reducible repeat (first|apply ra_|apply rb_|apply rc_));exact HO_12.out⟩,⟨by repeat (first|(with_reducible first|exact HB.out|apply ba_|apply bb_|apply bc_)|exact HB.out)⟩⟩
                      ·rw [if_neg c40] at H
                       have c40b0 : decide ((t162.length : Int) ≤ (wrap64 (x15_4 + (Int.tmod (wrap64 (2 * (wrap64 ((wrap64 (2 * x64_3)) + 1)))) (wrap64 (8 * (ji25))))))) = false:=decide_eq_false c40
                       (try (have c40h0:=c40b0;simp only [hl9_2,hl12_3] at c40h0))
                       clear c40
                       have H':=ak_ H
                       clear H
                       have p168 : 0 ≤ (x85_4 : Int):=of_decide_eq_true (by first|(with_reducible assumption)|assumption)
                       have q168 : x85_4 < (x9_2.length : Int):=of_decide_eq_true (by first|(with_reducible assumption)|assumption)
                       obtain ⟨ad168,e168,hx168_0⟩:=Kd.at_int (Kd.R_reads' HO_9.out).2.2 x85_4 p168 q168
                       cases e168
                       replace p168:=eq_true p168
                       replace q168:=eq_true q168
                       obtain ⟨Ao42,co42,eo42⟩:=Kd.R_slice HO_11.out
                       subst eo42
                       have p169 : 0 ≤ (x15_4 : Int):=of_decide_eq_true (by first|(with_reducible assumption)|assumption)
                       have q169 : x15_4 < (t162.length : Int):=of_decide_eq_true (by first|(with_reducible assumption)|assumption)
                       obtain ⟨ad169,e169,hx169_0⟩:=Kd.at_int (Kd.R_reads' HO_11.out).2.2 x15_4 p169 q169
                       cases e169
                       replace p169:=eq_true p169
                       replace q169:=eq_true q169
                       go_wp2
                       go_roundg k4
                       case measure => have:=HJ3.out;have:=HK2.out;have:=HK3.out;have:=HK4.out;omega
                       case rel => exact ⟨(wrap64 (x14_4 + (wrap64 ((rd x9_2 x85_4) * (rd t162 x15_4))))),(wrap64 (x15_4 + (Int.tmod (wrap64 (2 * (wrap64 ((wrap64 (2 * x64_3)) + 1)))) (wrap64 (8 * (ji25)))))),(wrap64 (x85_4 + 1)),(by first|rfl|(simp;done)|(simp [*];done)),(by first|rfl|(simp;done)|(simp only [← hji25] <;> (first|rfl|simp))|(simp [*];done)),(by first|rfl|(simp;done)|(simp [*];done)),H',⟨by have:=HJ3.out;have:=HK2.out;have:=HK3.out;have:=HK4.out;omega⟩,⟨by (try simp only [hl9_2]);(try simp only [hl12_3]);(with_reducible repeat (first|apply ra_|apply rb_|apply rc_));exact HO_9.out⟩,⟨by (try simp only [hl9_2]);(try simp only [hl12_3]);(with_reducible repeat (first|apply ra_|apply rb_|apply rc_));exact HO_11.out⟩,⟨by (try simp only [hl9_2]);(try simp only [hl12_3]);(with_reducible repeat (first|apply ra_|apply rb_|apply rc_));exact HO_12.out⟩,⟨by repeat (first|(with_reducible first|exact HB.out|apply ba_|apply bb_|apply bc_)|exact HB.out)⟩⟩
                     ·rw [if_neg c39] at H
                      exact absurd H (by simp)
                    ·rw [if_neg c38] at H
                     exact absurd H (by simp)
                   ·rw [if_neg c37] at H
                    exact absurd H (by simp)
                  ·rw [if_neg c36] at H
                   exact absurd H (by simp)
                 ·rw [if_neg c35] at H
                  have c35b0:=decide_eq_false c35
                  (try (have c35h0:=c35b0;simp only [hl9_2,hl12_3] at c35h0))
                  clear c35
                  by_cases c43 : 0 ≤ x64_3
                  ·rw [if_pos c43] at H
                   have c43b0:=decide_eq_true c43
                   (try (have c43h0:=c43b0;simp only [hl9_2,hl12_3] at c43h0))
                   clear c43
                   by_cases c44 : x64_3 < (x12_3.length : Int)
                   ·rw [if_pos c44] at H
                    have c44b0:=decide_eq_true c44
                    (try (have c44h0:=c44b0;simp only [hl9_2,hl12_3] at c44h0))
                    clear c44
                    obtain ⟨y170,hy170⟩ : ∃ y_ : List Int,y_ = (x12_3.set (x64_3 : Int).toNat (x14_4 / 32768)):=⟨_,rfl⟩
                    replace H : (mdct_Forward.l1 k4 (ji25) x9_2 t162 y170 (y165.length : Int) (wrap64 (x64_3 + 1))) = some (r1,r2):=by first|(rw [hy170];with_reducible exact H)|(have H2_:=(Option.bind_some _ _).symm.trans H;rw [hy170];with_reducible exact H2_)|(have H2_:=(Option.bind_some _ _).symm.trans H;with_reducible exact H2_)|with_reducible exact H|(rw [hy170];exact H)|exact H
                    have Ny170:=ak_ hy170
                    clear hy170
                    have H':=ak_ H
                    clear H
                    have p45 : 0 ≤ (x64_3 : Int):=of_decide_eq_true (by first|(with_reducible assumption)|assumption)
                    have q45 : (x64_3 : Int) < ((x12_3.length : Int) : Int):=of_decide_eq_true (by first|(with_reducible assumption)|assumption)
                    obtain ⟨go45,co45,eo45,gb45,gl45,cl45,HG45⟩:=Kd.R_form HO_12.out (by omega)
                    (first|cases eo45|(injection eo45 with ea_ en_ ec_;(first|subst ea_|(injection ea_ with ea_;subst ea_));subst ec_;clear en_))
                    have GB45:=ak_ gb45
                    have GG45:=ak_ HG45
                    clear gb45 gl45 HG45
                    obtain ⟨hx45_0,hf45_0⟩:=Kd.R_celln 0 HO_12.out (x64_3 : Int) p45 q45
                    replace p45:=eq_true p45
                    replace q45:=eq_true q45
                    have HP46:=Kd.R_putg HO_12.out (x64_3 : Int) (x14_4 / 32768)
                    go_wp2_with (first|((with_reducible refine gate_store (t:=2) (p:=113) rfl ?_);refine store_event (t:=2) (p:=113) (v:=?vo_w47) (w1:=(wr.setCell ⟨go45,(x64_3 : Int).toNat,none⟩ (.int .i64 (x14_4 / 32768)))) ?hg ?ho ?hn ?hr ?_;(case ho => rfl);(case hg => rfl);(case hn => rfl);(case hr => first|(go_simp;done)|(go_simp;rfl));intro w47 hw;have hg : wr.grownBy w47 (some go45):=(by rw [hw];exact HP46.2);have hp_ : Kd.R (Kd.int .i64) 2 w47 w.heap.size (fun k_ => some k_ ≠ (.slice Ao12 x9_2.length co12 : Value).ownBlock ∧ some k_ ≠ (v163 : Value).ownBlock) (.slice (some ⟨go45,0,none⟩) x12_3.length co31) y170:=(by rw [hw,Ny170.out];exact HP46.1);clear HP46;have n0_:=ak_ (Kd.R_after (v:=(.slice (some ⟨go45,0,none⟩) x12_3.length co31)) (v1:=(.slice (some ⟨go45,0,none⟩) x12_3.length co31)) (ok:=(fun k_ => some k_ ≠ (v163 : Value).ownBlock)) (by (with_reducible repeat (first|apply ra_|apply rb_|apply rc_));exact HO_9.out) hg (.inl rfl));have n1_:=ak_ (Kd.R_after (v:=(.slice (some ⟨go45,0,none⟩) x12_3.length co31)) (v1:=(.slice (some ⟨go45,0,none⟩) x12_3.length co31)) (ok:=(fun k_ => some k_ ≠ (.slice Ao12 x9_2.length co12 : Value).ownBlock)) (by (with_reducible repeat (first|apply ra_|apply rb_|apply rc_));exact HO_11.out) hg (.inl rfl));have n2_:=ak_ (hp_);have n3_:=ak_ ((by rw [hw];exact below_set (HB.out) GB45.out : Below w.heap.size w w47));clear HO_9;clear HO_11;clear HO_12;clear HB;have HO_9:=n0_;have HO_11:=n1_;have HO_12:=n2_;have HB:=n3_;clear n0_ n1_ n2_ n3_;clear hg hw hp_))
                    (try simp only [← hl12_3])
                    go_roundg k4
                    case measure => have:=HJ3.out;have:=HK2.out;have:=HK3.out;have:=HK4.out;omega
                    case rel => exact ⟨(y170),(wrap64 (x64_3 + 1)),(by first|rfl|(simp;done)|(simp [*];done)),H',⟨by have:=HJ3.out;have:=HK2.out;have:=HK3.out;have:=HK4.out;omega⟩,⟨by (try simp only [hl9_2]);(try simp only [hl12_3]);(with_reducible repeat (first|apply ra_|apply rb_|apply rc_));exact HO_9.out⟩,⟨by (try simp only [hl9_2]);(try simp only [hl12_3]);(with_reducible repeat (first|apply ra_|apply rb_|apply rc_));exact HO_11.out⟩,⟨by (try simp only [hl9_2]);(try simp only [hl12_3]);(with_reducible repeat (first|apply ra_|apply rb_|apply rc_));exact HO_12.out⟩,⟨by repeat (first|(with_reducible first|exact HB.out|apply ba_|apply bb_|apply bc_)|exact HB.out)⟩⟩
                   ·rw [if_neg c44] at H
                    exact absurd H (by simp)
                  ·rw [if_neg c43] at H
                   exact absurd H (by simp)
             ·rw [if_neg c32] at H
              have c32b0:=decide_eq_false c32
              (try (have c32h0:=c32b0;simp only [hl9_2,hl12_3] at c32h0))
              clear c32
              simp only [Option.some.injEq,Prod.mk.injEq] at H
              obtain ⟨rfl,rfl⟩:=H
              go_wp2
              go_ret2
              exact ⟨_,by first|rfl|(simp [errW_none,errW_some] <;> rfl)|(simp only [← hji25];first|rfl|(simp [errW_none,errW_some] <;> rfl))|(simp [*,errW_none,errW_some] <;> rfl),by (with_reducible repeat (first|apply ra_|apply rb_|apply rc_));exact Kd.R_mono HO_12.out (fun _ hk => trivial),by repeat (first|(with_reducible first|exact HB.out|apply ba_|apply bb_|apply bc_)|exact HB.out)⟩
          ·rw [if_neg c27] at H
           exact absurd H (by simp)
         ·rw [if_neg c26] at H
          exact absurd H (by simp)
     ·rw [if_neg c9] at H
      exact absurd H (by simp)
    ·rw [if_neg c8] at H
     exact absurd H (by simp)

end Go.Proofs.Ytlmacbiahofmcaa.P
