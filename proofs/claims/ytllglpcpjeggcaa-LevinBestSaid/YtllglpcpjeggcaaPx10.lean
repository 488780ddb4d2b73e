/- The machine side of the laws of one chapter, without conditions: each call of a Go function comes to what the Lean function of its name answers. Written for this claim by a program of the prover. -/
import Derived.Test.YtllglpcpjeggcaaPx0
import Derived.Test.YtllglpcpjeggcaaPx1
import Derived.Test.YtllglpcpjeggcaaPx4
import Derived.Test.YtllglpcpjeggcaaPx5
import Derived.Test.YtllglpcpjeggcaaPx6
import Derived.Test.YtllglpcpjeggcaaPx9
namespace Go.Proofs.Ytllglpcpjeggcaa.P
open Go.RowKit Go.Proofs.YtllglpcpjeggcaaW.PrintWords Go.Proofs.YtllglpcpjeggcaaW.PrintLast Go.Proofs.YtllglpcpjeggcaaW.PrintMore
attribute [local go_sem] max2_int min2_int max_two min_two max_three min_three max_four min_four   -- for this text's walks alone
set_option linter.unusedVariables false
set_option linter.unusedSimpArgs false

/-! ### levin_Solve: function 12 -/
mutual
def levin_Solve.j0 : Nat → List Int → Bool → Option (List Int × Int)
 | 0,_,_ => none
 | k + 1,x0,x20 => if x20 = true then (some (([] : List Int),1)) else (if 0 ≤ (wrap64 ((x0.length : Int) - 1)) then (if (wrap64 ((x0.length : Int) - 1) : Int).toNat ≤ 35184372088832 then ((some (List.replicate (wrap64 ((x0.length : Int) - 1) : Int).toNat 0 : List Int)).bind fun y184 => (if 0 < (x0.length : Int) then (if (rd x0 0) < 1 then (some (y184,0)) else ((levin_scaled.f k x0).bind fun t188 => (if 0 < (t188.length : Int) then (levin_Solve.l0 k t188 y184 (rd t188 0) (y184.length : Int) 0) else (none)))) else (none))) else (none)) else (none))
def levin_Solve.l0 : Nat → List Int → List Int → Int → Int → Int → Option (List Int × Int)
 | 0,_,_,_,_,_ => none
 | k + 1,x0,x4,x5,x36,x37 => if x37 < x36 then (if 0 ≤ (wrap64 (x37 + 1)) then (if (wrap64 (x37 + 1)) < (x0.length : Int) then (levin_Solve.l1 k x0 x4 x5 x37 (rd x0 (wrap64 (x37 + 1))) x36 x37 x37 0) else (none)) else (none)) else (levin_Solve.l3 k x4 (x4.length : Int) 0)
def levin_Solve.l1 : Nat → List Int → List Int → Int → Int → Int → Int → Int → Int → Int → Option (List Int × Int)
 | 0,_,_,_,_,_,_,_,_,_ => none
 | k + 1,x0,x4,x5,x6,x7,x36,x37,x45,x46 => if x46 < x45 then (if 0 ≤ x46 then (if x46 < (x4.length : Int) then (if 0 ≤ (wrap64 (x6 - x46)) then (if (wrap64 (x6 - x46)) < (x0.length : Int) then ((fix_Mul.f k (rd x4 x46) (rd x0 (wrap64 (x6 - x46))) 24).bind fun t195 => (levin_Solve.l1 k x0 x4 x5 x6 (wrap64 (x7 - t195)) x36 x37 x45 (wrap64 (x46 + 1)))) else (none)) else (none)) else (none)) else (none)) else ((fix_Div.f k x7 x5 24).bind fun t196 => ((fix_Clamp.f k t196 (-16760438) 16760438).bind fun t197 => ((some (([] : List Int) : List Int)).bind fun y198 => (if 0 ≤ x6 then (if x6 ≤ (x4.length : Int) then ((some (x4.take (x6 : Int).toNat : List Int)).bind fun y201 => (if y198.length + y201.length < 17592186044416 then (levin_Solve.l2 k x0 x4 x5 x6 t197 (y198 ++ y201) x36 x37 x6 0) else (none))) else (none)) else (none)))))
def levin_Solve.l2 : Nat → List Int → List Int → Int → Int → Int → List Int → Int → Int → Int → Int → Option (List Int × Int)
 | 0,_,_,_,_,_,_,_,_,_,_ => none
 | k + 1,x0,x4,x5,x6,x9,x10,x36,x37,x72,x73 => if x73 < x72 then (if 0 ≤ x73 then (if x73 < (x10.length : Int) then (if 0 ≤ (wrap64 ((wrap64 (x6 - 1)) - x73)) then (if (wrap64 ((wrap64 (x6 - 1)) - x73)) < (x10.length : Int) then ((fix_Mul.f k x9 (rd x10 (wrap64 ((wrap64 (x6 - 1)) - x73))) 24).bind fun t210 => ((fix_Clamp.f k (wrap64 ((rd x10 x73) - t210)) (-2147483648) 2147483648).bind fun t211 => (if x73 < (x4.length : Int) then (levin_Solve.l2 k x0 (x4.set (x73 : Int).toNat t211) x5 x6 x9 x10 x36 x37 x72 (wrap64 (x73 + 1))) else (none)))) else (none)) else (none)) else (none)) else (none)) else (if 0 ≤ x6 then (if x6 < (x4.length : Int) then ((fix_Mul.f k x9 x9 24).bind fun t214 => ((fix_Mul.f k x5 (wrap64 (16777216 - t214)) 24).bind fun t215 => (levin_Solve.l0 k x0 (x4.set (x6 : Int).toNat x9) (mx t215 1) x36 (wrap64 (x37 + 1))))) else (none)) else (none))
def levin_Solve.l3 : Nat → List Int → Int → Int → Option (List Int × Int)
 | 0,_,_,_ => none
 | k + 1,x4,x108,x109 => if x109 < x108 then (if 0 ≤ x109 then (if x109 < (x4.length : Int) then ((fix_Mul.f k (rd x4 x109) 1 12).bind fun t217 => (levin_Solve.l3 k (x4.set (x109 : Int).toNat t217) x108 (wrap64 (x109 + 1)))) else (none)) else (none)) else ((lpc_Fit.f k x4).bind fun t219 => (some (t219,0)))
end
def levin_Solve.f (k : Nat) (l0 : List Int) : Option (List Int × Int):=if (l0.length : Int) < 2 then (levin_Solve.j0 k l0 true) else (levin_Solve.j0 k l0 (decide ((l0.length : Int) > 33)))
theorem levin_Solve.mono_l : ∀ k,(∀ y0 y1,LeO (levin_Solve.j0 k y0 y1) (levin_Solve.j0 (k + 1) y0 y1)) ∧ (∀ y0 y1 y2 y3 y4,LeO (levin_Solve.l0 k y0 y1 y2 y3 y4) (levin_Solve.l0 (k + 1) y0 y1 y2 y3 y4)) ∧ (∀ y0 y1 y2 y3 y4 y5 y6 y7 y8,LeO (levin_Solve.l1 k y0 y1 y2 y3 y4 y5 y6 y7 y8) (levin_Solve.l1 (k + 1) y0 y1 y2 y3 y4 y5 y6 y7 y8)) ∧ (∀ y0 y1 y2 y3 y4 y5 y6 y7 y8 y9,LeO (levin_Solve.l2 k y0 y1 y2 y3 y4 y5 y6 y7 y8 y9) (levin_Solve.l2 (k + 1) y0 y1 y2 y3 y4 y5 y6 y7 y8 y9)) ∧ (∀ y0 y1 y2,LeO (levin_Solve.l3 k y0 y1 y2) (levin_Solve.l3 (k + 1) y0 y1 y2))
 | 0 => ⟨fun _ _ r h => by simp [levin_Solve.j0] at h,fun _ _ _ _ _ r h => by simp [levin_Solve.l0] at h,fun _ _ _ _ _ _ _ _ _ r h => by simp [levin_Solve.l1] at h,fun _ _ _ _ _ _ _ _ _ _ r h => by simp [levin_Solve.l2] at h,fun _ _ _ r h => by simp [levin_Solve.l3] at h⟩
 | k + 1 => by
  obtain ⟨ih0,ih1,ih2,ih3,ih4⟩:=levin_Solve.mono_l k
  refine ⟨?_,?_,?_,?_,?_⟩
  all_goals (intros;first|unfold levin_Solve.j0|unfold levin_Solve.l0|unfold levin_Solve.l1|unfold levin_Solve.l2|unfold levin_Solve.l3)
  all_goals (repeat' first|(with_reducible first|exact ih0 _ _|exact ih1 _ _ _ _ _|exact ih2 _ _ _ _ _ _ _ _ _|exact ih3 _ _ _ _ _ _ _ _ _ _|exact ih4 _ _ _|exact fix_Clamp.mono _ _ _ _|exact fix_Div.mono _ _ _ _|exact fix_Mul.mono _ _ _ _|exact levin_scaled.mono _ _|exact lpc_Fit.mono _ _|exact LeO.refl _|exact LeO.none _|refine LeO.ite ?_ ?_|refine LeO.bind ?_ (fun _ => ?_))|exact ih0 _ _|exact ih1 _ _ _ _ _|exact ih2 _ _ _ _ _ _ _ _ _|exact ih3 _ _ _ _ _ _ _ _ _ _|exact ih4 _ _ _|exact fix_Clamp.mono _ _ _ _|exact fix_Div.mono _ _ _ _|exact fix_Mul.mono _ _ _ _|exact levin_scaled.mono _ _|exact lpc_Fit.mono _ _|exact LeO.none _|refine LeO.ite ?_ ?_|refine LeO.bind ?_ (fun _ => ?_))
theorem levin_Solve.mono : ∀ a0 k,LeO (levin_Solve.f k a0) (levin_Solve.f (k + 1) a0):=by
 intro a0 k
 obtain ⟨ih0,ih1,ih2,ih3,ih4⟩:=levin_Solve.mono_l k
 unfold levin_Solve.f
 repeat' first|(with_reducible first|exact ih0 _ _|exact ih1 _ _ _ _ _|exact ih2 _ _ _ _ _ _ _ _ _|exact ih3 _ _ _ _ _ _ _ _ _ _|exact ih4 _ _ _|exact fix_Clamp.mono _ _ _ _|exact fix_Div.mono _ _ _ _|exact fix_Mul.mono _ _ _ _|exact levin_scaled.mono _ _|exact lpc_Fit.mono _ _|exact LeO.refl _|exact LeO.none _|refine LeO.ite ?_ ?_|refine LeO.bind ?_ (fun _ => ?_))|exact ih0 _ _|exact ih1 _ _ _ _ _|exact ih2 _ _ _ _ _ _ _ _ _|exact ih3 _ _ _ _ _ _ _ _ _ _|exact ih4 _ _ _|exact fix_Clamp.mono _ _ _ _|exact fix_Div.mono _ _ _ _|exact fix_Mul.mono _ _ _ _|exact levin_scaled.mono _ _|exact lpc_Fit.mono _ _|exact LeO.none _|refine LeO.ite ?_ ?_|refine LeO.bind ?_ (fun _ => ?_)
def levin_Solve.T15 : Bool × List (List Nat × List Nat):=(true,[([],[]),([],[]),([],[]),([1,2],[1,2]),([3],[3]),([],[]),([],[]),([],[]),([6,7],[6,7]),([5,8],[5,8]),([9],[9]),([4,10],[4,10]),([0,11],[0,11]),([12,11,0,1,2,3,4,5,6,7,8,9,10,11,12],[0,12])])
def levin_Solve.B15 : List Nat:=[0,0,0,6,14,0,0,0,192,480,992,2046,4095,8191]
theorem levin_Solve.tab15 : rtab .any (opsOf Try.f12 15) = levin_Solve.T15:=by kernel_rfl
theorem levin_Solve.bits15 : waitsOk levin_Solve.T15.2 levin_Solve.B15 = true:=by kernel_rfl
def levin_Solve.T22 : Bool × List (List Nat × List Nat):=(true,[([],[]),([],[]),([],[]),([],[]),([2,3],[2,3]),([4],[4]),([],[]),([],[]),([],[]),([8],[8]),([],[]),([9,10],[9,10]),([7,11],[7,11]),([12],[12]),([6,13],[6,13]),([5,14],[5,14]),([15,14],[15]),([0,1,0,1,2,3,4,5,6,7,8,9,10,11,12,13,14,15,16],[0,1]),([17,16,16,0,1,2,3,4,5,6,7,8,9,10,11,12,13,14,15,16],[16,17])])
def levin_Solve.B22 : List Nat:=[0,0,0,0,12,28,0,0,0,256,0,1792,3968,8064,16320,32764,65532,131071,262143]
theorem levin_Solve.tab22 : rtab .any (opsOf Try.f12 22) = levin_Solve.T22:=by kernel_rfl
theorem levin_Solve.bits22 : waitsOk levin_Solve.T22.2 levin_Solve.B22 = true:=by kernel_rfl
set_option maxHeartbeats 8000000 in
set_option maxRecDepth 100000 in
theorem levin_Solve.calls (k : Nat) (A0 : Option Addr) (c0 : Nat) (l0 : List Int) (r1 : List Int) (r2 : Int) (w : World) (hr0 : Kd.C (Kd.int .i64) w A0 l0.length l0) (hc0 : l0.length ≤ c0) (h : levin_Solve.f k l0 = some (r1,r2)) :
  Calls Try.prog 12 #[.slice A0 l0.length c0] w fun e w' => ∃ v0_ : Value,e = .returned (.tuple #[v0_,.int .i64 r2]) ∧ Kd.R (Kd.int .i64) 2 w' w.heap.size (fun _ => True) v0_ r1 ∧ Below w.heap.size w w':=by
 have HR0:=ak_ hr0
 have HC0:=ak_ hc0
 clear hr0 hc0
 have HB:=ak_ (Below.refl w.heap.size w)
 have H : (if (l0.length : Int) < 2 then (levin_Solve.j0 k l0 true) else (levin_Solve.j0 k l0 (decide ((l0.length : Int) > 33)))) = some (r1,r2):=h
 clear h
 have HC2:=ak_ H
 clear H
 go_enter Try.func12,Try.ntmps12
 go_upto_region 1 with (fail)
 go_cut [20] (fun v20 wc => ∃ (kq : Nat) (x20_1 : Bool),v20 = .bool x20_1 ∧ Aside0 (levin_Solve.j0 kq l0 x20_1 = some (r1,r2)) ∧ Aside0 (kq ≤ k) ∧ Aside0 (Below w.heap.size w wc))
 case first =>
  have H:=HC2.out
  clear HC2
  by_cases c3 : (l0.length : Int) < 2
  ·rw [if_pos c3] at H
   have c3b0:=decide_eq_true c3
   have c3b1 : decide (l0.length < 2) = true:=decide_eq_true (by omega)
   clear c3
   (first|rw [c3b0]|(simp only [i64_w,i32_w];rw [c3b0])|skip)
   have H':=ak_ H
   clear H
   go_wp2
   refine Met.intro ?_
   go_step
   (repeat apply Exists.intro)
   first|refine ⟨?rel66,rfl⟩|(refine ⟨?rel66,?st66⟩;case' st66 => (first|rw [c3b0]|simp only [c3b0]))
   case rel66 => exact ⟨_,(true),(by first|rfl|(simp;done)|(simp [*];done)),H',⟨by first|omega|exact Nat.le_refl _⟩,⟨by repeat (first|(with_reducible first|exact HB.out|apply ba_|apply bb_|apply bc_)|exact HB.out)⟩⟩
  ·rw [if_neg c3] at H
   have c3b0:=decide_eq_false c3
   have c3b1 : decide (l0.length < 2) = false:=decide_eq_false (by omega)
   clear c3
   (first|rw [c3b0]|(simp only [i64_w,i32_w];rw [c3b0])|skip)
   have H':=ak_ H
   clear H
   go_wp2
   refine Met.intro ?_
   go_step
   (repeat apply Exists.intro)
   first|refine ⟨?rel76,rfl⟩|(refine ⟨?rel76,?st76⟩;case' st76 => (first|rw [c3b0]|simp only [c3b0]))
   case rel76 => exact ⟨_,(decide ((l0.length : Int) > 33)),(by first|rfl|(simp;done)|(simp [*];done)),H',⟨by first|omega|exact Nat.le_refl _⟩,⟨by repeat (first|(with_reducible first|exact HB.out|apply ba_|apply bb_|apply bc_)|exact HB.out)⟩⟩
 case rest => as_aux_lemma =>
  clear HC2
  try clear c1
  try clear p2
  try clear c3
  try clear c3b0
  try clear c3b1
  obtain ⟨kq,x20_1,rfl,HA,HJ1,HB⟩:=hcut
  (try simp only [i64_w,i32_w])
  cases kq with
  | zero => exact absurd HA.out (by simp [levin_Solve.j0])
  | succ kj1 =>
   have H:=HA.out
   clear HA
   simp only [levin_Solve.j0] at H
   by_cases c4 : x20_1 = true
   ·subst c4
    have H1 : (some (([] : List Int),1)) = some (r1,r2):=by rw [if_pos rfl] at H;exact H
    clear H
    have H:=H1
    clear H1
    simp only [Option.some.injEq,Prod.mk.injEq] at H
    obtain ⟨rfl,rfl⟩:=H
    go_wp2
    go_ret2
    exact ⟨_,by first|rfl|(simp [errW_none,errW_some] <;> rfl)|(simp [*,errW_none,errW_some] <;> rfl),by first|exact Kd.R_nil _ _ _ _ _|exact Kd.N_nil _ _ _ _ _|exact Kd.V_nil _ _ _ _ _|exact Kd.Q_nil _ _ _ _ _|exact Kd.S_nil _ _ _ _ _,by repeat (first|(with_reducible first|exact HB.out|apply ba_|apply bb_|apply bc_)|exact HB.out)⟩
   ·replace c4:=Bool.eq_false_iff.mpr c4
    subst c4
    have H1 : (if 0 ≤ (wrap64 ((l0.length : Int) - 1)) then (if (wrap64 ((l0.length : Int) - 1) : Int).toNat ≤ 35184372088832 then ((some (List.replicate (wrap64 ((l0.length : Int) - 1) : Int).toNat 0 : List Int)).bind fun y184 => (if 0 < (l0.length : Int) then (if (rd l0 0) < 1 then (some (y184,0)) else ((levin_scaled.f kj1 l0).bind fun t188 => (if 0 < (t188.length : Int) then (levin_Solve.l0 kj1 t188 y184 (rd t188 0) (y184.length : Int) 0) else (none)))) else (none))) else (none)) else (none)) = some (r1,r2):=by rw [if_neg (show ¬ (false = true) by decide)] at H;exact H
    clear H
    have H:=H1
    clear H1
    obtain ⟨ji5,hji5⟩ : ∃ j_ : Int,(wrap64 ((l0.length : Int) - 1)) = j_:=⟨_,rfl⟩
    replace H : (if 0 ≤ (ji5) then (if (ji5 : Int).toNat ≤ 35184372088832 then ((some (List.replicate (ji5 : Int).toNat 0 : List Int)).bind fun y184 => (if 0 < (l0.length : Int) then (if (rd l0 0) < 1 then (some (y184,0)) else ((levin_scaled.f kj1 l0).bind fun t188 => (if 0 < (t188.length : Int) then (levin_Solve.l0 kj1 t188 y184 (rd t188 0) (y184.length : Int) 0) else (none)))) else (none))) else (none)) else (none)) = some (r1,r2):=by first|(rw [hji5] at H;exact H)|(simp only [hji5] at H ⊢;exact H)
    have hji5w : (IntKind.i64.wrap ((l0.length : Int) - 1)) = ji5:=(i64_w _).trans hji5
    by_cases c6 : 0 ≤ (ji5)
    ·rw [if_pos c6] at H
     have c6b0:=eq_true c6
     have c6b1 : decide (0 ≤ (ji5)) = true:=decide_eq_true c6
     clear c6
     by_cases c7 : (ji5 : Int).toNat ≤ 35184372088832
     ·rw [if_pos c7] at H
      have c7b0:=eq_true c7
      have c7b1 : decide ((ji5 : Int).toNat ≤ 35184372088832) = true:=decide_eq_true c7
      clear c7
      obtain ⟨y184,hy184⟩ : ∃ y_ : List Int,y_ = (List.replicate (ji5 : Int).toNat 0):=⟨_,rfl⟩
      replace H : (if 0 < (l0.length : Int) then (if (rd l0 0) < 1 then (some (y184,0)) else ((levin_scaled.f kj1 l0).bind fun t188 => (if 0 < (t188.length : Int) then (levin_Solve.l0 kj1 t188 y184 (rd t188 0) (y184.length : Int) 0) else (none)))) else (none)) = some (r1,r2):=by first|(rw [hy184];with_reducible exact H)|(have H2_:=(Option.bind_some _ _).symm.trans H;rw [hy184];with_reducible exact H2_)|(have H2_:=(Option.bind_some _ _).symm.trans H;with_reducible exact H2_)|with_reducible exact H|(rw [hy184];exact H)|exact H
      have Ny184:=ak_ hy184
      clear hy184
      by_cases c8 : 0 < (l0.length : Int)
      ·rw [if_pos c8] at H
       have c8b0:=decide_eq_true c8
       have c8b1 : decide (0 < l0.length) = true:=decide_eq_true (by omega)
       clear c8
       by_cases c9 : (rd l0 0) < 1
       ·rw [if_pos c9] at H
        have c9b0:=decide_eq_true c9
        clear c9
        simp only [Option.some.injEq,Prod.mk.injEq] at H
        obtain ⟨rfl,rfl⟩:=H
        go_wp2_with (first|((with_reducible refine gate_dst (N:=24) rfl ?_);(try (refine gate_guard (by rfl) ?_;dsimp only));refine Kd.R_make (Kd.int .i64) _ 2 rfl (N:=24) rfl 23 _ _ rfl ji5 rfl rfl Try.underlying23 (.int .i64 0) 8 info2 rfl (by decide) (by omega) 0 (ok:=fun _ => True) (okp:=fun _ => True) rfl (fun _ hk => hk) trivial (of_decide_eq_true (by first|(with_reducible assumption)|assumption)) (Nat.le_trans (Nat.mul_le_mul_right _ (of_decide_eq_true (by first|(with_reducible assumption)|assumption) : ji5.toNat ≤ 35184372088832)) (by omega)) (Below.refl _ _) (Nat.le_refl _) ?_;intro v185 w10 ho11 hb hg_ hnew_;clear hg_ hnew_;(first|rw [← Ny184.out] at ho11|(simp only [Int.reduceToNat] at ho11;rw [← Ny184.out] at ho11));have n0_:=ak_ (Kd.R_lower ho11 (below_size (by repeat (first|(with_reducible first|exact HB.out|apply ba_|apply bb_|apply bc_)|exact HB.out))));have n1_:=ak_ (below_step (by repeat (first|(with_reducible first|exact HB.out|apply ba_|apply bb_|apply bc_)|exact HB.out)) hb);clear HB;have HO186:=n0_;have HB:=n1_;clear n0_ n1_;clear hb ho11;have p187 : 0 ≤ (0 : Int):=(by omega);have q187 : 0 < (l0.length : Int):=of_decide_eq_true (by first|(with_reducible assumption)|assumption);obtain ⟨ad187,e187,hx187_0⟩:=Kd.at_int HR0.out 0 p187 q187;cases e187;have qi187 : (0 < l0.length) = True:=eq_true (by omega);(try rw [show ((0 : Int)).toNat = 0 from rfl] at hx187_0);(try rw [Addr.add_zero'] at hx187_0);replace hx187_0:=(HB.out.cell (World.block_lt_of_cell? w _ hx187_0)).trans hx187_0;replace p187:=eq_true p187;replace q187:=eq_true q187))
        go_ret2
        exact ⟨_,by first|rfl|(simp [errW_none,errW_some] <;> rfl)|(simp only [← hji5];first|rfl|(simp [errW_none,errW_some] <;> rfl))|(simp [*,errW_none,errW_some] <;> rfl),by (with_reducible repeat (first|apply ra_|apply rb_|apply rc_));exact HO186.out,by repeat (first|(with_reducible first|exact HB.out|apply ba_|apply bb_|apply bc_)|exact HB.out)⟩
       ·rw [if_neg c9] at H
        have c9b0:=decide_eq_false c9
        clear c9
        replace H:=Option.bind_eq_some_iff.mp H
        obtain ⟨t188,A120,H⟩:=H
        (try dsimp only at H)
        have A12:=ak_ A120
        clear A120
        by_cases c13 : 0 < (t188.length : Int)
        ·rw [if_pos c13] at H
         have c13b0:=decide_eq_true c13
         have c13b1 : decide (0 < t188.length) = true:=decide_eq_true (by omega)
         clear c13
         have H':=ak_ H
         clear H
         go_wp2_with (first|((with_reducible refine gate_dst (N:=24) rfl ?_);(try (refine gate_guard (by rfl) ?_;dsimp only));refine Kd.R_make (Kd.int .i64) _ 2 rfl (N:=24) rfl 23 _ _ rfl ji5 rfl rfl Try.underlying23 (.int .i64 0) 8 info2 rfl (by decide) (by omega) 0 (ok:=fun _ => True) (okp:=fun _ => True) rfl (fun _ hk => hk) trivial (of_decide_eq_true (by first|(with_reducible assumption)|assumption)) (Nat.le_trans (Nat.mul_le_mul_right _ (of_decide_eq_true (by first|(with_reducible assumption)|assumption) : ji5.toNat ≤ 35184372088832)) (by omega)) (Below.refl _ _) (Nat.le_refl _) ?_;intro v185 w14 ho15 hb hg_ hnew_;clear hg_ hnew_;(first|rw [← Ny184.out] at ho15|(simp only [Int.reduceToNat] at ho15;rw [← Ny184.out] at ho15));have n0_:=ak_ (Kd.R_lower ho15 (below_size (by repeat (first|(with_reducible first|exact HB.out|apply ba_|apply bb_|apply bc_)|exact HB.out))));have n1_:=ak_ (below_step (by repeat (first|(with_reducible first|exact HB.out|apply ba_|apply bb_|apply bc_)|exact HB.out)) hb);clear HB;have HO186:=n0_;have HB:=n1_;clear n0_ n1_;clear hb ho15;have p187 : 0 ≤ (0 : Int):=(by omega);have q187 : 0 < (l0.length : Int):=of_decide_eq_true (by first|(with_reducible assumption)|assumption);obtain ⟨ad187,e187,hx187_0⟩:=Kd.at_int HR0.out 0 p187 q187;cases e187;have qi187 : (0 < l0.length) = True:=eq_true (by omega);(try rw [show ((0 : Int)).toNat = 0 from rfl] at hx187_0);(try rw [Addr.add_zero'] at hx187_0);replace hx187_0:=(HB.out.cell (World.block_lt_of_cell? w _ hx187_0)).trans hx187_0;replace p187:=eq_true p187;replace q187:=eq_true q187)|((with_reducible refine gate_callee (f:=24) rfl ?_);refine goesL_ (some 31) rfl rfl Try.func24 (by kernel_rfl) rfl #[.slice (some ad187) l0.length c0] rfl (by (try simp only [List.map_toArray,List.map_cons,List.map_nil]);first|done|rfl|(simp only [List.length_drop,List.length_take];rfl)) ?_;(with_reducible refine (levin_scaled.calls kj1 _ _ l0 t188 _ ?side1 ?side2 A12.out).mono ?_);(case side1 => repeat (first|exact (Kd.C_below HR0.out HB.out)|(with_reducible refine Kd.C_alloc ?_ _)|(with_reducible refine Kd.C_drewN ?_ _)|(with_reducible refine Kd.C_drew ?_)));(case side2 => exact HC0.out);rintro e w16 ⟨v189,rfl,ho0,hb⟩;refine ⟨_,rfl,?_⟩;have n0_:=ak_ (Kd.R_elder' (by (with_reducible repeat (first|apply ra_|apply rb_|apply rc_));exact HO186.out) (Kd.R_base ho0) hb);have n1_:=ak_ (Kd.R_lower (Kd.R_new' ho0 (Kd.R_lt (by (with_reducible repeat (first|apply ra_|apply rb_|apply rc_));exact HO186.out))) (below_size (by repeat (first|(with_reducible first|exact HB.out|apply ba_|apply bb_|apply bc_)|exact HB.out))));have n2_:=ak_ (below_step (by repeat (first|(with_reducible first|exact HB.out|apply ba_|apply bb_|apply bc_)|exact HB.out)) hb);clear HO186;clear HB;have HO186:=n0_;have HO190:=n1_;have HB:=n2_;clear n0_ n1_ n2_;(try clear hb);(try clear ho0);obtain ⟨Ao17,co17,eo17⟩:=Kd.R_slice HO190.out;subst eo17;have p191 : 0 ≤ (0 : Int):=(by omega);have q191 : 0 < (t188.length : Int):=of_decide_eq_true (by first|(with_reducible assumption)|assumption);obtain ⟨ad191,e191,hx191_0⟩:=Kd.at_int (Kd.R_reads' HO190.out).2.2 0 p191 q191;cases e191;have qi191 : (0 < t188.length) = True:=eq_true (by omega);(try rw [show ((0 : Int)).toNat = 0 from rfl] at hx191_0);(try rw [Addr.add_zero'] at hx191_0);replace p191:=eq_true p191;replace q191:=eq_true q191;obtain ⟨Ao18,co18,eo18⟩:=Kd.R_slice HO186.out;subst eo18))
         go_loopg [5,37] kj1 (fun kq v5 v37 w' => ∃ (x4_2 : List Int) (x5_2 : Int) (x37_2 : Int),v5 = .int .i64 x5_2 ∧ v37 = .int .i64 x37_2 ∧ Aside0 (levin_Solve.l0 kq t188 x4_2 x5_2 (y184.length : Int) x37_2 = some (r1,r2)) ∧ Aside0 (kq ≤ kj1) ∧ Aside0 (Kd.R (Kd.int .i64) 2 w' w.heap.size (fun k_ => some k_ ≠ ((.slice Ao18 y184.length co18) : Value).ownBlock) (.slice (some ad191) t188.length co17) t188) ∧ Aside0 (Kd.R (Kd.int .i64) 2 w' w.heap.size (fun k_ => some k_ ≠ ((.slice (some ad191) t188.length co17) : Value).ownBlock) (.slice Ao18 y184.length co18) x4_2) ∧ Aside0 (Below w.heap.size w w'))
         case atStart => exact ⟨(y184),(rd t188 0),(0),(by first|rfl|(simp;done)|(simp [*];done)),(by first|rfl|(simp;done)|(simp [*];done)),H',⟨Nat.le_refl _⟩,⟨by (with_reducible repeat (first|apply ra_|apply rb_|apply rc_));exact Kd.R_mono HO190.out (fun _ hk => hk.2)⟩,⟨by (with_reducible repeat (first|apply ra_|apply rb_|apply rc_));exact Kd.R_mono HO186.out (fun _ hk => hk.2)⟩,⟨by repeat (first|(with_reducible first|exact HB.out|apply ba_|apply bb_|apply bc_)|exact HB.out)⟩⟩
         case round => as_aux_lemma =>
          clear H'
          try clear c1
          try clear p1
          try clear q1
          try clear hx1
          try clear qi1
          try clear c2
          try clear p2
          try clear c3
          try clear c3b0
          try clear c3b1
          try clear c4
          try clear c6
          try clear c6b0
          try clear c6b1
          try clear p6
          try clear c7
          try clear c7b0
          try clear c7b1
          try clear c8
          try clear c8b0
          try clear c8b1
          try clear c9
          try clear c9b0
          try clear c12
          try clear c13
          try clear c13b0
          try clear c13b1
          try clear p18
          try clear q18
          try clear hx18
          try clear qi18
          try clear hx187_0
          try clear hx191_0
          try clear p187
          try clear p191
          try clear p2
          try clear q187
          try clear q191
          obtain ⟨x4_2,x5_2,x37_2,rfl,rfl,HA,HK2,HO_0,HO_4,HB⟩:=hrel
          (try simp only [i64_w,i32_w])
          have hl4_2:=(Kd.R_reads' HO_4.out).1
          rw [hl4_2] at HO_4
          (try simp only [hl4_2])
          (try simp only [hl4_2] at HO_0)
          cases gk with
          | zero => exact absurd HA.out (by simp [levin_Solve.l0])
          | succ k2 =>
           have H:=HA.out
           clear HA
           simp only [levin_Solve.l0] at H
           by_cases c19 : x37_2 < (y184.length : Int)
           ·rw [if_pos c19] at H
            have c19b0:=decide_eq_true c19
            (try (have c19h0:=c19b0;simp only [hl4_2] at c19h0))
            clear c19
            obtain ⟨ji20,hji20⟩ : ∃ j_ : Int,(wrap64 (x37_2 + 1)) = j_:=⟨_,rfl⟩
            replace H : (if 0 ≤ (ji20) then (if (ji20) < (t188.length : Int) then (levin_Solve.l1 k2 t188 x4_2 x5_2 x37_2 (rd t188 (ji20)) (y184.length : Int) x37_2 x37_2 0) else (none)) else (none)) = some (r1,r2):=by first|(rw [hji20] at H;exact H)|(simp only [hji20] at H ⊢;exact H)
            have hji20w : (IntKind.i64.wrap (x37_2 + 1)) = ji20:=(i64_w _).trans hji20
            by_cases c21 : 0 ≤ (ji20)
            ·rw [if_pos c21] at H
             have c21b0:=decide_eq_true c21
             (try (have c21h0:=c21b0;simp only [hl4_2] at c21h0))
             clear c21
             by_cases c22 : (ji20) < (t188.length : Int)
             ·rw [if_pos c22] at H
              have c22b0:=decide_eq_true c22
              (try (have c22h0:=c22b0;simp only [hl4_2] at c22h0))
              clear c22
              have H':=ak_ H
              clear H
              have p192 : 0 ≤ ((ji20) : Int):=of_decide_eq_true (by first|(with_reducible assumption)|assumption)
              have q192 : (ji20) < (t188.length : Int):=of_decide_eq_true (by first|(with_reducible assumption)|assumption)
              obtain ⟨ad192,e192,hx192_0⟩:=Kd.at_int (Kd.R_reads' HO_0.out).2.2 (ji20) p192 q192
              obtain rfl : ad191 = ad192:=(by injection e192)
              replace p192:=eq_true p192
              replace q192:=eq_true q192
              go_wp2
              go_loopg [7,46] k2 (fun kq v7 v46 w' => ∃ (x7_3 : Int) (x46_3 : Int),v7 = .int .i64 x7_3 ∧ v46 = .int .i64 x46_3 ∧ Aside0 (levin_Solve.l1 kq t188 x4_2 x5_2 x37_2 x7_3 (y184.length : Int) x37_2 x37_2 x46_3 = some (r1,r2)) ∧ Aside0 (kq ≤ k2) ∧ Aside0 (Kd.R (Kd.int .i64) 2 w' w.heap.size (fun k_ => some k_ ≠ ((.slice Ao18 x4_2.length co18) : Value).ownBlock) (.slice (some ad191) t188.length co17) t188) ∧ Aside0 (Kd.R (Kd.int .i64) 2 w' w.heap.size (fun k_ => some k_ ≠ ((.slice (some ad191) t188.length co17) : Value).ownBlock) (.slice Ao18 x4_2.length co18) x4_2) ∧ Aside0 (Below w.heap.size w w'))
              case atStart => exact ⟨(rd t188 (ji20)),(0),(by first|rfl|(simp;done)|(simp only [← hji20] <;> (first|rfl|simp))|(simp [*];done)),(by first|rfl|(simp;done)|(simp [*];done)),H',⟨Nat.le_refl _⟩,⟨by (try simp only [hl4_2]);(with_reducible repeat (first|apply ra_|apply rb_|apply rc_));exact HO_0.out⟩,⟨by (try simp only [hl4_2]);(with_reducible repeat (first|apply ra_|apply rb_|apply rc_));exact HO_4.out⟩,⟨by repeat (first|(with_reducible first|exact HB.out|apply ba_|apply bb_|apply bc_)|exact HB.out)⟩⟩
              case round => as_aux_lemma =>
               clear H'
               try clear c1
               try clear p1
               try clear q1
               try clear hx1
               try clear qi1
               try clear c2
               try clear p2
               try clear c3
               try clear c3b0
               try clear c3b1
               try clear c4
               try clear c6
               try clear c6b0
               try clear c6b1
               try clear p6
               try clear c7
               try clear c7b0
               try clear c7b1
               try clear c8
               try clear c8b0
               try clear c8b1
               try clear c9
               try clear c9b0
               try clear c12
               try clear c13
               try clear c13b0
               try clear c13b1
               try clear p18
               try clear q18
               try clear hx18
               try clear qi18
               try clear c19
               try clear c19b0
               try clear c19h0
               try clear p19
               try clear q19
               try clear hx19
               try clear qi19
               try clear c21
               try clear c21b0
               try clear c21h0
               try clear c22
               try clear c22b0
               try clear c22h0
               try clear hx187_0
               try clear hx191_0
               try clear hx192_0
               try clear p1
               try clear p18
               try clear p187
               try clear p191
               try clear p192
               try clear p2
               try clear p6
               try clear q1
               try clear q18
               try clear q187
               try clear q191
               try clear q192
               obtain ⟨x7_3,x46_3,rfl,rfl,HA,HK3,HO_0,HO_4,HB⟩:=hrel
               (try simp only [i64_w,i32_w])
               cases gk with
               | zero => exact absurd HA.out (by simp [levin_Solve.l1])
               | succ k3 =>
                have H:=HA.out
                clear HA
                simp only [levin_Solve.l1] at H
                by_cases c23 : x46_3 < x37_2
                ·rw [if_pos c23] at H
                 have c23b0:=decide_eq_true c23
                 (try (have c23h0:=c23b0;simp only [hl4_2] at c23h0))
                 clear c23
                 by_cases c24 : 0 ≤ x46_3
                 ·rw [if_pos c24] at H
                  have c24b0:=decide_eq_true c24
                  (try (have c24h0:=c24b0;simp only [hl4_2] at c24h0))
                  clear c24
                  by_cases c25 : x46_3 < (x4_2.length : Int)
                  ·rw [if_pos c25] at H
                   have c25b0:=decide_eq_true c25
                   (try (have c25h0:=c25b0;simp only [hl4_2] at c25h0))
                   clear c25
                   obtain ⟨ji26,hji26⟩ : ∃ j_ : Int,(wrap64 (x37_2 - x46_3)) = j_:=⟨_,rfl⟩
                   replace H : (if 0 ≤ (ji26) then (if (ji26) < (t188.length : Int) then ((fix_Mul.f k3 (rd x4_2 x46_3) (rd t188 (ji26)) 24).bind fun t195 => (levin_Solve.l1 k3 t188 x4_2 x5_2 x37_2 (wrap64 (x7_3 - t195)) (y184.length : Int) x37_2 x37_2 (wrap64 (x46_3 + 1)))) else (none)) else (none)) = some (r1,r2):=by first|(rw [hji26] at H;exact H)|(simp only [hji26] at H ⊢;exact H)
                   have hji26w : (IntKind.i64.wrap (x37_2 - x46_3)) = ji26:=(i64_w _).trans hji26
                   by_cases c27 : 0 ≤ (ji26)
                   ·rw [if_pos c27] at H
                    have c27b0:=decide_eq_true c27
                    (try (have c27h0:=c27b0;simp only [hl4_2] at c27h0))
                    clear c27
                    by_cases c28 : (ji26) < (t188.length : Int)
                    ·rw [if_pos c28] at H
                     have c28b0:=decide_eq_true c28
                     (try (have c28h0:=c28b0;simp only [hl4_2] at c28h0))
                     clear c28
                     replace H:=Option.bind_eq_some_iff.mp H
                     obtain ⟨t195,A290,H⟩:=H
                     (try dsimp only at H)
                     have A29:=ak_ A290
                     clear A290
                     have H':=ak_ H
                     clear H
                     try go_wp2
                     have n0_:=ak_ (Kd.R_drew HO_0.out)
                     have n1_:=ak_ (Kd.R_drew HO_4.out)
                     have n2_:=ak_ (below_drew1 HB.out)
                     clear HO_0
                     clear HO_4
                     clear HB
                     have HO_0:=n0_
                     have HO_4:=n1_
                     have HB:=n2_
                     clear n0_ n1_ n2_
                     have p193 : 0 ≤ (x46_3 : Int):=of_decide_eq_true (by first|(with_reducible assumption)|assumption)
                     have q193 : x46_3 < (x4_2.length : Int):=of_decide_eq_true (by first|(with_reducible assumption)|assumption)
                     obtain ⟨ad193,e193,hx193_0⟩:=Kd.at_int (Kd.R_reads' HO_4.out).2.2 x46_3 p193 q193
                     cases e193
                     replace p193:=eq_true p193
                     replace q193:=eq_true q193
                     have p194 : 0 ≤ ((ji26) : Int):=of_decide_eq_true (by first|(with_reducible assumption)|assumption)
                     have q194 : (ji26) < (t188.length : Int):=of_decide_eq_true (by first|(with_reducible assumption)|assumption)
                     obtain ⟨ad194,e194,hx194_0⟩:=Kd.at_int (Kd.R_reads' HO_0.out).2.2 (ji26) p194 q194
                     obtain rfl : ad191 = ad194:=(by injection e194)
                     replace p194:=eq_true p194
                     replace q194:=eq_true q194
                     refine start_ (n:=14) (S:=fun w' => w'.cell? (ad193.add (x46_3).toNat) = some (.int .i64 (rd x4_2 x46_3)) ∧ w'.cell? (ad191.add ((ji26)).toNat) = some (.int .i64 (rd t188 (ji26)))) (ds:=[]) #[false,false,false,false,false,false,false,false,false,false,false,false,false,false] (by kernel_rfl) rfl rfl ⟨hx193_0,hx194_0⟩ (fun hHeld => ?_);refine with_tabW levin_Solve.tab15 levin_Solve.bits15 (fun HT_ HW_ => ?_)
                     generalize wr.drew = w30 at HO_0 HO_4 HB hx193_0 hx194_0 hHeld ⊢
                     refine pure_ (i:=0) (N:=some 49) (v:=?_) (a':=?_) #[true,false,false,false,false,false,false,false,false,false,false,false,false,false] rfl rfl (any_of HT_.out (by kernel_rfl)) (fun _ _ _ h => h) (Or.inl ⟨by rfl,?_⟩) ?_ ?_
                     rotate_left
                     ·intro w'
                      go_simp
                      with_reducible rfl
                     rotate_left
                     ·simp only [Act.put,List.setIfInBounds_toArray,List.set_cons_zero,List.set_cons_succ,i64_w,i32_w]
                      rfl
                     refine pure_ (i:=1) (N:=some 50) (v:=?_) (a':=?_) #[true,true,false,false,false,false,false,false,false,false,false,false,false,false] rfl rfl (any_of HT_.out (by kernel_rfl)) (fun _ _ _ h => h) (Or.inl ⟨by rfl,?_⟩) ?_ ?_
                     rotate_left
                     ·intro w'
                      go_simp
                      with_reducible rfl
                     rotate_left
                     ·simp only [Act.put,List.setIfInBounds_toArray,List.set_cons_zero,List.set_cons_succ,i64_w,i32_w]
                      rfl
                     refine pure_ (i:=2) (N:=some 51) (v:=?_) (a':=?_) #[true,true,true,false,false,false,false,false,false,false,false,false,false,false] rfl rfl (any_of HT_.out (by kernel_rfl)) (fun _ _ _ h => h) (Or.inl ⟨by rfl,?_⟩) ?_ ?_
                     rotate_left
                     ·intro w'
                      go_simp
                      with_reducible rfl
                     rotate_left
                     ·simp only [Act.put,List.setIfInBounds_toArray,List.set_cons_zero,List.set_cons_succ,i64_w,i32_w]
                      rfl
                     refine pure_ (i:=3) (N:=some 52) (v:=?_) (a':=?_) #[true,true,true,true,false,false,false,false,false,false,false,false,false,false] rfl rfl (any_of HT_.out (by kernel_rfl)) (fun _ _ _ h => h) (Or.inl ⟨by rfl,?_⟩) ?_ ?_
                     rotate_left
                     ·intro w'
                      go_simp
                      with_reducible rfl
                     rotate_left
                     ·simp only [Act.put,List.setIfInBounds_toArray,List.set_cons_zero,List.set_cons_succ,i64_w,i32_w]
                      rfl
                     refine pure_ (i:=5) (N:=some 54) (v:=?_) (a':=?_) #[true,true,true,true,false,true,false,false,false,false,false,false,false,false] rfl rfl (any_of HT_.out (by kernel_rfl)) (fun _ _ _ h => h) (Or.inl ⟨by rfl,?_⟩) ?_ ?_
                     rotate_left
                     ·intro w'
                      go_simp
                      with_reducible rfl
                     rotate_left
                     ·simp only [Act.put,List.setIfInBounds_toArray,List.set_cons_zero,List.set_cons_succ,i64_w,i32_w]
                      rfl
                     refine pure_ (i:=6) (N:=some 55) (v:=?_) (a':=?_) #[true,true,true,true,false,true,true,false,false,false,false,false,false,false] rfl rfl (any_of HT_.out (by kernel_rfl)) (fun _ _ _ h => h) (Or.inl ⟨by rfl,?_⟩) ?_ ?_
                     rotate_left
                     ·intro w'
                      go_simp
                      with_reducible rfl
                     rotate_left
                     ·simp only [Act.put,List.setIfInBounds_toArray,List.set_cons_zero,List.set_cons_succ,i64_w,i32_w]
                      rfl
                     refine pure_ (i:=7) (N:=some 56) (v:=?_) (a':=?_) #[true,true,true,true,false,true,true,true,false,false,false,false,false,false] rfl rfl (any_of HT_.out (by kernel_rfl)) (fun _ _ _ h => h) (Or.inl ⟨by rfl,?_⟩) ?_ ?_
                     rotate_left
                     ·intro w'
                      go_simp
                      with_reducible rfl
                     rotate_left
                     ·simp only [Act.put,List.setIfInBounds_toArray,List.set_cons_zero,List.set_cons_succ,i64_w,i32_w]
                      rfl
                     refine pure_ (i:=8) (N:=some 57) (v:=?_) (a':=?_) #[true,true,true,true,false,true,true,true,true,false,false,false,false,false] rfl rfl (any_of HT_.out (by kernel_rfl)) (fun _ _ _ h => h) (Or.inl ⟨by rfl,?_⟩) ?_ ?_
                     rotate_left
                     ·intro w'
                      go_simp
                      with_reducible rfl
                     rotate_left
                     ·simp only [Act.put,List.setIfInBounds_toArray,List.set_cons_zero,List.set_cons_succ,i64_w,i32_w]
                      rfl
                     refine pure_ (i:=9) (N:=some 58) (v:=?_) (a':=?_) #[true,true,true,true,false,true,true,true,true,true,false,false,false,false] rfl rfl (any_of HT_.out (by kernel_rfl)) (fun _ _ _ h => h) (Or.inl ⟨by rfl,?_⟩) ?_ ?_
                     rotate_left
                     ·intro w'
                      go_simp
                      with_reducible rfl
                     rotate_left
                     ·simp only [Act.put,List.setIfInBounds_toArray,List.set_cons_zero,List.set_cons_succ,i64_w,i32_w]
                      rfl
                     refine take_ (i:=4) (N:=some 53) (v:=?_) (a':=?_) #[true,true,true,true,true,true,true,true,true,true,false,false,false,false] rfl rfl (take_ofW HT_.out HW_.out (by kernel_rfl)) (fun _ _ _ h => h) (Or.inl ⟨by rfl,?_⟩) hHeld ?_ ?_
                     rotate_left
                     ·rintro w' ⟨s0,s1⟩
                      go_simp
                      with_reducible rfl
                     rotate_left
                     ·simp only [Act.put,List.setIfInBounds_toArray,List.set_cons_zero,List.set_cons_succ,i64_w,i32_w]
                      rfl
                     refine take_ (i:=10) (N:=some 59) (v:=?_) (a':=?_) #[true,true,true,true,true,true,true,true,true,true,true,false,false,false] rfl rfl (take_ofW HT_.out HW_.out (by kernel_rfl)) (fun _ _ _ h => h) (Or.inl ⟨by rfl,?_⟩) hHeld ?_ ?_
                     rotate_left
                     ·rintro w' ⟨s0,s1⟩
                      go_simp
                      with_reducible rfl
                     rotate_left
                     ·simp only [Act.put,List.setIfInBounds_toArray,List.set_cons_zero,List.set_cons_succ,i64_w,i32_w]
                      rfl
                     refine one_ (i:=11) (N:=some 60) #[true,true,true,true,true,true,true,true,true,true,true,true,false,false] rfl rfl (one_of HT_.out (by kernel_rfl)) (by decide) (fun K hK => ?_)
                     refine goes_ Try.func25 (by kernel_rfl) rfl #[.int .i64 (rd x4_2 x46_3),.int .i64 (rd t188 (ji26)),.int .i64 24] (by rfl) rfl rfl (by (try simp only [List.map_toArray,List.map_cons,List.map_nil]);first|done|(simp only [hji26];rfl)|rfl|(simp only [List.length_drop,List.length_take];rfl)) ?_
                     with_reducible refine (fix_Mul.calls k3 (rd x4_2 x46_3) (rd t188 (ji26)) 24 t195 _ A29.out).mono ?_
                     rintro e w' ⟨rfl,⟨nd,rfl⟩⟩
                     refine ⟨_,rfl,?_⟩
                     refine hK.out _ _ ⟨hHeld.1,hHeld.2⟩ (fun hHeld => ?_)
                     clear hK K
                     refine norm_ (a':=?_) ?_ ?_
                     rotate_left
                     ·show Act.put _ (some 60) _ = _
                      simp only [Act.put,List.setIfInBounds_toArray,List.set_cons_zero,List.set_cons_succ,i64_w,i32_w]
                      rfl
                     refine pure_ (i:=12) (N:=some 61) (v:=?_) (a':=?_) #[true,true,true,true,true,true,true,true,true,true,true,true,true,false] rfl rfl (any_of HT_.out (by kernel_rfl)) (fun _ _ _ h => h) (Or.inl ⟨by rfl,?_⟩) ?_ ?_
                     rotate_left
                     ·intro w'
                      go_simp
                      with_reducible rfl
                     rotate_left
                     ·simp only [Act.put,List.setIfInBounds_toArray,List.set_cons_zero,List.set_cons_succ,i64_w,i32_w]
                      rfl
                     refine pure_ (i:=13) (N:=some 7) (v:=?_) (a':=?_) #[true,true,true,true,true,true,true,true,true,true,true,true,true,true] rfl rfl (any_of HT_.out (by kernel_rfl)) (fun _ _ _ h => h) (Or.inl ⟨by rfl,?_⟩) ?_ ?_
                     rotate_left
                     ·intro w'
                      go_simp
                      with_reducible rfl
                     rotate_left
                     ·simp only [Act.put,List.setIfInBounds_toArray,List.set_cons_zero,List.set_cons_succ,i64_w,i32_w]
                      rfl
                     refine done_ (done_of HT_.out (by kernel_rfl)) ?_
                     try go_wp2
                     go_roundg k3
                     case measure => have:=HJ1.out;have:=HK2.out;have:=HK3.out;omega
                     case rel => exact ⟨(wrap64 (x7_3 - t195)),(wrap64 (x46_3 + 1)),(by first|rfl|(simp;done)|(simp [*];done)),(by first|rfl|(simp;done)|(simp [*];done)),H',⟨by have:=HJ1.out;have:=HK2.out;have:=HK3.out;omega⟩,⟨by (try simp only [hl4_2]);(with_reducible repeat (first|apply ra_|apply rb_|apply rc_));exact HO_0.out⟩,⟨by (try simp only [hl4_2]);(with_reducible repeat (first|apply ra_|apply rb_|apply rc_));exact HO_4.out⟩,⟨by repeat (first|(with_reducible first|exact HB.out|apply ba_|apply bb_|apply bc_)|exact HB.out)⟩⟩
                    ·rw [if_neg c28] at H
                     exact absurd H (by simp)
                   ·rw [if_neg c27] at H
                    exact absurd H (by simp)
                  ·rw [if_neg c25] at H
                   exact absurd H (by simp)
                 ·rw [if_neg c24] at H
                  exact absurd H (by simp)
                ·rw [if_neg c23] at H
                 have c23b0:=decide_eq_false c23
                 (try (have c23h0:=c23b0;simp only [hl4_2] at c23h0))
                 clear c23
                 replace H:=Option.bind_eq_some_iff.mp H
                 obtain ⟨t196,A310,H⟩:=H
                 (try dsimp only at H)
                 have A31:=ak_ A310
                 clear A310
                 replace H:=Option.bind_eq_some_iff.mp H
                 obtain ⟨t197,A320,H⟩:=H
                 (try dsimp only at H)
                 have A32:=ak_ A320
                 clear A320
                 obtain ⟨y198,hy198⟩ : ∃ y_ : List Int,y_ = (([] : List Int)):=⟨_,rfl⟩
                 replace H : (if 0 ≤ x37_2 then (if x37_2 ≤ (x4_2.length : Int) then ((some (x4_2.take (x37_2 : Int).toNat : List Int)).bind fun y201 => (if y198.length + y201.length < 17592186044416 then (levin_Solve.l2 k3 t188 x4_2 x5_2 x37_2 t197 (y198 ++ y201) (y184.length : Int) x37_2 x37_2 0) else (none))) else (none)) else (none)) = some (r1,r2):=by first|(rw [hy198];with_reducible exact H)|(have H2_:=(Option.bind_some _ _).symm.trans H;rw [hy198];with_reducible exact H2_)|(have H2_:=(Option.bind_some _ _).symm.trans H;with_reducible exact H2_)|with_reducible exact H|(rw [hy198];exact H)|exact H
                 have Ny198:=ak_ hy198
                 clear hy198
                 by_cases c33 : 0 ≤ x37_2
                 ·rw [if_pos c33] at H
                  have c33b0:=eq_true c33
                  have c33b1 : decide (0 ≤ x37_2) = true:=decide_eq_true c33
                  clear c33
                  by_cases c34 : x37_2 ≤ (x4_2.length : Int)
                  ·rw [if_pos c34] at H
                   have c34b0:=eq_true c34
                   have c34b1 : decide (x37_2 ≤ (x4_2.length : Int)) = true:=decide_eq_true c34
                   clear c34
                   obtain ⟨y201,hy201⟩ : ∃ y_ : List Int,y_ = (x4_2.take (x37_2 : Int).toNat):=⟨_,rfl⟩
                   replace H : (if y198.length + y201.length < 17592186044416 then (levin_Solve.l2 k3 t188 x4_2 x5_2 x37_2 t197 (y198 ++ y201) (y184.length : Int) x37_2 x37_2 0) else (none)) = some (r1,r2):=by first|(rw [hy201];with_reducible exact H)|(have H2_:=(Option.bind_some _ _).symm.trans H;rw [hy201];with_reducible exact H2_)|(have H2_:=(Option.bind_some _ _).symm.trans H;with_reducible exact H2_)|with_reducible exact H|(rw [hy201];exact H)|exact H
                   have Ny201:=ak_ hy201
                   clear hy201
                   by_cases c35 : y198.length + y201.length < 17592186044416
                   ·rw [if_pos c35] at H
                    have LMc35:=ak_ c35
                    clear c35
                    obtain ⟨y205,hy205⟩ : ∃ y_ : List Int,y_ = (y198 ++ y201):=⟨_,rfl⟩
                    replace H : (levin_Solve.l2 k3 t188 x4_2 x5_2 x37_2 t197 y205 (y184.length : Int) x37_2 x37_2 0) = some (r1,r2):=by first|(rw [hy205];with_reducible exact H)|(have H2_:=(Option.bind_some _ _).symm.trans H;rw [hy205];with_reducible exact H2_)|(have H2_:=(Option.bind_some _ _).symm.trans H;with_reducible exact H2_)|with_reducible exact H|(rw [hy205];exact H)|exact H
                    have Ny205:=ak_ hy205
                    clear hy205
                    have H':=ak_ H
                    clear H
                    go_wp2_with (first|((with_reducible refine gate_callee (f:=27) rfl ?_);refine goesL_ (some 65) rfl rfl Try.func27 (by kernel_rfl) rfl #[.int .i64 x7_3,.int .i64 x5_2,.int .i64 24] rfl (by (try simp only [List.map_toArray,List.map_cons,List.map_nil]);first|done|rfl|(simp only [List.length_drop,List.length_take];rfl)) ?_;(with_reducible refine (fix_Div.calls k3 x7_3 x5_2 24 t196 _ A31.out).mono ?_);rintro e w' ⟨rfl,⟨nd,rfl⟩⟩;refine ⟨_,rfl,?_⟩)|((with_reducible refine gate_callee (f:=26) rfl ?_);refine goesL_ (some 66) rfl rfl Try.func26 (by kernel_rfl) rfl #[.int .i64 t196,.int .i64 (-16760438),.int .i64 16760438] rfl (by (try simp only [List.map_toArray,List.map_cons,List.map_nil]);first|done|rfl|(simp only [List.length_drop,List.length_take];rfl)) ?_;(with_reducible refine (fix_Clamp.calls k3 t196 (-16760438) 16760438 t197 _ A32.out).mono ?_);rintro e w' ⟨rfl,⟨nd,rfl⟩⟩;refine ⟨_,rfl,?_⟩)|((with_reducible refine gate_dst (N:=67) rfl ?_);(try (refine gate_guard (by rfl) ?_;dsimp only));refine Kd.R_lit (Kd.int .i64) _ 2 ?hg (N:=67) ?hd (xs:=([] : List Int)) (inner:=[]) (ok:=fun _ => True) (okp:=fun _ => True) ?hr ?hp (fun _ hk => hk) trivial (Below.refl _ _) (Nat.le_refl _) (by simp) ?_;(case hd => rfl);(case hg => rfl);(case hr => first|(go_simp;done)|(go_simp;rfl));(case hp => exact (Reps.none _ _));intro v199 w36 ho37 hb hg_ hnew_;clear hg_ hnew_;(first|rw [← Ny198.out] at ho37|(simp only [Int.reduceToNat] at ho37;rw [← Ny198.out] at ho37));have n0_:=ak_ (Kd.R_elder' (by (with_reducible repeat (first|apply ra_|apply rb_|apply rc_));exact HO_0.out) (Kd.R_base ho37) hb);have n1_:=ak_ (Kd.R_elder' (by (with_reducible repeat (first|apply ra_|apply rb_|apply rc_));exact HO_4.out) (Kd.R_base ho37) hb);have n2_:=ak_ (Kd.R_lower (Kd.R_new' (Kd.R_new' ho37 (Kd.R_lt (by (with_reducible repeat (first|apply ra_|apply rb_|apply rc_));exact HO_0.out))) (Kd.R_lt (by (with_reducible repeat (first|apply ra_|apply rb_|apply rc_));exact HO_4.out))) (below_size (by repeat (first|(with_reducible first|exact HB.out|apply ba_|apply bb_|apply bc_)|exact HB.out))));have n3_:=ak_ (below_step (by repeat (first|(with_reducible first|exact HB.out|apply ba_|apply bb_|apply bc_)|exact HB.out)) hb);clear HO_0;clear HO_4;clear HB;have HO_0:=n0_;have HO_4:=n1_;have HO200:=n2_;have HB:=n3_;clear n0_ n1_ n2_ n3_;clear hb ho37;have q38 : (x37_2 : Int) ≤ ((x4_2.length : Int) : Int):=of_decide_eq_true (by first|(with_reducible assumption)|assumption);obtain ⟨i038,hi038,_,hsz38,_⟩:=info_parts info2;have hroom38 : x4_2.length ≤ co18:=(Kd.R_reads' HO_4.out).2.1;have hC38 : Kd.C (Kd.int .i64) _ Ao18 x4_2.length x4_2:=(Kd.R_reads' HO_4.out).2.2;have hcut38:=cut_to (P:=Try.prog) 23 2 .i64 Try.underlying23 hi038 Ao18 x4_2.length co18 x37_2 (of_decide_eq_true (by first|(with_reducible assumption)|assumption)) q38 hroom38;have hr38:=Kd.C_take (m:=(x37_2 : Int).toNat) hC38 (by omega);have hy38 : y201.length = (x37_2 : Int).toNat:=(by rw [Ny201.out,List.length_take];omega);rw [← Ny201.out] at hr38;rw [← hy38] at hcut38;have HR204:=ak_ hr38;have HC204:=ak_ (show y201.length ≤ co18 from by omega);clear hr38 hC38 hroom38 hi038 hsz38;have KY38:=ak_ hy38;clear hy38;have KL38:=ak_ (show (x37_2 : Int).toNat ≤ x4_2.length from by omega);replace q38:=eq_true q38)|((with_reducible refine gate_builtin (b:=.append) (xs:=#[.tmp 67,.tmp 70]) rfl ?_);(try (refine gate_guard (by rfl) ?_;dsimp only));at_builtin;refine Kd.R_append_rows (Kd.int .i64) (w0:=w) w.heap.size rfl (.tmp 67) (.tmp 70) 23 2 (.int .i64 0) 8 rfl Try.underlying23 info2 rfl (by decide) (by omega) v199 y198 y201 _ _ _ (fun k_ => some k_ ≠ (.slice (some ad191) t188.length co17 : Value).ownBlock ∧ some k_ ≠ (.slice Ao18 x4_2.length co18 : Value).ownBlock) (fun _ => False) rfl rfl ?aO ?aR (fun _ _ h => h) (fun _ h => h.elim) ?aF ?aB ?aS ?aL ?_;(case aR => repeat (first|exact (by repeat (first|(with_reducible exact HR204.out)|(with_reducible refine Kd.C_alloc ?_ _)|(with_reducible refine Kd.C_drewN ?_ _)|(with_reducible refine Kd.C_drew ?_)|exact HR204.out))|(with_reducible refine Kd.C_alloc ?_ _)|(with_reducible refine Kd.C_drewN ?_ _)|(with_reducible refine Kd.C_drew ?_)));(case aB => exact (by repeat (first|(with_reducible first|exact HB.out|apply ba_|apply bb_|apply bc_)|exact HB.out)));(case aF => exact (fun k_ hk => ⟨Kd.fresh' (Kd.R_lt (by (with_reducible repeat (first|apply ra_|apply rb_|apply rc_));exact HO_0.out)) k_ hk,Kd.fresh' (Kd.R_lt (by (with_reducible repeat (first|apply ra_|apply rb_|apply rc_));exact HO_4.out)) k_ hk⟩));(case aO => exact (by (with_reducible repeat (first|apply ra_|apply rb_|apply rc_));exact Kd.R_mono HO200.out (fun _ hk => ⟨hk.1.2,hk.2⟩)));(case aS => exact (below_size (by repeat (first|(with_reducible first|exact HB.out|apply ba_|apply bb_|apply bc_)|exact HB.out))));(case aL => have:=LMc35.out;omega);intro v206 w39 ho hb hg hat;rw [← Ny205.out] at ho;have n0_:=ak_ (Kd.R_after (ok:=(fun k_ => some k_ ≠ (.slice Ao18 x4_2.length co18 : Value).ownBlock)) (by (with_reducible repeat (first|apply ra_|apply rb_|apply rc_));exact HO_0.out) hg hat);have n1_:=ak_ (Kd.R_after (ok:=(fun k_ => some k_ ≠ (.slice (some ad191) t188.length co17 : Value).ownBlock)) (by (with_reducible repeat (first|apply ra_|apply rb_|apply rc_));exact HO_4.out) hg hat);have n2_:=ak_ (hb);have n3_:=ak_ ((show Kd.C (Kd.int .i64) w39 Ao18 y201.length y201 from by rw [Ny201.out];exact Kd.C_take (m:=(x37_2 : Int).toNat) ((Kd.R_reads' (Kd.R_after (ok:=(fun k_ => some k_ ≠ (.slice (some ad191) t188.length co17 : Value).ownBlock)) (by (with_reducible repeat (first|apply ra_|apply rb_|apply rc_));exact HO_4.out) hg hat)).2.2) KL38.out));have n4_:=ak_ (ho);clear HO_0;clear HO_4;clear HB;clear HR204;clear HO200;have HO_0:=n0_;have HO_4:=n1_;have HB:=n2_;have HR204:=n3_;have HO207:=n4_;clear n0_ n1_ n2_ n3_ n4_;clear ho hb hg hat))
                    go_loopg [73] k3 (fun kq v73 w' => ∃ (x4_4 : List Int) (x73_4 : Int),v73 = .int .i64 x73_4 ∧ Aside0 (levin_Solve.l2 kq t188 x4_4 x5_2 x37_2 t197 y205 (y184.length : Int) x37_2 x37_2 x73_4 = some (r1,r2)) ∧ Aside0 (kq ≤ k3) ∧ Aside0 (Kd.R (Kd.int .i64) 2 w' w.heap.size (fun k_ => some k_ ≠ ((.slice Ao18 x4_2.length co18) : Value).ownBlock ∧ some k_ ≠ (v206 : Value).ownBlock) (.slice (some ad191) t188.length co17) t188) ∧ Aside0 (Kd.R (Kd.int .i64) 2 w' w.heap.size (fun k_ => some k_ ≠ ((.slice (some ad191) t188.length co17) : Value).ownBlock ∧ some k_ ≠ (v206 : Value).ownBlock) (.slice Ao18 x4_2.length co18) x4_4) ∧ Aside0 (Kd.R (Kd.int .i64) 2 w' w.heap.size (fun k_ => some k_ ≠ ((.slice (some ad191) t188.length co17) : Value).ownBlock ∧ some k_ ≠ ((.slice Ao18 x4_2.length co18) : Value).ownBlock) v206 y205) ∧ Aside0 (Below w.heap.size w w'))
                    case atStart => exact ⟨(x4_2),(0),(by first|rfl|(simp;done)|(simp [*];done)),H',⟨Nat.le_refl _⟩,⟨by (try simp only [hl4_2]);(with_reducible repeat (first|apply ra_|apply rb_|apply rc_));exact HO_0.out⟩,⟨by (try simp only [hl4_2]);(with_reducible repeat (first|apply ra_|apply rb_|apply rc_));exact HO_4.out⟩,⟨by (try simp only [hl4_2]);(with_reducible repeat (first|apply ra_|apply rb_|apply rc_));exact HO207.out⟩,⟨by repeat (first|(with_reducible first|exact HB.out|apply ba_|apply bb_|apply bc_)|exact HB.out)⟩⟩
                    case round => as_aux_lemma =>
                     clear H'
                     try clear c1
                     try clear p1
                     try clear q1
                     try clear hx1
                     try clear qi1
                     try clear c2
                     try clear p2
                     try clear c3
                     try clear c3b0
                     try clear c3b1
                     try clear q3
                     try clear c4
                     try clear c6
                     try clear c6b0
                     try clear c6b1
                     try clear p6
                     try clear c7
                     try clear c7b0
                     try clear c7b1
                     try clear c8
                     try clear c8b0
                     try clear c8b1
                     try clear c9
                     try clear c9b0
                     try clear c12
                     try clear c13
                     try clear c13b0
                     try clear c13b1
                     try clear p18
                     try clear q18
                     try clear hx18
                     try clear qi18
                     try clear c19
                     try clear c19b0
                     try clear c19h0
                     try clear p19
                     try clear q19
                     try clear hx19
                     try clear qi19
                     try clear c21
                     try clear c21b0
                     try clear c21h0
                     try clear c22
                     try clear c22b0
                     try clear c22h0
                     try clear c23
                     try clear c23b0
                     try clear c23h0
                     try clear c24
                     try clear c24b0
                     try clear c24h0
                     try clear c25
                     try clear c25b0
                     try clear c25h0
                     try clear c26
                     try clear c27
                     try clear c27b0
                     try clear c27h0
                     try clear c28
                     try clear c28b0
                     try clear c28h0
                     try clear c33
                     try clear c33b0
                     try clear c33b1
                     try clear c34
                     try clear c34b0
                     try clear c34b1
                     try clear c35
                     try clear q38
                     try clear hx187_0
                     try clear hx191_0
                     try clear hx192_0
                     try clear hx193_0
                     try clear hx194_0
                     try clear p1
                     try clear p18
                     try clear p187
                     try clear p19
                     try clear p191
                     try clear p192
                     try clear p193
                     try clear p194
                     try clear p2
                     try clear p6
                     try clear q1
                     try clear q18
                     try clear q187
                     try clear q19
                     try clear q191
                     try clear q192
                     try clear q193
                     try clear q194
                     try clear q38
                     obtain ⟨x4_4,x73_4,rfl,HA,HK4,HO_0,HO_4,HO_10,HB⟩:=hrel
                     (try simp only [i64_w,i32_w])
                     have hl4_4:=(Kd.R_reads' HO_4.out).1
                     rw [hl4_4] at HO_4
                     (try simp only [hl4_4])
                     (try simp only [hl4_4] at HO_0)
                     (try simp only [hl4_4] at HO_10)
                     cases gk with
                     | zero => exact absurd HA.out (by simp [levin_Solve.l2])
                     | succ k4 =>
                      have H:=HA.out
                      clear HA
                      simp only [levin_Solve.l2] at H
                      by_cases c40 : x73_4 < x37_2
                      ·rw [if_pos c40] at H
                       have c40b0:=decide_eq_true c40
                       (try (have c40h0:=c40b0;simp only [hl4_2,hl4_4] at c40h0))
                       clear c40
                       by_cases c41 : 0 ≤ x73_4
                       ·rw [if_pos c41] at H
                        have c41b0:=decide_eq_true c41
                        (try (have c41h0:=c41b0;simp only [hl4_2,hl4_4] at c41h0))
                        clear c41
                        by_cases c42 : x73_4 < (y205.length : Int)
                        ·rw [if_pos c42] at H
                         have c42b0:=decide_eq_true c42
                         (try (have c42h0:=c42b0;simp only [hl4_2,hl4_4] at c42h0))
                         clear c42
                         obtain ⟨ji43,hji43⟩ : ∃ j_ : Int,(wrap64 ((wrap64 (x37_2 - 1)) - x73_4)) = j_:=⟨_,rfl⟩
                         replace H : (if 0 ≤ (ji43) then (if (ji43) < (y205.length : Int) then ((fix_Mul.f k4 t197 (rd y205 (ji43)) 24).bind fun t210 => ((fix_Clamp.f k4 (wrap64 ((rd y205 x73_4) - t210)) (-2147483648) 2147483648).bind fun t211 => (if x73_4 < (x4_4.length : Int) then (levin_Solve.l2 k4 t188 (x4_4.set (x73_4 : Int).toNat t211) x5_2 x37_2 t197 y205 (y184.length : Int) x37_2 x37_2 (wrap64 (x73_4 + 1))) else (none)))) else (none)) else (none)) = some (r1,r2):=by first|(rw [hji43] at H;exact H)|(simp only [hji43] at H ⊢;exact H)
                         have hji43w : (IntKind.i64.wrap ((wrap64 (x37_2 - 1)) - x73_4)) = ji43:=(i64_w _).trans hji43
                         by_cases c44 : 0 ≤ (ji43)
                         ·rw [if_pos c44] at H
                          have c44b0:=decide_eq_true c44
                          (try (have c44h0:=c44b0;simp only [hl4_2,hl4_4] at c44h0))
                          clear c44
                          by_cases c45 : (ji43) < (y205.length : Int)
                          ·rw [if_pos c45] at H
                           have c45b0:=decide_eq_true c45
                           (try (have c45h0:=c45b0;simp only [hl4_2,hl4_4] at c45h0))
                           clear c45
                           replace H:=Option.bind_eq_some_iff.mp H
                           obtain ⟨t210,A460,H⟩:=H
                           (try dsimp only at H)
                           have A46:=ak_ A460
                           clear A460
                           replace H:=Option.bind_eq_some_iff.mp H
                           obtain ⟨t211,A470,H⟩:=H
                           (try dsimp only at H)
                           have A47:=ak_ A470
                           clear A470
                           by_cases c48 : x73_4 < (x4_4.length : Int)
                           ·rw [if_pos c48] at H
                            have c48b0:=decide_eq_true c48
                            (try (have c48h0:=c48b0;simp only [hl4_2,hl4_4] at c48h0))
                            clear c48
                            obtain ⟨y212,hy212⟩ : ∃ y_ : List Int,y_ = (x4_4.set (x73_4 : Int).toNat t211):=⟨_,rfl⟩
                            replace H : (levin_Solve.l2 k4 t188 y212 x5_2 x37_2 t197 y205 (y184.length : Int) x37_2 x37_2 (wrap64 (x73_4 + 1))) = some (r1,r2):=by first|(rw [hy212];with_reducible exact H)|(have H2_:=(Option.bind_some _ _).symm.trans H;rw [hy212];with_reducible exact H2_)|(have H2_:=(Option.bind_some _ _).symm.trans H;with_reducible exact H2_)|with_reducible exact H|(rw [hy212];exact H)|exact H
                            have Ny212:=ak_ hy212
                            clear hy212
                            have H':=ak_ H
                            clear H
                            try go_wp2
                            have n0_:=ak_ (Kd.R_drew HO_0.out)
                            have n1_:=ak_ (Kd.R_drew HO_4.out)
                            have n2_:=ak_ (Kd.R_drew HO_10.out)
                            have n3_:=ak_ (below_drew1 HB.out)
                            clear HO_0
                            clear HO_4
                            clear HO_10
                            clear HB
                            have HO_0:=n0_
                            have HO_4:=n1_
                            have HO_10:=n2_
                            have HB:=n3_
                            clear n0_ n1_ n2_ n3_
                            obtain ⟨Ao51,co51,eo51⟩:=Kd.R_slice HO_10.out
                            (first|subst eo51|(injection eo51 with f1_ f2_ f3_;have f4_:=f1_.symm;have f5_:=f3_.symm;clear f1_ f2_ f3_;subst f4_;subst f5_))
                            have p208 : 0 ≤ (x73_4 : Int):=of_decide_eq_true (by first|(with_reducible assumption)|assumption)
                            have q208 : x73_4 < (y205.length : Int):=of_decide_eq_true (by first|(with_reducible assumption)|assumption)
                            obtain ⟨ad208,e208,hx208_0⟩:=Kd.at_int (Kd.R_reads' HO_10.out).2.2 x73_4 p208 q208
                            cases e208
                            replace p208:=eq_true p208
                            replace q208:=eq_true q208
                            have p209 : 0 ≤ ((ji43) : Int):=of_decide_eq_true (by first|(with_reducible assumption)|assumption)
                            have q209 : (ji43) < (y205.length : Int):=of_decide_eq_true (by first|(with_reducible assumption)|assumption)
                            obtain ⟨ad209,e209,hx209_0⟩:=Kd.at_int (Kd.R_reads' HO_10.out).2.2 (ji43) p209 q209
                            obtain rfl : ad208 = ad209:=(by injection e209)
                            replace p209:=eq_true p209
                            replace q209:=eq_true q209
                            refine start_ (n:=19) (S:=fun w' => w'.cell? (ad208.add (x73_4).toNat) = some (.int .i64 (rd y205 x73_4)) ∧ w'.cell? (ad208.add ((ji43)).toNat) = some (.int .i64 (rd y205 (ji43)))) (ds:=[18]) #[false,false,false,false,false,false,false,false,false,false,false,false,false,false,false,false,false,false,false] (by kernel_rfl) rfl rfl ⟨hx208_0,hx209_0⟩ (fun hHeld => ?_);refine with_tabW levin_Solve.tab22 levin_Solve.bits22 (fun HT_ HW_ => ?_)
                            generalize wr.drew = w50 at HO_0 HO_4 HO_10 HB hx208_0 hx209_0 hHeld ⊢
                            refine pure_ (i:=0) (N:=some 76) (v:=?_) (a':=?_) #[true,false,false,false,false,false,false,false,false,false,false,false,false,false,false,false,false,false,false] rfl rfl (any_of HT_.out (by kernel_rfl)) (fun _ _ _ h => h) (Or.inl ⟨by rfl,?_⟩) ?_ ?_
                            rotate_left
                            ·intro w'
                             go_simp
                             with_reducible rfl
                            rotate_left
                            ·simp only [Act.put,List.setIfInBounds_toArray,List.set_cons_zero,List.set_cons_succ,i64_w,i32_w]
                             rfl
                            refine pure_ (i:=1) (N:=some 77) (v:=?_) (a':=?_) #[true,true,false,false,false,false,false,false,false,false,false,false,false,false,false,false,false,false,false] rfl rfl (any_of HT_.out (by kernel_rfl)) (fun _ _ _ h => h) (Or.inl ⟨by rfl,?_⟩) ?_ ?_
                            rotate_left
                            ·intro w'
                             go_simp
                             with_reducible rfl
                            rotate_left
                            ·simp only [Act.put,List.setIfInBounds_toArray,List.set_cons_zero,List.set_cons_succ,i64_w,i32_w]
                             rfl
                            refine pure_ (i:=2) (N:=some 78) (v:=?_) (a':=?_) #[true,true,true,false,false,false,false,false,false,false,false,false,false,false,false,false,false,false,false] rfl rfl (any_of HT_.out (by kernel_rfl)) (fun _ _ _ h => h) (Or.inl ⟨by rfl,?_⟩) ?_ ?_
                            rotate_left
                            ·intro w'
                             go_simp
                             with_reducible rfl
                            rotate_left
                            ·simp only [Act.put,List.setIfInBounds_toArray,List.set_cons_zero,List.set_cons_succ,i64_w,i32_w]
                             rfl
                            refine pure_ (i:=3) (N:=some 79) (v:=?_) (a':=?_) #[true,true,true,true,false,false,false,false,false,false,false,false,false,false,false,false,false,false,false] rfl rfl (any_of HT_.out (by kernel_rfl)) (fun _ _ _ h => h) (Or.inl ⟨by rfl,?_⟩) ?_ ?_
                            rotate_left
                            ·intro w'
                             go_simp
                             with_reducible rfl
                            rotate_left
                            ·simp only [Act.put,List.setIfInBounds_toArray,List.set_cons_zero,List.set_cons_succ,i64_w,i32_w]
                             rfl
                            refine pure_ (i:=4) (N:=some 80) (v:=?_) (a':=?_) #[true,true,true,true,true,false,false,false,false,false,false,false,false,false,false,false,false,false,false] rfl rfl (any_of HT_.out (by kernel_rfl)) (fun _ _ _ h => h) (Or.inl ⟨by rfl,?_⟩) ?_ ?_
                            rotate_left
                            ·intro w'
                             go_simp
                             with_reducible rfl
                            rotate_left
                            ·simp only [Act.put,List.setIfInBounds_toArray,List.set_cons_zero,List.set_cons_succ,i64_w,i32_w]
                             rfl
                            refine pure_ (i:=6) (N:=some 82) (v:=?_) (a':=?_) #[true,true,true,true,true,false,true,false,false,false,false,false,false,false,false,false,false,false,false] rfl rfl (any_of HT_.out (by kernel_rfl)) (fun _ _ _ h => h) (Or.inl ⟨by rfl,?_⟩) ?_ ?_
                            rotate_left
                            ·intro w'
                             go_simp
                             with_reducible rfl
                            rotate_left
                            ·simp only [Act.put,List.setIfInBounds_toArray,List.set_cons_zero,List.set_cons_succ,i64_w,i32_w]
                             rfl
                            refine pure_ (i:=7) (N:=some 83) (v:=?_) (a':=?_) #[true,true,true,true,true,false,true,true,false,false,false,false,false,false,false,false,false,false,false] rfl rfl (any_of HT_.out (by kernel_rfl)) (fun _ _ _ h => h) (Or.inl ⟨by rfl,?_⟩) ?_ ?_
                            rotate_left
                            ·intro w'
                             go_simp
                             with_reducible rfl
                            rotate_left
                            ·simp only [Act.put,List.setIfInBounds_toArray,List.set_cons_zero,List.set_cons_succ,i64_w,i32_w]
                             rfl
                            refine pure_ (i:=8) (N:=some 84) (v:=?_) (a':=?_) #[true,true,true,true,true,false,true,true,true,false,false,false,false,false,false,false,false,false,false] rfl rfl (any_of HT_.out (by kernel_rfl)) (fun _ _ _ h => h) (Or.inl ⟨by rfl,?_⟩) ?_ ?_
                            rotate_left
                            ·intro w'
                             go_simp
                             with_reducible rfl
                            rotate_left
                            ·simp only [Act.put,List.setIfInBounds_toArray,List.set_cons_zero,List.set_cons_succ,i64_w,i32_w]
                             rfl
                            refine pure_ (i:=9) (N:=some 85) (v:=?_) (a':=?_) #[true,true,true,true,true,false,true,true,true,true,false,false,false,false,false,false,false,false,false] rfl rfl (any_of HT_.out (by kernel_rfl)) (fun _ _ _ h => h) (Or.inl ⟨by rfl,?_⟩) ?_ ?_
                            rotate_left
                            ·intro w'
                             go_simp
                             with_reducible rfl
                            rotate_left
                            ·simp only [Act.put,List.setIfInBounds_toArray,List.set_cons_zero,List.set_cons_succ,i64_w,i32_w]
                             rfl
                            refine pure_ (i:=10) (N:=some 86) (v:=?_) (a':=?_) #[true,true,true,true,true,false,true,true,true,true,true,false,false,false,false,false,false,false,false] rfl rfl (any_of HT_.out (by kernel_rfl)) (fun _ _ _ h => h) (Or.inl ⟨by rfl,?_⟩) ?_ ?_
                            rotate_left
                            ·intro w'
                             go_simp
                             with_reducible rfl
                            rotate_left
                            ·simp only [Act.put,List.setIfInBounds_toArray,List.set_cons_zero,List.set_cons_succ,i64_w,i32_w]
                             rfl
                            refine pure_ (i:=11) (N:=some 87) (v:=?_) (a':=?_) #[true,true,true,true,true,false,true,true,true,true,true,true,false,false,false,false,false,false,false] rfl rfl (any_of HT_.out (by kernel_rfl)) (fun _ _ _ h => h) (Or.inl ⟨by rfl,?_⟩) ?_ ?_
                            rotate_left
                            ·intro w'
                             go_simp
                             with_reducible rfl
                            rotate_left
                            ·simp only [Act.put,List.setIfInBounds_toArray,List.set_cons_zero,List.set_cons_succ,i64_w,i32_w]
                             rfl
                            refine pure_ (i:=12) (N:=some 88) (v:=?_) (a':=?_) #[true,true,true,true,true,false,true,true,true,true,true,true,true,false,false,false,false,false,false] rfl rfl (any_of HT_.out (by kernel_rfl)) (fun _ _ _ h => h) (Or.inl ⟨by rfl,?_⟩) ?_ ?_
                            rotate_left
                            ·intro w'
                             go_simp
                             with_reducible rfl
                            rotate_left
                            ·simp only [Act.put,List.setIfInBounds_toArray,List.set_cons_zero,List.set_cons_succ,i64_w,i32_w]
                             rfl
                            refine take_ (i:=5) (N:=some 81) (v:=?_) (a':=?_) #[true,true,true,true,true,true,true,true,true,true,true,true,true,false,false,false,false,false,false] rfl rfl (take_ofW HT_.out HW_.out (by kernel_rfl)) (fun _ _ _ h => h) (Or.inl ⟨by rfl,?_⟩) hHeld ?_ ?_
                            rotate_left
                            ·rintro w' ⟨s0,s1⟩
                             go_simp
                             with_reducible rfl
                            rotate_left
                            ·simp only [Act.put,List.setIfInBounds_toArray,List.set_cons_zero,List.set_cons_succ,i64_w,i32_w]
                             rfl
                            refine take_ (i:=13) (N:=some 89) (v:=?_) (a':=?_) #[true,true,true,true,true,true,true,true,true,true,true,true,true,true,false,false,false,false,false] rfl rfl (take_ofW HT_.out HW_.out (by kernel_rfl)) (fun _ _ _ h => h) (Or.inl ⟨by rfl,?_⟩) hHeld ?_ ?_
                            rotate_left
                            ·rintro w' ⟨s0,s1⟩
                             go_simp
                             with_reducible rfl
                            rotate_left
                            ·simp only [Act.put,List.setIfInBounds_toArray,List.set_cons_zero,List.set_cons_succ,i64_w,i32_w]
                             rfl
                            refine one_ (i:=14) (N:=some 90) #[true,true,true,true,true,true,true,true,true,true,true,true,true,true,true,false,false,false,false] rfl rfl (one_of HT_.out (by kernel_rfl)) (by decide) (fun K hK => ?_)
                            refine goes_ Try.func25 (by kernel_rfl) rfl #[.int .i64 t197,.int .i64 (rd y205 (ji43)),.int .i64 24] (by rfl) rfl rfl (by (try simp only [List.map_toArray,List.map_cons,List.map_nil]);first|done|(simp only [hji43];rfl)|rfl|(simp only [List.length_drop,List.length_take];rfl)) ?_
                            with_reducible refine (fix_Mul.calls k4 t197 (rd y205 (ji43)) 24 t210 _ A46.out).mono ?_
                            rintro e w' ⟨rfl,⟨nd,rfl⟩⟩
                            refine ⟨_,rfl,?_⟩
                            refine hK.out _ _ ⟨hHeld.1,hHeld.2⟩ (fun hHeld => ?_)
                            clear hK K
                            refine norm_ (a':=?_) ?_ ?_
                            rotate_left
                            ·show Act.put _ (some 90) _ = _
                             simp only [Act.put,List.setIfInBounds_toArray,List.set_cons_zero,List.set_cons_succ,i64_w,i32_w]
                             rfl
                            refine pure_ (i:=15) (N:=some 91) (v:=?_) (a':=?_) #[true,true,true,true,true,true,true,true,true,true,true,true,true,true,true,true,false,false,false] rfl rfl (any_of HT_.out (by kernel_rfl)) (fun _ _ _ h => h) (Or.inl ⟨by rfl,?_⟩) ?_ ?_
                            rotate_left
                            ·intro w'
                             go_simp
                             with_reducible rfl
                            rotate_left
                            ·simp only [Act.put,List.setIfInBounds_toArray,List.set_cons_zero,List.set_cons_succ,i64_w,i32_w]
                             rfl
                            refine one_ (i:=16) (N:=some 92) #[true,true,true,true,true,true,true,true,true,true,true,true,true,true,true,true,true,false,false] rfl rfl (one_of HT_.out (by kernel_rfl)) (by decide) (fun K hK => ?_)
                            refine goes_ Try.func26 (by kernel_rfl) rfl #[.int .i64 (wrap64 ((rd y205 x73_4) - t210)),.int .i64 (-2147483648),.int .i64 2147483648] (by rfl) rfl rfl (by (try simp only [List.map_toArray,List.map_cons,List.map_nil]);first|done|rfl|(simp only [List.length_drop,List.length_take];rfl)) ?_
                            with_reducible refine (fix_Clamp.calls k4 (wrap64 ((rd y205 x73_4) - t210)) (-2147483648) 2147483648 t211 _ A47.out).mono ?_
                            rintro e w' ⟨rfl,⟨nd,rfl⟩⟩
                            refine ⟨_,rfl,?_⟩
                            have p49 : 0 ≤ (x73_4 : Int):=of_decide_eq_true (by first|(with_reducible assumption)|assumption)
                            have q49 : (x73_4 : Int) < ((x4_4.length : Int) : Int):=of_decide_eq_true (by first|(with_reducible assumption)|assumption)
                            obtain ⟨go49,co49,eo49,gb49,gl49,cl49,HG49⟩:=Kd.R_form HO_4.out (by omega)
                            (first|cases eo49|(injection eo49 with ea_ en_ ec_;(first|subst ea_|(injection ea_ with ea_;subst ea_));subst ec_;clear en_))
                            have GB49:=ak_ gb49
                            have GG49:=ak_ HG49
                            clear gb49 gl49 HG49
                            obtain ⟨hx49_0,hf49_0⟩:=Kd.R_celln 0 HO_4.out (x73_4 : Int) p49 q49
                            replace p49:=eq_true p49
                            replace q49:=eq_true q49
                            have HP52:=Kd.R_putn HO_4.out (x73_4 : Int) t211
                            rw [← Ny212.out] at HP52
                            have HQ52:=ak_ HP52
                            clear HP52
                            refine hK.out _ _ ⟨hHeld.1,hHeld.2⟩ (fun hHeld => ?_)
                            clear hK K
                            refine norm_ (a':=?_) ?_ ?_
                            rotate_left
                            ·show Act.put _ (some 92) _ = _
                             simp only [Act.put,List.setIfInBounds_toArray,List.set_cons_zero,List.set_cons_succ,i64_w,i32_w]
                             rfl
                            refine pure_ (i:=17) (N:=some 93) (v:=?_) (a':=?_) #[true,true,true,true,true,true,true,true,true,true,true,true,true,true,true,true,true,true,false] rfl rfl (any_of HT_.out (by kernel_rfl)) (fun _ _ _ h => h) (Or.inl ⟨by rfl,?_⟩) ?_ ?_
                            rotate_left
                            ·intro w'
                             go_simp
                             with_reducible rfl
                            rotate_left
                            ·simp only [Act.put,List.setIfInBounds_toArray,List.set_cons_zero,List.set_cons_succ,i64_w,i32_w]
                             rfl
                            refine last_ (i:=18) (N:=none) #[true,true,true,true,true,true,true,true,true,true,true,true,true,true,true,true,true,true,true] rfl rfl (one_of HT_.out (by kernel_rfl)) (by decide) (fun K hK => ?_)
                            refine skip_ (w1:=?_) (by rfl) rfl ?_ ?_
                            rotate_left
                            ·go_simp
                             rfl
                            refine hK.out _ _ ?_
                            clear hK K
                            refine done_ (done_of HT_.out (by kernel_rfl)) ?_
                            try go_wp2
                            (try simp only [← hl4_4])
                            go_roundg k4
                            case measure => have:=HJ1.out;have:=HK2.out;have:=HK3.out;have:=HK4.out;omega
                            case rel => exact ⟨(y212),(wrap64 (x73_4 + 1)),(by first|rfl|(simp;done)|(simp [*];done)),H',⟨by have:=HJ1.out;have:=HK2.out;have:=HK3.out;have:=HK4.out;omega⟩,⟨by (try simp only [hl4_2]);(try simp only [hl4_4]);(with_reducible repeat (first|apply ra_|apply rb_|apply rc_));exact Kd.R_mono (Kd.R_far (p:=⟨go49,(x73_4 : Int).toNat,none⟩) (Kd.R_mono HO_0.out (fun k_ hk => (⟨hk,fun e_ => hk.1 (by rw [e_];rfl)⟩ : _ ∧ k_ ≠ go49))) (fun _ hk => hk.2) (.int .i64 t211)) (fun _ hk => ⟨hk.1.1,hk.1.2⟩)⟩,⟨by (try simp only [hl4_2]);(try simp only [hl4_4]);(with_reducible repeat (first|apply ra_|apply rb_|apply rc_));exact HQ52.out⟩,⟨by (try simp only [hl4_2]);(try simp only [hl4_4]);(with_reducible repeat (first|apply ra_|apply rb_|apply rc_));exact Kd.R_mono (Kd.R_far (p:=⟨go49,(x73_4 : Int).toNat,none⟩) (Kd.R_mono HO_10.out (fun k_ hk => (⟨hk,fun e_ => hk.2 (by rw [e_];rfl)⟩ : _ ∧ k_ ≠ go49))) (fun _ hk => hk.2) (.int .i64 t211)) (fun _ hk => ⟨hk.1.1,hk.1.2⟩)⟩,⟨by repeat (first|(with_reducible first|exact HB.out|apply ba_|apply bb_|apply bc_|refine below_set ?_ GB49.out)|exact HB.out)⟩⟩
                           ·rw [if_neg c48] at H
                            exact absurd H (by simp)
                          ·rw [if_neg c45] at H
                           exact absurd H (by simp)
                         ·rw [if_neg c44] at H
                          exact absurd H (by simp)
                        ·rw [if_neg c42] at H
                         exact absurd H (by simp)
                       ·rw [if_neg c41] at H
                        exact absurd H (by simp)
                      ·rw [if_neg c40] at H
                       have c40b0:=decide_eq_false c40
                       (try (have c40h0:=c40b0;simp only [hl4_2,hl4_4] at c40h0))
                       clear c40
                       by_cases c53 : 0 ≤ x37_2
                       ·rw [if_pos c53] at H
                        have c53b0:=decide_eq_true c53
                        (try (have c53h0:=c53b0;simp only [hl4_2,hl4_4] at c53h0))
                        clear c53
                        by_cases c54 : x37_2 < (x4_4.length : Int)
                        ·rw [if_pos c54] at H
                         have c54b0:=decide_eq_true c54
                         (try (have c54h0:=c54b0;simp only [hl4_2,hl4_4] at c54h0))
                         clear c54
                         obtain ⟨y213,hy213⟩ : ∃ y_ : List Int,y_ = (x4_4.set (x37_2 : Int).toNat t197):=⟨_,rfl⟩
                         replace H : ((fix_Mul.f k4 t197 t197 24).bind fun t214 => ((fix_Mul.f k4 x5_2 (wrap64 (16777216 - t214)) 24).bind fun t215 => (levin_Solve.l0 k4 t188 y213 (mx t215 1) (y184.length : Int) (wrap64 (x37_2 + 1))))) = some (r1,r2):=by first|(rw [hy213];with_reducible exact H)|(have H2_:=(Option.bind_some _ _).symm.trans H;rw [hy213];with_reducible exact H2_)|(have H2_:=(Option.bind_some _ _).symm.trans H;with_reducible exact H2_)|with_reducible exact H|(rw [hy213];exact H)|exact H
                         have Ny213:=ak_ hy213
                         clear hy213
                         replace H:=Option.bind_eq_some_iff.mp H
                         obtain ⟨t214,A560,H⟩:=H
                         (try dsimp only at H)
                         have A56:=ak_ A560
                         clear A560
                         replace H:=Option.bind_eq_some_iff.mp H
                         obtain ⟨t215,A570,H⟩:=H
                         (try dsimp only at H)
                         have A57:=ak_ A570
                         clear A570
                         obtain ⟨ji58,hji58⟩ : ∃ j_ : Int,(mx t215 1) = j_:=⟨_,rfl⟩
                         replace H : (levin_Solve.l0 k4 t188 y213 ji58 (y184.length : Int) (wrap64 (x37_2 + 1))) = some (r1,r2):=by first|(rw [hji58] at H;exact H)|(simp only [hji58] at H ⊢;exact H)
                         (try rw [hji58] at A56)
                         (try rw [hji58] at A57)
                         (try (have hji58l : 1 ≤ ji58:=by (rw [← hji58];unfold mx;(repeat' split) <;> omega)))
                         (try (have hji58m : 0 ≤ ji58:=by omega))
                         have hji58_ : (if t215 < 1 then 1 else t215) = ji58:=hji58
                         have H':=ak_ H
                         clear H
                         have p55 : 0 ≤ (x37_2 : Int):=of_decide_eq_true (by first|(with_reducible assumption)|assumption)
                         have q55 : (x37_2 : Int) < ((x4_4.length : Int) : Int):=of_decide_eq_true (by first|(with_reducible assumption)|assumption)
                         obtain ⟨go55,co55,eo55,gb55,gl55,cl55,HG55⟩:=Kd.R_form HO_4.out (by omega)
                         (first|cases eo55|(injection eo55 with ea_ en_ ec_;(first|subst ea_|(injection ea_ with ea_;subst ea_));subst ec_;clear en_))
                         have GB55:=ak_ gb55
                         have GG55:=ak_ HG55
                         clear gb55 gl55 HG55
                         obtain ⟨hx55_0,hf55_0⟩:=Kd.R_celln 0 HO_4.out (x37_2 : Int) p55 q55
                         replace p55:=eq_true p55
                         replace q55:=eq_true q55
                         have HP59:=Kd.R_putg HO_4.out (x37_2 : Int) t197
                         go_wp2_with (first|((with_reducible refine gate_store (t:=2) (p:=98) rfl ?_);refine store_event (t:=2) (p:=98) (v:=?vo_w60) (w1:=(wr.setCell ⟨go55,(x37_2 : Int).toNat,none⟩ (.int .i64 t197))) ?hg ?ho ?hn ?hr ?_;(case ho => rfl);(case hg => rfl);(case hn => rfl);(case hr => first|(go_simp;done)|(go_simp;rfl));intro w60 hw;have hg : wr.grownBy w60 (some go55):=(by rw [hw];exact HP59.2);have hp_ : Kd.R (Kd.int .i64) 2 w60 w.heap.size (fun k_ => some k_ ≠ (.slice (some ad191) t188.length co17 : Value).ownBlock ∧ some k_ ≠ (v206 : Value).ownBlock) (.slice (some ⟨go55,0,none⟩) x4_4.length co18) y213:=(by rw [hw,Ny213.out];exact HP59.1);clear HP59;have n0_:=ak_ (Kd.R_after (v:=(.slice (some ⟨go55,0,none⟩) x4_4.length co18)) (v1:=(.slice (some ⟨go55,0,none⟩) x4_4.length co18)) (ok:=(fun k_ => some k_ ≠ (v206 : Value).ownBlock)) (by (with_reducible repeat (first|apply ra_|apply rb_|apply rc_));exact Kd.R_mono HO_0.out (fun _ hk => ⟨hk.2,hk.1⟩)) hg (.inl rfl));have n1_:=ak_ (hp_);have n2_:=ak_ (Kd.R_after (v:=(.slice (some ⟨go55,0,none⟩) x4_4.length co18)) (v1:=(.slice (some ⟨go55,0,none⟩) x4_4.length co18)) (ok:=(fun k_ => some k_ ≠ (.slice (some ad191) t188.length co17 : Value).ownBlock)) (by (with_reducible repeat (first|apply ra_|apply rb_|apply rc_));exact HO_10.out) hg (.inl rfl));have n3_:=ak_ ((by rw [hw];exact below_set (HB.out) GB55.out : Below w.heap.size w w60));clear HO_0;clear HO_4;clear HO_10;clear HB;have HO_0:=n0_;have HO_4:=n1_;have HO_10:=n2_;have HB:=n3_;clear n0_ n1_ n2_ n3_;clear hg hw hp_)|((with_reducible refine gate_callee (f:=25) rfl ?_);refine goesL_ (some 102) rfl rfl Try.func25 (by kernel_rfl) rfl #[.int .i64 t197,.int .i64 t197,.int .i64 24] rfl (by (try simp only [List.map_toArray,List.map_cons,List.map_nil]);first|done|rfl|(simp only [List.length_drop,List.length_take];rfl)) ?_;(with_reducible refine (fix_Mul.calls k4 t197 t197 24 t214 _ A56.out).mono ?_);rintro e w' ⟨rfl,⟨nd,rfl⟩⟩;refine ⟨_,rfl,?_⟩)|((with_reducible refine gate_callee (f:=25) rfl ?_);refine goesL_ (some 104) rfl rfl Try.func25 (by kernel_rfl) rfl #[.int .i64 x5_2,.int .i64 (wrap64 (16777216 - t214)),.int .i64 24] rfl (by (try simp only [List.map_toArray,List.map_cons,List.map_nil]);first|done|rfl|(simp only [List.length_drop,List.length_take];rfl)) ?_;(with_reducible refine (fix_Mul.calls k4 x5_2 (wrap64 (16777216 - t214)) 24 t215 _ A57.out).mono ?_);rintro e w' ⟨rfl,⟨nd,rfl⟩⟩;refine ⟨_,rfl,?_⟩))
                         (try simp only [← hl4_2,← hl4_4])
                         go_roundg k4
                         case measure => have:=HJ1.out;have:=HK2.out;have:=HK3.out;have:=HK4.out;omega
                         case rel => exact ⟨(y213),(ji58),(wrap64 (x37_2 + 1)),(by first|rfl|(simp;done)|(simp only [← hji58] <;> (first|rfl|simp))|(simp [*];done)),(by first|rfl|(simp;done)|(simp [*];done)),H',⟨by have:=HJ1.out;have:=HK2.out;have:=HK3.out;have:=HK4.out;omega⟩,⟨by (try simp only [hl4_2]);(try simp only [hl4_4]);(with_reducible repeat (first|apply ra_|apply rb_|apply rc_));exact Kd.R_mono HO_0.out (fun _ hk => hk.2)⟩,⟨by (try simp only [hl4_2]);(try simp only [hl4_4]);(with_reducible repeat (first|apply ra_|apply rb_|apply rc_));exact Kd.R_mono HO_4.out (fun _ hk => hk.1)⟩,⟨by repeat (first|(with_reducible first|exact HB.out|apply ba_|apply bb_|apply bc_)|exact HB.out)⟩⟩
                        ·rw [if_neg c54] at H
                         exact absurd H (by simp)
                       ·rw [if_neg c53] at H
                        exact absurd H (by simp)
                   ·rw [if_neg c35] at H
                    exact absurd H (by simp)
                  ·rw [if_neg c34] at H
                   exact absurd H (by simp)
                 ·rw [if_neg c33] at H
                  exact absurd H (by simp)
             ·rw [if_neg c22] at H
              exact absurd H (by simp)
            ·rw [if_neg c21] at H
             exact absurd H (by simp)
           ·rw [if_neg c19] at H
            have c19b0:=decide_eq_false c19
            (try (have c19h0:=c19b0;simp only [hl4_2] at c19h0))
            clear c19
            have H':=ak_ H
            clear H
            go_wp2
            go_loopg [109] k2 (fun kq v109 w' => ∃ (x4_3 : List Int) (x109_3 : Int),v109 = .int .i64 x109_3 ∧ Aside0 (levin_Solve.l3 kq x4_3 (x4_2.length : Int) x109_3 = some (r1,r2)) ∧ Aside0 (kq ≤ k2) ∧ Aside0 (Kd.R (Kd.int .i64) 2 w' w.heap.size (fun _ => True) (.slice Ao18 x4_2.length co18) x4_3) ∧ Aside0 (Below w.heap.size w w'))
            case atStart => exact ⟨(x4_2),(0),(by first|rfl|(simp;done)|(simp [*];done)),H',⟨Nat.le_refl _⟩,⟨by (try simp only [hl4_2]);(with_reducible repeat (first|apply ra_|apply rb_|apply rc_));exact Kd.R_mono HO_4.out (fun _ hk => trivial)⟩,⟨by repeat (first|(with_reducible first|exact HB.out|apply ba_|apply bb_|apply bc_)|exact HB.out)⟩⟩
            case round => as_aux_lemma =>
             clear H'
             try clear c1
             try clear p1
             try clear q1
             try clear hx1
             try clear qi1
             try clear c2
             try clear p2
             try clear q2
             try clear hx2
             try clear c3
             try clear c3b0
             try clear c3b1
             try clear q3
             try clear c4
             try clear p4
             try clear q4
             try clear hx4
             try clear hf4
             try clear c5
             try clear p5
             try clear q5
             try clear hx5
             try clear hf5
             try clear c6
             try clear c6b0
             try clear c6b1
             try clear p6
             try clear c7
             try clear c7b0
             try clear c7b1
             try clear c8
             try clear c8b0
             try clear c8b1
             try clear c9
             try clear c9b0
             try clear c12
             try clear c13
             try clear c13b0
             try clear c13b1
             try clear p18
             try clear q18
             try clear hx18
             try clear qi18
             try clear c19
             try clear c19b0
             try clear c19h0
             try clear p19
             try clear q19
             try clear hx19
             try clear qi19
             try clear p20
             try clear q20
             try clear hx20
             try clear c21
             try clear c21b0
             try clear c21h0
             try clear c22
             try clear c22b0
             try clear c22h0
             try clear c23
             try clear c23b0
             try clear c23h0
             try clear c24
             try clear c24b0
             try clear c24h0
             try clear c25
             try clear c25b0
             try clear c25h0
             try clear c26
             try clear c27
             try clear c27b0
             try clear c27h0
             try clear c28
             try clear c28b0
             try clear c28h0
             try clear c33
             try clear c33b0
             try clear c33b1
             try clear c34
             try clear c34b0
             try clear c34b1
             try clear c35
             try clear q38
             try clear c40
             try clear c40b0
             try clear c40h0
             try clear c41
             try clear c41b0
             try clear c41h0
             try clear c42
             try clear c42b0
             try clear c42h0
             try clear c44
             try clear c44b0
             try clear c44h0
             try clear c45
             try clear c45b0
             try clear c45h0
             try clear c48
             try clear c48b0
             try clear c48h0
             try clear p49
             try clear q49
             try clear hx49
             try clear hf49
             try clear c53
             try clear c53b0
             try clear c53h0
             try clear c54
             try clear c54b0
             try clear c54h0
             try clear p55
             try clear q55
             try clear hx55
             try clear hf55
             try clear hx187_0
             try clear hx191_0
             try clear hx192_0
             try clear hx193_0
             try clear hx194_0
             try clear hx208_0
             try clear hx209_0
             try clear hx49_0
             try clear hx55_0
             try clear p1
             try clear p18
             try clear p187
             try clear p19
             try clear p191
             try clear p192
             try clear p193
             try clear p194
             try clear p2
             try clear p208
             try clear p209
             try clear p49
             try clear p55
             try clear p6
             try clear q1
             try clear q18
             try clear q187
             try clear q19
             try clear q191
             try clear q192
             try clear q193
             try clear q194
             try clear q208
             try clear q209
             try clear q3
             try clear q38
             try clear q49
             try clear q55
             obtain ⟨x4_3,x109_3,rfl,HA,HK3,HO_4,HB⟩:=hrel
             (try simp only [i64_w,i32_w])
             have hl4_3:=(Kd.R_reads' HO_4.out).1
             rw [hl4_3] at HO_4
             (try simp only [hl4_3])
             cases gk with
             | zero => exact absurd HA.out (by simp [levin_Solve.l3])
             | succ k3 =>
              have H:=HA.out
              clear HA
              simp only [levin_Solve.l3] at H
              by_cases c61 : x109_3 < (x4_2.length : Int)
              ·rw [if_pos c61] at H
               have c61b0:=decide_eq_true c61
               (try (have c61h0:=c61b0;simp only [hl4_2,hl4_3] at c61h0))
               clear c61
               by_cases c62 : 0 ≤ x109_3
               ·rw [if_pos c62] at H
                have c62b0:=decide_eq_true c62
                (try (have c62h0:=c62b0;simp only [hl4_2,hl4_3] at c62h0))
                clear c62
                by_cases c63 : x109_3 < (x4_3.length : Int)
                ·rw [if_pos c63] at H
                 have c63b0:=decide_eq_true c63
                 (try (have c63h0:=c63b0;simp only [hl4_2,hl4_3] at c63h0))
                 clear c63
                 replace H:=Option.bind_eq_some_iff.mp H
                 obtain ⟨t217,A640,H⟩:=H
                 (try dsimp only at H)
                 have A64:=ak_ A640
                 clear A640
                 obtain ⟨y218,hy218⟩ : ∃ y_ : List Int,y_ = (x4_3.set (x109_3 : Int).toNat t217):=⟨_,rfl⟩
                 replace H : (levin_Solve.l3 k3 y218 (x4_2.length : Int) (wrap64 (x109_3 + 1))) = some (r1,r2):=by first|(rw [hy218];with_reducible exact H)|(have H2_:=(Option.bind_some _ _).symm.trans H;rw [hy218];with_reducible exact H2_)|(have H2_:=(Option.bind_some _ _).symm.trans H;with_reducible exact H2_)|with_reducible exact H|(rw [hy218];exact H)|exact H
                 have Ny218:=ak_ hy218
                 clear hy218
                 have H':=ak_ H
                 clear H
                 have p216 : 0 ≤ (x109_3 : Int):=of_decide_eq_true (by first|(with_reducible assumption)|assumption)
                 have q216 : x109_3 < (x4_3.length : Int):=of_decide_eq_true (by first|(with_reducible assumption)|assumption)
                 obtain ⟨ad216,e216,hx216_0⟩:=Kd.at_int (Kd.R_reads' HO_4.out).2.2 x109_3 p216 q216
                 cases e216
                 replace p216:=eq_true p216
                 replace q216:=eq_true q216
                 go_wp2_with (first|((with_reducible refine gate_callee (f:=25) rfl ?_);refine goesL_ (some 118) rfl rfl Try.func25 (by kernel_rfl) rfl #[.int .i64 (rd x4_3 x109_3),.int .i64 1,.int .i64 12] rfl (by (try simp only [List.map_toArray,List.map_cons,List.map_nil]);first|done|rfl|(simp only [List.length_drop,List.length_take];rfl)) ?_;(with_reducible refine (fix_Mul.calls k3 (rd x4_3 x109_3) 1 12 t217 _ A64.out).mono ?_);rintro e w' ⟨rfl,⟨nd,rfl⟩⟩;refine ⟨_,rfl,?_⟩;(try (rw [drewN_self wr];generalize hq_ : World.drewN wr _ = wr;have n0_ : Aside0 (Kd.R (Kd.int .i64) 2 wr w.heap.size (fun _ => True) (.slice (some ad216) x4_3.length co18) x4_3):=⟨by rw [← hq_];exact (by (with_reducible repeat (first|apply ra_|apply rb_|apply rc_));exact HO_4.out)⟩;have n1_ : Aside0 (Below w.heap.size w wr):=⟨by rw [← hq_];exact (by repeat (first|(with_reducible first|exact HB.out|apply ba_|apply bb_|apply bc_)|exact HB.out))⟩;clear HO_4 HB hq_;have HO_4:=n0_;have HB:=n1_;clear n0_ n1_));have p65 : 0 ≤ (x109_3 : Int):=of_decide_eq_true (by first|(with_reducible assumption)|assumption);have q65 : (x109_3 : Int) < ((x4_3.length : Int) : Int):=of_decide_eq_true (by first|(with_reducible assumption)|assumption);obtain ⟨go65,co65,eo65,gb65,gl65,cl65,HG65⟩:=Kd.R_form HO_4.out (by omega);(first|cases eo65|(injection eo65 with ea_ en_ ec_;(first|subst ea_|(injection ea_ with ea_;subst ea_));subst ec_;clear en_));have GB65:=ak_ gb65;have GG65:=ak_ HG65;clear gb65 gl65 HG65;(first|simp only [add_plain] at hx216_0|skip);obtain ⟨hx65_0,hf65_0⟩:=Kd.R_celln 0 HO_4.out (x109_3 : Int) p65 q65;replace p65:=eq_true p65;replace q65:=eq_true q65;obtain ⟨hy66_,hz66_⟩:=Kd.R_celln 0 HO_4.out (x109_3 : Int) (of_decide_eq_true (by first|(with_reducible assumption)|assumption)) (of_decide_eq_true (by first|(with_reducible assumption)|assumption));have HP66:=Kd.R_putg HO_4.out (x109_3 : Int) t217)|((with_reducible refine gate_store (t:=2) (p:=119) rfl ?_);refine store_event (t:=2) (p:=119) (v:=?vo_w67) (w1:=(wr.setCell ⟨go65,(x109_3 : Int).toNat,none⟩ (.int .i64 t217))) ?hg ?ho ?hn ?hr ?_;(case ho => rfl);(case hg => rfl);(case hn => rfl);(case hr => first|(go_simp;done)|(go_simp;rfl));intro w67 hw;have hg : wr.grownBy w67 (some go65):=(by rw [hw];exact HP66.2);have hp_ : Kd.R (Kd.int .i64) 2 w67 w.heap.size (fun _ => True) (.slice (some ⟨go65,0,none⟩) x4_3.length co18) y218:=(by rw [hw,Ny218.out];exact HP66.1);clear HP66;have n0_:=ak_ (hp_);have n1_:=ak_ ((by rw [hw];exact below_set (HB.out) GB65.out : Below w.heap.size w w67));clear HO_4;clear HB;have HO_4:=n0_;have HB:=n1_;clear n0_ n1_;clear hg hw hp_))
                 (try simp only [← hl4_3])
                 go_roundg k3
                 case measure => have:=HJ1.out;have:=HK2.out;have:=HK3.out;omega
                 case rel => exact ⟨(y218),(wrap64 (x109_3 + 1)),(by first|rfl|(simp;done)|(simp [*];done)),H',⟨by have:=HJ1.out;have:=HK2.out;have:=HK3.out;omega⟩,⟨by (try simp only [hl4_2]);(try simp only [hl4_3]);(with_reducible repeat (first|apply ra_|apply rb_|apply rc_));exact HO_4.out⟩,⟨by repeat (first|(with_reducible first|exact HB.out|apply ba_|apply bb_|apply bc_)|exact HB.out)⟩⟩
                ·rw [if_neg c63] at H
                 exact absurd H (by simp)
               ·rw [if_neg c62] at H
                exact absurd H (by simp)
              ·rw [if_neg c61] at H
               have c61b0:=decide_eq_false c61
               (try (have c61h0:=c61b0;simp only [hl4_2,hl4_3] at c61h0))
               clear c61
               replace H:=Option.bind_eq_some_iff.mp H
               obtain ⟨t219,A680,H⟩:=H
               (try dsimp only at H)
               have A68:=ak_ A680
               clear A680
               simp only [Option.some.injEq,Prod.mk.injEq] at H
               obtain ⟨rfl,rfl⟩:=H
               go_wp2_with (first|((with_reducible refine gate_callee (f:=28) rfl ?_);refine goesL_ (some 122) rfl rfl Try.func28 (by kernel_rfl) rfl #[.slice Ao18 x4_3.length co18] rfl (by (try simp only [List.map_toArray,List.map_cons,List.map_nil]);first|done|rfl|(simp only [List.length_drop,List.length_take];rfl)) ?_;(with_reducible refine (lpc_Fit.calls k3 _ _ x4_3 t219 _ ?side1 ?side2 A68.out).mono ?_);(case side1 => repeat (first|exact (Kd.R_reads' HO_4.out).2.2|(with_reducible refine Kd.C_alloc ?_ _)|(with_reducible refine Kd.C_drewN ?_ _)|(with_reducible refine Kd.C_drew ?_)));(case side2 => exact (Kd.R_reads' HO_4.out).2.1);rintro e w69 ⟨v220,rfl,ho0,hb⟩;refine ⟨_,rfl,?_⟩;have n0_:=ak_ (Kd.R_elder' (by (with_reducible repeat (first|apply ra_|apply rb_|apply rc_));exact HO_4.out) (Kd.R_base ho0) hb);have n1_:=ak_ (Kd.R_lower (Kd.R_new' ho0 (Kd.R_lt (by (with_reducible repeat (first|apply ra_|apply rb_|apply rc_));exact HO_4.out))) (below_size (by repeat (first|(with_reducible first|exact HB.out|apply ba_|apply bb_|apply bc_)|exact HB.out))));have n2_:=ak_ (below_step (by repeat (first|(with_reducible first|exact HB.out|apply ba_|apply bb_|apply bc_)|exact HB.out)) hb);clear HO_4;clear HB;have HO_4:=n0_;have HO221:=n1_;have HB:=n2_;clear n0_ n1_ n2_;(try clear hb);(try clear ho0)))
               go_ret2
               exact ⟨_,by first|rfl|(simp [errW_none,errW_some] <;> rfl)|(simp only [← hji5];first|rfl|(simp [errW_none,errW_some] <;> rfl))|(simp [*,errW_none,errW_some] <;> rfl),by (with_reducible repeat (first|apply ra_|apply rb_|apply rc_));exact Kd.R_mono HO221.out (fun _ hk => trivial),by repeat (first|(with_reducible first|exact HB.out|apply ba_|apply bb_|apply bc_)|exact HB.out)⟩
        ·rw [if_neg c13] at H
         exact absurd H (by simp)
      ·rw [if_neg c8] at H
       exact absurd H (by simp)
     ·rw [if_neg c7] at H
      exact absurd H (by simp)
    ·rw [if_neg c6] at H
     exact absurd H (by simp)

end Go.Proofs.Ytllglpcpjeggcaa.P
