/- The machine side of the laws of one chapter, without conditions: each call of a Go function comes to what the Lean function of its name answers. Written for this claim by a program of the prover. -/
import Derived.Test.YtlmacbiahofmcaaPx0
import Derived.Test.YtlmacbiahofmcaaPx3
namespace Go.Proofs.Ytlmacbiahofmcaa.P
open Go.RowKit Go.Proofs.YtlmacbiahofmcaaW.PrintWords Go.Proofs.YtlmacbiahofmcaaW.PrintLast Go.Proofs.YtlmacbiahofmcaaW.PrintMore
attribute [local go_sem] max2_int min2_int max_two min_two max_three min_three max_four min_four   -- for this text's walks alone
set_option linter.unusedVariables false
set_option linter.unusedSimpArgs false

/-! ### fix_series: function 44 -/
def fix_series.l0 : Nat → Int → Int → List Int → Int → Int → Option (Int)
 | 0,_,_,_,_,_ => none
 | k + 1,x0,x5,x12,x13,x14 => if x14 < x13 then (if 0 ≤ x14 then (if x14 < (x12.length : Int) then ((fix_Mul.f k x0 x5 30).bind fun t110 => (fix_series.l0 k x0 (wrap64 ((rd x12 x14) + t110)) x12 x13 (wrap64 (x14 + 1)))) else (none)) else (none)) else (some x5)
def fix_series.f (k : Nat) (a0 : Int) (l1 : List Int) : Option (Int):=if 0 < (l1.length : Int) then (if 1 ≤ (l1.length : Int) then ((some (l1.drop 1 : List Int)).bind fun y105 => (fix_series.l0 k a0 (rd l1 0) y105 (y105.length : Int) 0)) else (none)) else (none)
theorem fix_series.mono_l : ∀ k,(∀ y0 y1 y2 y3 y4,LeO (fix_series.l0 k y0 y1 y2 y3 y4) (fix_series.l0 (k + 1) y0 y1 y2 y3 y4))
 | 0 => fun _ _ _ _ _ r h => by simp [fix_series.l0] at h
 | k + 1 => by
  have ih0:=fix_series.mono_l k
  all_goals (intros;first|unfold fix_series.l0)
  all_goals (repeat' first|(with_reducible first|exact ih0 _ _ _ _ _|exact fix_Mul.mono _ _ _ _|exact LeO.refl _|exact LeO.none _|refine LeO.ite ?_ ?_|refine LeO.bind ?_ (fun _ => ?_))|exact ih0 _ _ _ _ _|exact fix_Mul.mono _ _ _ _|exact LeO.none _|refine LeO.ite ?_ ?_|refine LeO.bind ?_ (fun _ => ?_))
theorem fix_series.mono : ∀ a0 a1 k,LeO (fix_series.f k a0 a1) (fix_series.f (k + 1) a0 a1):=by
 intro a0 a1 k
 have ih0:=fix_series.mono_l k
 unfold fix_series.f
 repeat' first|(with_reducible first|exact ih0 _ _ _ _ _|exact fix_Mul.mono _ _ _ _|exact LeO.refl _|exact LeO.none _|refine LeO.ite ?_ ?_|refine LeO.bind ?_ (fun _ => ?_))|exact ih0 _ _ _ _ _|exact fix_Mul.mono _ _ _ _|exact LeO.none _|refine LeO.ite ?_ ?_|refine LeO.bind ?_ (fun _ => ?_)
set_option maxHeartbeats 8000000 in
set_option maxRecDepth 100000 in
theorem fix_series.calls (k : Nat) (a0 : Int) (A1 : Option Addr) (c1 : Nat) (l1 : List Int) (r : Int) (w : World) (hr1 : Kd.C (Kd.int .i64) w A1 l1.length l1) (hc1 : l1.length ≤ c1) (h : fix_series.f k a0 l1 = some r) :
  Calls Try.prog 44 #[.int .i64 a0,.slice A1 l1.length c1] w fun e w' => e = .returned (.int .i64 r) ∧ Drawn0 w w':=by
 have HR1:=ak_ hr1
 have HC1:=ak_ hc1
 clear hr1 hc1
 have H : (if 0 < (l1.length : Int) then (if 1 ≤ (l1.length : Int) then ((some (l1.drop 1 : List Int)).bind fun y105 => (fix_series.l0 k a0 (rd l1 0) y105 (y105.length : Int) 0)) else (none)) else (none)) = some r:=h
 clear h
 by_cases c3 : 0 < (l1.length : Int)
 ·rw [if_pos c3] at H
  have c3b0:=decide_eq_true c3
  have c3b1 : decide (0 < l1.length) = true:=decide_eq_true (by omega)
  clear c3
  by_cases c4 : 1 ≤ (l1.length : Int)
  ·rw [if_pos c4] at H
   have c4b0:=eq_true c4
   have c4b1 : decide (1 ≤ (l1.length : Int)) = true:=decide_eq_true c4
   clear c4
   obtain ⟨y105,hy105⟩ : ∃ y_ : List Int,y_ = (l1.drop 1):=⟨_,rfl⟩
   replace H : (fix_series.l0 k a0 (rd l1 0) y105 (y105.length : Int) 0) = some r:=by first|(rw [hy105];with_reducible exact H)|(have H2_:=(Option.bind_some _ _).symm.trans H;rw [hy105];with_reducible exact H2_)|(have H2_:=(Option.bind_some _ _).symm.trans H;with_reducible exact H2_)|with_reducible exact H|(rw [hy105];exact H)|exact H
   have Ny105:=ak_ hy105
   clear hy105
   have H':=ak_ H
   clear H
   have p104 : 0 ≤ (0 : Int):=(by omega)
   have q104 : 0 < (l1.length : Int):=of_decide_eq_true (by first|(with_reducible assumption)|assumption)
   obtain ⟨ad104,e104,hx104_0⟩:=Kd.at_int HR1.out 0 p104 q104
   cases e104
   have qi104 : (0 < l1.length) = True:=eq_true (by omega)
   (try rw [show ((0 : Int)).toNat = 0 from rfl] at hx104_0)
   (try rw [Addr.add_zero'] at hx104_0)
   replace p104:=eq_true p104
   replace q104:=eq_true q104
   have q5 : (1 : Int) ≤ ((l1.length : Int) : Int):=of_decide_eq_true (by first|(with_reducible assumption)|assumption)
   obtain ⟨i05,hi05,_,hsz5,_⟩:=info_parts info2
   have hroom5 : l1.length ≤ c1:=HC1.out
   have hC5 : Kd.C (Kd.int .i64) _ (some ad104) l1.length l1:=HR1.out
   have hcut5:=cut_from (P:=Try.prog) 23 2 .i64 Try.underlying23 hi05 1 hsz5 (some ad104) l1.length c1 1 (by omega) q5
   have hr5:=Kd.C_drop (m:=(1 : Int).toNat) (c:=c1) hC5 (by omega) hroom5
   obtain ⟨A5,hA5⟩ : ∃ A_1,A_1 = (if c1 = (1 : Int).toNat then (some ad104) else ((some ad104) : Option Addr).map (·.add ((1 : Int).toNat * 1))):=⟨_,rfl⟩
   obtain ⟨c5,hc5⟩ : ∃ c_1,c_1 = c1 - (1 : Int).toNat:=⟨_,rfl⟩
   have hy5 : y105.length = l1.length - (1 : Int).toNat:=(by rw [Ny105.out,List.length_drop] <;> omega)
   rw [show (l1).drop (1 : Int).toNat = y105 from Ny105.out.symm] at hr5
   replace hr5 : Kd.C (Kd.int .i64) _ A5 y105.length y105:=(by rw [hA5];exact hr5)
   rw [← hy5,← hA5,← hc5] at hcut5
   have HR108:=ak_ hr5
   have HC108:=ak_ (show y105.length ≤ c5 from by rw [hy5,hc5];exact Nat.sub_le_sub_right hroom5 _)
   clear hr5 hC5 hroom5 hi05 hsz5 hc5
   have KY5:=ak_ hy5
   have KA5:=ak_ hA5
   clear hy5 hA5
   replace q5:=eq_true q5
   go_enter Try.func44,Try.ntmps44
   go_wp2
   go_loopg [5,14] k (fun kq v5 v14 w' => ∃ (x5_1 : Int) (x14_1 : Int),v5 = .int .i64 x5_1 ∧ v14 = .int .i64 x14_1 ∧ Aside0 (fix_series.l0 kq a0 x5_1 y105 (y105.length : Int) x14_1 = some r) ∧ Aside0 (kq ≤ k) ∧ Drawn0 w w')
   case atStart => exact ⟨(rd l1 0),(0),(by first|rfl|(simp;done)|(simp [*];done)),(by first|rfl|(simp;done)|(simp [*];done)),H',⟨Nat.le_refl _⟩,by repeat (first|exact Drawn0.refl _|apply Drawn0.step)⟩
   case round =>
    clear H'
    try clear c1
    try clear p1
    try clear q1
    try clear hx1
    try clear qi1
    try clear p2
    try clear c3
    try clear c3b0
    try clear c3b1
    try clear c4
    try clear c4b0
    try clear c4b1
    try clear c5
    try clear q5
    try clear hx104_0
    try clear p104
    try clear q104
    try clear q5
    obtain ⟨x5_1,x14_1,rfl,rfl,HA,HK1,⟨m1,rfl⟩⟩:=hrel
    (try simp only [i64_w,i32_w])
    cases gk with
    | zero => exact absurd HA.out (by simp [fix_series.l0])
    | succ k1 =>
     have H:=HA.out
     clear HA
     simp only [fix_series.l0] at H
     by_cases c6 : x14_1 < (y105.length : Int)
     ·rw [if_pos c6] at H
      have c6b0:=decide_eq_true c6
      clear c6
      by_cases c7 : 0 ≤ x14_1
      ·rw [if_pos c7] at H
       have c7b0:=decide_eq_true c7
       clear c7
       by_cases c8 : x14_1 < (y105.length : Int)
       ·rw [if_pos c8] at H
        have c8b0:=decide_eq_true c8
        clear c8
        replace H:=Option.bind_eq_some_iff.mp H
        obtain ⟨t110,A90,H⟩:=H
        (try dsimp only at H)
        have A9:=ak_ A90
        clear A90
        have H':=ak_ H
        clear H
        have p109 : 0 ≤ (x14_1 : Int):=of_decide_eq_true (by first|(with_reducible assumption)|assumption)
        have q109 : x14_1 < (y105.length : Int):=of_decide_eq_true (by first|(with_reducible assumption)|assumption)
        obtain ⟨ad109,e109,hx109_0⟩:=Kd.at_int HR108.out x14_1 p109 q109
        cases e109
        replace p109:=eq_true p109
        replace q109:=eq_true q109
        go_wp2_with (first|((with_reducible refine gate_callee (f:=27) rfl ?_);refine goesL_ (some 21) rfl rfl Try.func27 (by kernel_rfl) rfl #[.int .i64 a0,.int .i64 x5_1,.int .i64 30] rfl (by (try simp only [List.map_toArray,List.map_cons,List.map_nil]);first|done|rfl|(simp only [List.length_drop,List.length_take];rfl)) ?_;(with_reducible refine (fix_Mul.calls k1 a0 x5_1 30 t110 _ A9.out).mono ?_);rintro e w' ⟨rfl,⟨nd,rfl⟩⟩;refine ⟨_,rfl,?_⟩))
        go_roundg k1
        case measure => have:=HK1.out;omega
        case rel => exact ⟨(wrap64 ((rd y105 x14_1) + t110)),(wrap64 (x14_1 + 1)),(by first|rfl|(simp;done)|(simp [*];done)),(by first|rfl|(simp;done)|(simp [*];done)),H',⟨by have:=HK1.out;omega⟩,by repeat (first|exact Drawn0.refl _|apply Drawn0.step)⟩
       ·rw [if_neg c8] at H
        exact absurd H (by simp)
      ·rw [if_neg c7] at H
       exact absurd H (by simp)
     ·rw [if_neg c6] at H
      have c6b0:=decide_eq_false c6
      clear c6
      obtain rfl:=Option.some.inj H
      go_wp2
      go_ret
      exact ⟨by first|rfl|(simp;done)|(simp [*];done),by repeat (first|exact Drawn0.refl _|apply Drawn0.step)⟩
  ·rw [if_neg c4] at H
   exact absurd H (by simp)
 ·rw [if_neg c3] at H
  exact absurd H (by simp)

end Go.Proofs.Ytlmacbiahofmcaa.P
