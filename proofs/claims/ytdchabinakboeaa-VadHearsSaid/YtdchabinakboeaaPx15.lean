/- The machine side of the laws of one chapter, without conditions: each call of a Go function comes to what the Lean function of its name answers. Written for this claim by a program of the prover. -/
import Derived.Test.YtdchabinakboeaaPx0
import Derived.Test.YtdchabinakboeaaPx12
import Derived.Test.YtdchabinakboeaaPx14
namespace Go.Proofs.Ytdchabinakboeaa.P
open Go.RowKit Go.Proofs.YtdchabinakboeaaW.PrintWords Go.Proofs.YtdchabinakboeaaW.PrintLast Go.Proofs.YtdchabinakboeaaW.PrintMore
attribute [local go_sem] max2_int min2_int max_two min_two max_three min_three max_four min_four   -- for this text's walks alone
set_option linter.unusedVariables false
set_option linter.unusedSimpArgs false

/-! ### madrigalref6_Level: function 18 -/
mutual
def madrigalref6_Level.j0 : Nat → List Int → Option (Int)
 | 0,_ => none
 | k + 1,x0 => if (x0.length : Int) = 0 then (some 0) else (madrigalref6_Level.l0 k x0 0 0)
def madrigalref6_Level.l0 : Nat → List Int → Int → Int → Option (Int)
 | 0,_,_,_ => none
 | k + 1,x0,x3,x4 => if x4 < (x0.length : Int) then (if 0 ≤ x4 then ((madrigalref1_Sat16.f k (rd x0 x4)).bind fun t199 => (madrigalref6_Level.l0 k x0 (wrap64 (x3 + (wrap64 (t199 * t199)))) (wrap64 (x4 + 1)))) else (none)) else (if (x0.length : Int) = 0 then (none) else ((madrigalref1_Log2.f k (wrap64 (1 + (wrap64 (Int.tdiv x3 (x0.length : Int)))))).bind fun t200 => (some t200)))
end
def madrigalref6_Level.f (k : Nat) (l0 : List Int) : Option (Int):=if (l0.length : Int) > 960 then (if 960 ≤ (l0.length : Int) then (madrigalref6_Level.j0 k (l0.take 960)) else (none)) else (madrigalref6_Level.j0 k l0)
theorem madrigalref6_Level.mono_l : ∀ k,(∀ y0,LeO (madrigalref6_Level.j0 k y0) (madrigalref6_Level.j0 (k + 1) y0)) ∧ (∀ y0 y1 y2,LeO (madrigalref6_Level.l0 k y0 y1 y2) (madrigalref6_Level.l0 (k + 1) y0 y1 y2))
 | 0 => ⟨fun _ r h => by simp [madrigalref6_Level.j0] at h,fun _ _ _ r h => by simp [madrigalref6_Level.l0] at h⟩
 | k + 1 => by
  obtain ⟨ih0,ih1⟩:=madrigalref6_Level.mono_l k
  refine ⟨?_,?_⟩
  all_goals (intros;first|unfold madrigalref6_Level.j0|unfold madrigalref6_Level.l0)
  all_goals (repeat' first|(with_reducible first|exact ih0 _|exact ih1 _ _ _|exact madrigalref1_Log2.mono _ _|exact madrigalref1_Sat16.mono _ _|exact LeO.refl _|exact LeO.none _|refine LeO.ite ?_ ?_|refine LeO.bind ?_ (fun _ => ?_))|exact ih0 _|exact ih1 _ _ _|exact madrigalref1_Log2.mono _ _|exact madrigalref1_Sat16.mono _ _|exact LeO.none _|refine LeO.ite ?_ ?_|refine LeO.bind ?_ (fun _ => ?_))
theorem madrigalref6_Level.mono : ∀ a0 k,LeO (madrigalref6_Level.f k a0) (madrigalref6_Level.f (k + 1) a0):=by
 intro a0 k
 obtain ⟨ih0,ih1⟩:=madrigalref6_Level.mono_l k
 unfold madrigalref6_Level.f
 repeat' first|(with_reducible first|exact ih0 _|exact ih1 _ _ _|exact madrigalref1_Log2.mono _ _|exact madrigalref1_Sat16.mono _ _|exact LeO.refl _|exact LeO.none _|refine LeO.ite ?_ ?_|refine LeO.bind ?_ (fun _ => ?_))|exact ih0 _|exact ih1 _ _ _|exact madrigalref1_Log2.mono _ _|exact madrigalref1_Sat16.mono _ _|exact LeO.none _|refine LeO.ite ?_ ?_|refine LeO.bind ?_ (fun _ => ?_)
set_option maxHeartbeats 8000000 in
set_option maxRecDepth 100000 in
theorem madrigalref6_Level.calls (k : Nat) (P0_ : Nat → Prop) (A0 : Option Addr) (c0 : Nat) (l0 : List Int) (r : Int) (w : World) (hs0 : Kd.V (Kd.int .i64) 2 w w.heap.size (fun k_ => P0_ k_) (.slice A0 l0.length c0) l0) (h : madrigalref6_Level.f k l0 = some r) :
  Calls Try.prog 18 #[.slice A0 l0.length c0] w fun e w' => e = .returned (.int .i64 r) ∧ Below w.heap.size w w':=by
 have HO0:=ak_ (show Kd.V (Kd.int .i64) 2 w w.heap.size (fun k_ => (P0_ k_ ∨ w.heap.size ≤ k_)) (.slice A0 l0.length c0) l0 from Kd.V_mono hs0 (fun k_ hk => .inl hk))
 have HB:=ak_ (Below.refl w.heap.size w)
 have H : (if (l0.length : Int) > 960 then (if 960 ≤ (l0.length : Int) then (madrigalref6_Level.j0 k (l0.take 960)) else (none)) else (madrigalref6_Level.j0 k l0)) = some r:=h
 clear h
 have HC2:=ak_ H
 clear H
 go_enter Try.func18,Try.ntmps18
 go_upto_if 8 with (fail)
 go_cut [0] (fun v0 wc => ∃ (kq : Nat) (x0_1 : List Int),Aside0 (madrigalref6_Level.j0 kq x0_1 = some r) ∧ Aside0 (kq ≤ k) ∧ Aside0 (Kd.V (Kd.int .i64) 2 wc w.heap.size (fun k_ => (P0_ k_ ∨ w.heap.size ≤ k_)) v0 x0_1) ∧ Aside0 (Below w.heap.size w wc))
 case first =>
  have H:=HC2.out
  clear HC2
  by_cases c3 : (l0.length : Int) > 960
  ·rw [if_pos c3] at H
   have c3b0 : decide (960 < (l0.length : Int)) = true:=decide_eq_true c3
   have c3b1 : decide (960 < l0.length) = true:=decide_eq_true (by omega)
   clear c3
   (first|rw [c3b0]|(simp only [i64_w,i32_w];rw [c3b0])|skip)
   by_cases c4 : 960 ≤ (l0.length : Int)
   ·rw [if_pos c4] at H
    have c4b0:=eq_true c4
    have c4b1 : decide (960 ≤ (l0.length : Int)) = true:=decide_eq_true c4
    clear c4
    obtain ⟨y193,hy193⟩ : ∃ y_ : List Int,y_ = (l0.take 960):=⟨_,rfl⟩
    replace H : (madrigalref6_Level.j0 k y193) = some r:=by first|(rw [hy193];with_reducible exact H)|(have H2_:=(Option.bind_some _ _).symm.trans H;rw [hy193];with_reducible exact H2_)|(have H2_:=(Option.bind_some _ _).symm.trans H;with_reducible exact H2_)|with_reducible exact H|(rw [hy193];exact H)|exact H
    have Ny193:=ak_ hy193
    clear hy193
    have H':=ak_ H
    clear H
    have q5 : (960 : Int) ≤ ((l0.length : Int) : Int):=of_decide_eq_true (by first|(with_reducible assumption)|assumption)
    obtain ⟨i05,hi05,_,hsz5,_⟩:=info_parts info2
    have hroom5 : l0.length ≤ c0:=(Kd.V_reads' HO0.out).2.1
    have hC5 : Kd.F (Kd.int .i64) _ _ A0 l0.length l0:=(Kd.V_at (base:=w.heap.size) HO0.out).2.2
    have hcut5:=cut_to (P:=Try.prog) 28 2 .i64 Try.underlying28 hi05 A0 l0.length c0 960 (by omega) q5 hroom5
    have hr5:=Kd.F_take (m:=960) hC5 (by omega)
    have hy5 : y193.length = (960 : Int).toNat:=(by rw [Ny193.out,List.length_take];omega)
    rw [← Ny193.out] at hr5
    rw [← hy5] at hcut5
    have HO197:=ak_ (show Kd.V (Kd.int .i64) 2 _ w.heap.size _ (.slice A0 y193.length c0) y193 from Kd.V_mk (by omega) hr5)
    have HC197:=ak_ (show y193.length ≤ c0 from by omega)
    clear hr5 hC5 hroom5 hi05 hsz5
    have KY5:=ak_ hy5
    clear hy5
    replace q5:=eq_true q5
    go_wp2
    go_meet
    case rel => exact ⟨_,(y193),H',⟨by first|omega|exact Nat.le_refl _⟩,⟨by (with_reducible repeat (first|apply Kd.V_alloc|apply Kd.V_drewN|apply Kd.V_drew));exact HO197.out⟩,⟨by repeat (first|(with_reducible first|exact HB.out|apply ba_|apply bb_|apply bc_)|exact HB.out)⟩⟩
   ·rw [if_neg c4] at H
    exact absurd H (by simp)
  ·rw [if_neg c3] at H
   have c3b0 : decide (960 < (l0.length : Int)) = false:=decide_eq_false c3
   have c3b1 : decide (960 < l0.length) = false:=decide_eq_false (by omega)
   clear c3
   (first|rw [c3b0]|(simp only [i64_w,i32_w];rw [c3b0])|skip)
   have H':=ak_ H
   clear H
   go_wp2
   refine Met.intro ?_
   go_step
   (repeat apply Exists.intro)
   first|refine ⟨?rel83,rfl⟩|(refine ⟨?rel83,?st83⟩;case' st83 => (first|rw [c3b0]|simp only [c3b0]))
   case rel83 => exact ⟨_,(l0),H',⟨by first|omega|exact Nat.le_refl _⟩,⟨by (with_reducible repeat (first|apply Kd.V_alloc|apply Kd.V_drewN|apply Kd.V_drew));exact HO0.out⟩,⟨by repeat (first|(with_reducible first|exact HB.out|apply ba_|apply bb_|apply bc_)|exact HB.out)⟩⟩
 case rest =>
  clear HC2
  try clear c1
  try clear p2
  try clear c3
  try clear c3b0
  try clear c3b1
  try clear c4
  try clear c4b0
  try clear c4b1
  try clear q5
  try clear q5
  obtain ⟨kq,x0_1,HA,HJ1,HO_0,HB⟩:=hcut
  (try simp only [i64_w,i32_w])
  cases kq with
  | zero => exact absurd HA.out (by simp [madrigalref6_Level.j0])
  | succ kj1 =>
   have H:=HA.out
   clear HA
   simp only [madrigalref6_Level.j0] at H
   by_cases c6 : (x0_1.length : Int) = 0
   ·rw [if_pos c6] at H
    have c6b0 : ((x0_1.length : Int) == 0) = true:=beq_iff_eq.mpr c6
    have c6b1 : ((x0_1.length : Int) != 0) = false:=bne_eq_false_iff_eq.mpr c6
    clear c6
    obtain rfl:=Option.some.inj H
    obtain ⟨Ao7,co7,eo7⟩:=Kd.V_slice HO_0.out
    subst eo7
    go_wp2
    go_ret
    exact ⟨by first|rfl|(simp [errW_none,errW_some] <;> rfl)|(simp [*,errW_none,errW_some] <;> rfl),by repeat (first|(with_reducible first|exact HB.out|apply ba_|apply bb_|apply bc_)|exact HB.out)⟩
   ·rw [if_neg c6] at H
    have c6b0 : ((x0_1.length : Int) == 0) = false:=beq_eq_false_iff_ne.mpr c6
    have c6b1 : ((x0_1.length : Int) != 0) = true:=bne_iff_ne.mpr c6
    have c6b2 : ¬ (x0_1 = []):=fun h_ => c6 (by rw [h_];rfl)
    have H':=ak_ H
    clear H
    obtain ⟨Ao8,co8,eo8⟩:=Kd.V_slice HO_0.out
    subst eo8
    go_wp2
    go_loopg [3,4] kj1 (fun kq v3 v4 w' => ∃ (x3_2 : Int) (x4_2 : Int),v3 = .int .i64 x3_2 ∧ v4 = .int .i64 x4_2 ∧ Aside0 (madrigalref6_Level.l0 kq x0_1 x3_2 x4_2 = some r) ∧ Aside0 (kq ≤ kj1) ∧ Aside0 (Kd.V (Kd.int .i64) 2 w' w.heap.size (fun k_ => (P0_ k_ ∨ w.heap.size ≤ k_)) (.slice Ao8 x0_1.length co8) x0_1) ∧ Aside0 (Below w.heap.size w w'))
    case atStart => exact ⟨(0),(0),(by first|rfl|(simp;done)|(simp [*];done)),(by first|rfl|(simp;done)|(simp [*];done)),H',⟨Nat.le_refl _⟩,⟨by (with_reducible repeat (first|apply Kd.V_alloc|apply Kd.V_drewN|apply Kd.V_drew));exact HO_0.out⟩,⟨by repeat (first|(with_reducible first|exact HB.out|apply ba_|apply bb_|apply bc_)|exact HB.out)⟩⟩
    case round =>
     clear H'
     try clear c1
     try clear p2
     try clear c3
     try clear c3b0
     try clear c3b1
     try clear c4
     try clear c4b0
     try clear c4b1
     try clear q5
     try clear c6
     try clear c6b0
     try clear c6b1
     try clear c6b2
     try clear p2
     try clear q5
     obtain ⟨x3_2,x4_2,rfl,rfl,HA,HK2,HO_0,HB⟩:=hrel
     (try simp only [i64_w,i32_w])
     cases gk with
     | zero => exact absurd HA.out (by simp [madrigalref6_Level.l0])
     | succ k2 =>
      have H:=HA.out
      clear HA
      simp only [madrigalref6_Level.l0] at H
      by_cases c9 : x4_2 < (x0_1.length : Int)
      ·rw [if_pos c9] at H
       have c9b0:=decide_eq_true c9
       clear c9
       by_cases c10 : 0 ≤ x4_2
       ·rw [if_pos c10] at H
        have c10b0:=decide_eq_true c10
        clear c10
        replace H:=Option.bind_eq_some_iff.mp H
        obtain ⟨t199,A110,H⟩:=H
        (try dsimp only at H)
        have A11:=ak_ A110
        clear A110
        have H':=ak_ H
        clear H
        have p198 : 0 ≤ (x4_2 : Int):=of_decide_eq_true (by first|(with_reducible assumption)|assumption)
        have q198 : x4_2 < (x0_1.length : Int):=of_decide_eq_true (by first|(with_reducible assumption)|assumption)
        obtain ⟨ad198,e198,hx198_0⟩:=Kd.at_int (Kd.V_reads' HO_0.out).2.2 x4_2 p198 q198
        cases e198
        replace p198:=eq_true p198
        replace q198:=eq_true q198
        go_wp2_with (first|((with_reducible refine gate_callee (f:=39) rfl ?_);refine goesL_ (some 24) rfl rfl Try.func39 (by kernel_rfl) rfl #[.int .i64 (rd x0_1 x4_2)] rfl (by (try simp only [List.map_toArray,List.map_cons,List.map_nil]);first|done|rfl|(simp only [List.length_drop,List.length_take];rfl)) ?_;(with_reducible refine (madrigalref1_Sat16.calls k2 (rd x0_1 x4_2) t199 _ A11.out).mono ?_);rintro e w' ⟨rfl,⟨nd,rfl⟩⟩;refine ⟨_,rfl,?_⟩))
        go_roundg k2
        case measure => have:=HJ1.out;have:=HK2.out;omega
        case rel => exact ⟨(wrap64 (x3_2 + (wrap64 (t199 * t199)))),(wrap64 (x4_2 + 1)),(by first|rfl|(simp;done)|(simp [*];done)),(by first|rfl|(simp;done)|(simp [*];done)),H',⟨by have:=HJ1.out;have:=HK2.out;omega⟩,⟨by (with_reducible repeat (first|apply Kd.V_alloc|apply Kd.V_drewN|apply Kd.V_drew));exact HO_0.out⟩,⟨by repeat (first|(with_reducible first|exact HB.out|apply ba_|apply bb_|apply bc_)|exact HB.out)⟩⟩
       ·rw [if_neg c10] at H
        exact absurd H (by simp)
      ·rw [if_neg c9] at H
       have c9b0:=decide_eq_false c9
       clear c9
       by_cases c12 : (x0_1.length : Int) = 0
       ·rw [if_pos c12] at H
        exact absurd H (by simp)
       ·rw [if_neg c12] at H
        have c12b0 : ((x0_1.length : Int) == 0) = false:=beq_eq_false_iff_ne.mpr c12
        have c12b1 : ((x0_1.length : Int) != 0) = true:=bne_iff_ne.mpr c12
        have c12b2 : ¬ (x0_1 = []):=fun h_ => c12 (by rw [h_];rfl)
        replace H:=Option.bind_eq_some_iff.mp H
        obtain ⟨t200,A130,H⟩:=H
        (try dsimp only at H)
        have A13:=ak_ A130
        clear A130
        obtain rfl:=Option.some.inj H
        go_wp2_with (first|((with_reducible refine gate_callee (f:=40) rfl ?_);refine goesL_ (some 35) rfl rfl Try.func40 (by kernel_rfl) rfl #[.int .i64 (wrap64 (1 + (wrap64 (Int.tdiv x3_2 (x0_1.length : Int)))))] rfl (by (try simp only [List.map_toArray,List.map_cons,List.map_nil]);first|done|rfl|(simp only [List.length_drop,List.length_take];rfl)) ?_;(with_reducible refine (madrigalref1_Log2.calls k2 (wrap64 (1 + (wrap64 (Int.tdiv x3_2 (x0_1.length : Int))))) t200 _ A13.out).mono ?_);rintro e w' ⟨rfl,⟨nd,rfl⟩⟩;refine ⟨_,rfl,?_⟩))
        go_ret
        exact ⟨by first|rfl|(simp [errW_none,errW_some] <;> rfl)|(simp [*,errW_none,errW_some] <;> rfl),by repeat (first|(with_reducible first|exact HB.out|apply ba_|apply bb_|apply bc_)|exact HB.out)⟩

end Go.Proofs.Ytdchabinakboeaa.P
