/- The machine side of the laws of one chapter, without conditions: each call of a Go function comes to what the Lean function of its name answers. Written for this claim by a program of the prover. -/
import Derived.Test.YtdchabinakboeaaPx0
import Derived.Test.YtdchabinakboeaaPx1
import Derived.Test.YtdchabinakboeaaPx4
namespace Go.Proofs.Ytdchabinakboeaa.P
open Go.RowKit Go.Proofs.YtdchabinakboeaaW.PrintWords Go.Proofs.YtdchabinakboeaaW.PrintLast Go.Proofs.YtdchabinakboeaaW.PrintMore
attribute [local go_sem] max2_int min2_int max_two min_two max_three min_three max_four min_four   -- for this text's walks alone
set_option linter.unusedVariables false
set_option linter.unusedSimpArgs false

/-! ### vad_Level: function 15 -/
def vad_Level.l0 : Nat → List Int → Int → List Int → Int → Int → Option (Int)
 | 0,_,_,_,_,_ => none
 | k + 1,x0,x3,x14,x15,x16 => if x16 < x15 then (if 0 ≤ x16 then (if x16 < (x14.length : Int) then ((fix_Sat16.f k (rd x14 x16)).bind fun t109 => (vad_Level.l0 k x0 (wrap64 (x3 + (wrap64 (t109 * t109)))) x14 x15 (wrap64 (x16 + 1)))) else (none)) else (none)) else (if (x0.length : Int) = 0 then (none) else ((fix_Log2.f k (wrap64 (1 + (wrap64 (Int.tdiv x3 (x0.length : Int)))))).bind fun t110 => (some t110)))
def vad_Level.f (k : Nat) (l0 : List Int) : Option (Int):=if 0 ≤ (mn (l0.length : Int) 960) then (if (mn (l0.length : Int) 960) ≤ (l0.length : Int) then ((some (l0.take ((mn (l0.length : Int) 960) : Int).toNat : List Int)).bind fun y104 => (if (y104.length : Int) = 0 then (some 0) else (vad_Level.l0 k y104 0 y104 (y104.length : Int) 0))) else (none)) else (none)
theorem vad_Level.mono_l : ∀ k,(∀ y0 y1 y2 y3 y4,LeO (vad_Level.l0 k y0 y1 y2 y3 y4) (vad_Level.l0 (k + 1) y0 y1 y2 y3 y4))
 | 0 => fun _ _ _ _ _ r h => by simp [vad_Level.l0] at h
 | k + 1 => by
  have ih0:=vad_Level.mono_l k
  all_goals (intros;first|unfold vad_Level.l0)
  all_goals (repeat' first|(with_reducible first|exact ih0 _ _ _ _ _|exact fix_Log2.mono _ _|exact fix_Sat16.mono _ _|exact LeO.refl _|exact LeO.none _|refine LeO.ite ?_ ?_|refine LeO.bind ?_ (fun _ => ?_))|exact ih0 _ _ _ _ _|exact fix_Log2.mono _ _|exact fix_Sat16.mono _ _|exact LeO.none _|refine LeO.ite ?_ ?_|refine LeO.bind ?_ (fun _ => ?_))
theorem vad_Level.mono : ∀ a0 k,LeO (vad_Level.f k a0) (vad_Level.f (k + 1) a0):=by
 intro a0 k
 have ih0:=vad_Level.mono_l k
 unfold vad_Level.f
 repeat' first|(with_reducible first|exact ih0 _ _ _ _ _|exact fix_Log2.mono _ _|exact fix_Sat16.mono _ _|exact LeO.refl _|exact LeO.none _|refine LeO.ite ?_ ?_|refine LeO.bind ?_ (fun _ => ?_))|exact ih0 _ _ _ _ _|exact fix_Log2.mono _ _|exact fix_Sat16.mono _ _|exact LeO.none _|refine LeO.ite ?_ ?_|refine LeO.bind ?_ (fun _ => ?_)
set_option maxHeartbeats 8000000 in
set_option maxRecDepth 100000 in
theorem vad_Level.calls (k : Nat) (A0 : Option Addr) (c0 : Nat) (l0 : List Int) (r : Int) (w : World) (hr0 : Kd.C (Kd.int .i64) w A0 l0.length l0) (hc0 : l0.length ≤ c0) (h : vad_Level.f k l0 = some r) :
  Calls Try.prog 15 #[.slice A0 l0.length c0] w fun e w' => e = .returned (.int .i64 r) ∧ Below w.heap.size w w':=by
 have HR0:=ak_ hr0
 have HC0:=ak_ hc0
 clear hr0 hc0
 have HB:=ak_ (Below.refl w.heap.size w)
 have H : (if 0 ≤ (mn (l0.length : Int) 960) then (if (mn (l0.length : Int) 960) ≤ (l0.length : Int) then ((some (l0.take ((mn (l0.length : Int) 960) : Int).toNat : List Int)).bind fun y104 => (if (y104.length : Int) = 0 then (some 0) else (vad_Level.l0 k y104 0 y104 (y104.length : Int) 0))) else (none)) else (none)) = some r:=h
 clear h
 obtain ⟨ji2,hji2⟩ : ∃ j_ : Int,(mn (l0.length : Int) 960) = j_:=⟨_,rfl⟩
 replace H : (if 0 ≤ (ji2) then (if (ji2) ≤ (l0.length : Int) then ((some (l0.take ((ji2) : Int).toNat : List Int)).bind fun y104 => (if (y104.length : Int) = 0 then (some 0) else (vad_Level.l0 k y104 0 y104 (y104.length : Int) 0))) else (none)) else (none)) = some r:=by first|(rw [hji2] at H;exact H)|(simp only [hji2] at H ⊢;exact H)
 (try (have hji2h : ji2 ≤ 960:=by (rw [← hji2];unfold mn;(repeat' split) <;> omega)))
 (try (have hji2g : ji2 ≤ 64:=by omega))
 (try (have hji2l : 0 ≤ ji2:=by (rw [← hji2];unfold mn;(repeat' split) <;> omega)))
 (try (have hji2m : 0 ≤ ji2:=by omega))
 have hji2_ : (if 960 < (l0.length : Int) then 960 else (l0.length : Int)) = ji2:=hji2
 by_cases c3 : 0 ≤ (ji2)
 ·rw [if_pos c3] at H
  have c3b0:=eq_true c3
  have c3b1 : decide (0 ≤ (ji2)) = true:=decide_eq_true c3
  clear c3
  by_cases c4 : (ji2) ≤ (l0.length : Int)
  ·rw [if_pos c4] at H
   have c4b0:=eq_true c4
   have c4b1 : decide ((ji2) ≤ (l0.length : Int)) = true:=decide_eq_true c4
   clear c4
   obtain ⟨y104,hy104⟩ : ∃ y_ : List Int,y_ = (l0.take ((ji2) : Int).toNat):=⟨_,rfl⟩
   replace H : (if (y104.length : Int) = 0 then (some 0) else (vad_Level.l0 k y104 0 y104 (y104.length : Int) 0)) = some r:=by first|(rw [hy104];with_reducible exact H)|(have H2_:=(Option.bind_some _ _).symm.trans H;rw [hy104];with_reducible exact H2_)|(have H2_:=(Option.bind_some _ _).symm.trans H;with_reducible exact H2_)|with_reducible exact H|(rw [hy104];exact H)|exact H
   have Ny104:=ak_ hy104
   clear hy104
   by_cases c5 : (y104.length : Int) = 0
   ·rw [if_pos c5] at H
    have c5b0 : ((y104.length : Int) == 0) = true:=beq_iff_eq.mpr c5
    have c5b1 : ((y104.length : Int) != 0) = false:=bne_eq_false_iff_eq.mpr c5
    clear c5
    obtain rfl:=Option.some.inj H
    have q6 : ((ji2) : Int) ≤ ((l0.length : Int) : Int):=of_decide_eq_true (by first|(with_reducible assumption)|assumption)
    obtain ⟨i06,hi06,_,hsz6,_⟩:=info_parts info2
    have hroom6 : l0.length ≤ c0:=HC0.out
    have hC6 : Kd.C (Kd.int .i64) _ A0 l0.length l0:=HR0.out
    have hcut6:=cut_to (P:=Try.prog) 28 2 .i64 Try.underlying28 hi06 A0 l0.length c0 (ji2) (of_decide_eq_true (by first|(with_reducible assumption)|assumption)) q6 hroom6
    have hr6:=Kd.C_take (m:=((ji2) : Int).toNat) hC6 (by omega)
    have hy6 : y104.length = ((ji2) : Int).toNat:=(by rw [Ny104.out,List.length_take];omega)
    rw [← Ny104.out] at hr6
    rw [← hy6] at hcut6
    have HR107:=ak_ hr6
    have HC107:=ak_ (show y104.length ≤ c0 from by omega)
    clear hr6 hC6 hroom6 hi06 hsz6
    have KY6:=ak_ hy6
    clear hy6
    replace q6:=eq_true q6
    go_enter Try.func15,Try.ntmps15
    go_wp2
    go_ret
    exact ⟨by first|rfl|(simp [errW_none,errW_some] <;> rfl)|(simp only [← hji2];first|rfl|(simp [errW_none,errW_some] <;> rfl))|(simp [*,errW_none,errW_some] <;> rfl),by repeat (first|(with_reducible first|exact HB.out|apply ba_|apply bb_|apply bc_)|exact HB.out)⟩
   ·rw [if_neg c5] at H
    have c5b0 : ((y104.length : Int) == 0) = false:=beq_eq_false_iff_ne.mpr c5
    have c5b1 : ((y104.length : Int) != 0) = true:=bne_iff_ne.mpr c5
    have c5b2 : ¬ (y104 = []):=fun h_ => c5 (by rw [h_];rfl)
    have H':=ak_ H
    clear H
    have q7 : ((ji2) : Int) ≤ ((l0.length : Int) : Int):=of_decide_eq_true (by first|(with_reducible assumption)|assumption)
    obtain ⟨i07,hi07,_,hsz7,_⟩:=info_parts info2
    have hroom7 : l0.length ≤ c0:=HC0.out
    have hC7 : Kd.C (Kd.int .i64) _ A0 l0.length l0:=HR0.out
    have hcut7:=cut_to (P:=Try.prog) 28 2 .i64 Try.underlying28 hi07 A0 l0.length c0 (ji2) (of_decide_eq_true (by first|(with_reducible assumption)|assumption)) q7 hroom7
    have hr7:=Kd.C_take (m:=((ji2) : Int).toNat) hC7 (by omega)
    have hy7 : y104.length = ((ji2) : Int).toNat:=(by rw [Ny104.out,List.length_take];omega)
    rw [← Ny104.out] at hr7
    rw [← hy7] at hcut7
    have HR107:=ak_ hr7
    have HC107:=ak_ (show y104.length ≤ c0 from by omega)
    clear hr7 hC7 hroom7 hi07 hsz7
    have KY7:=ak_ hy7
    clear hy7
    replace q7:=eq_true q7
    go_enter Try.func15,Try.ntmps15
    go_wp2
    go_loopg [3,16] k (fun kq v3 v16 w' => ∃ (x3_1 : Int) (x16_1 : Int),v3 = .int .i64 x3_1 ∧ v16 = .int .i64 x16_1 ∧ Aside0 (vad_Level.l0 kq y104 x3_1 y104 (y104.length : Int) x16_1 = some r) ∧ Aside0 (kq ≤ k) ∧ Aside0 (Below w.heap.size w w'))
    case atStart => exact ⟨(0),(0),(by first|rfl|(simp;done)|(simp [*];done)),(by first|rfl|(simp;done)|(simp [*];done)),H',⟨Nat.le_refl _⟩,⟨by repeat (first|(with_reducible first|exact HB.out|apply ba_|apply bb_|apply bc_)|exact HB.out)⟩⟩
    case round =>
     clear H'
     try clear c1
     try clear p2
     try clear c3
     try clear c3b0
     try clear c3b1
     try clear c4
     try clear c4b0
     try clear c4b1
     try clear c5
     try clear c5b0
     try clear c5b1
     try clear c5b2
     try clear q6
     try clear q7
     try clear q6
     try clear q7
     obtain ⟨x3_1,x16_1,rfl,rfl,HA,HK1,HB⟩:=hrel
     (try simp only [i64_w,i32_w])
     cases gk with
     | zero => exact absurd HA.out (by simp [vad_Level.l0])
     | succ k1 =>
      have H:=HA.out
      clear HA
      simp only [vad_Level.l0] at H
      by_cases c8 : x16_1 < (y104.length : Int)
      ·rw [if_pos c8] at H
       have c8b0:=decide_eq_true c8
       clear c8
       by_cases c9 : 0 ≤ x16_1
       ·rw [if_pos c9] at H
        have c9b0:=decide_eq_true c9
        clear c9
        by_cases c10 : x16_1 < (y104.length : Int)
        ·rw [if_pos c10] at H
         have c10b0:=decide_eq_true c10
         clear c10
         replace H:=Option.bind_eq_some_iff.mp H
         obtain ⟨t109,A110,H⟩:=H
         (try dsimp only at H)
         have A11:=ak_ A110
         clear A110
         have H':=ak_ H
         clear H
         have p108 : 0 ≤ (x16_1 : Int):=of_decide_eq_true (by first|(with_reducible assumption)|assumption)
         have q108 : x16_1 < (y104.length : Int):=of_decide_eq_true (by first|(with_reducible assumption)|assumption)
         obtain ⟨ad108,e108,hx108_0⟩:=Kd.at_int HR107.out x16_1 p108 q108
         cases e108
         replace hx108_0:=(HB.out.cell (World.block_lt_of_cell? w _ hx108_0)).trans hx108_0
         replace p108:=eq_true p108
         replace q108:=eq_true q108
         go_wp2_with (first|((with_reducible refine gate_callee (f:=36) rfl ?_);refine goesL_ (some 21) rfl rfl Try.func36 (by kernel_rfl) rfl #[.int .i64 (rd y104 x16_1)] rfl (by (try simp only [List.map_toArray,List.map_cons,List.map_nil]);first|done|rfl|(simp only [List.length_drop,List.length_take];rfl)) ?_;(with_reducible refine (fix_Sat16.calls k1 (rd y104 x16_1) t109 _ A11.out).mono ?_);rintro e w' ⟨rfl,⟨nd,rfl⟩⟩;refine ⟨_,rfl,?_⟩))
         go_roundg k1
         case measure => have:=HK1.out;omega
         case rel => exact ⟨(wrap64 (x3_1 + (wrap64 (t109 * t109)))),(wrap64 (x16_1 + 1)),(by first|rfl|(simp;done)|(simp [*];done)),(by first|rfl|(simp;done)|(simp [*];done)),H',⟨by have:=HK1.out;omega⟩,⟨by repeat (first|(with_reducible first|exact HB.out|apply ba_|apply bb_|apply bc_)|exact HB.out)⟩⟩
        ·rw [if_neg c10] at H
         exact absurd H (by simp)
       ·rw [if_neg c9] at H
        exact absurd H (by simp)
      ·rw [if_neg c8] at H
       have c8b0:=decide_eq_false c8
       clear c8
       by_cases c12 : (y104.length : Int) = 0
       ·rw [if_pos c12] at H
        exact absurd H (by simp)
       ·rw [if_neg c12] at H
        have c12b0 : ((y104.length : Int) == 0) = false:=beq_eq_false_iff_ne.mpr c12
        have c12b1 : ((y104.length : Int) != 0) = true:=bne_iff_ne.mpr c12
        have c12b2 : ¬ (y104 = []):=fun h_ => c12 (by rw [h_];rfl)
        replace H:=Option.bind_eq_some_iff.mp H
        obtain ⟨t110,A130,H⟩:=H
        (try dsimp only at H)
        have A13:=ak_ A130
        clear A130
        obtain rfl:=Option.some.inj H
        go_wp2_with (first|((with_reducible refine gate_callee (f:=37) rfl ?_);refine goesL_ (some 33) rfl rfl Try.func37 (by kernel_rfl) rfl #[.int .i64 (wrap64 (1 + (wrap64 (Int.tdiv x3_1 (y104.length : Int)))))] rfl (by (try simp only [List.map_toArray,List.map_cons,List.map_nil]);first|done|rfl|(simp only [List.length_drop,List.length_take];rfl)) ?_;(with_reducible refine (fix_Log2.calls k1 (wrap64 (1 + (wrap64 (Int.tdiv x3_1 (y104.length : Int))))) t110 _ A13.out).mono ?_);rintro e w' ⟨rfl,⟨nd,rfl⟩⟩;refine ⟨_,rfl,?_⟩))
        go_ret
        exact ⟨by first|rfl|(simp [errW_none,errW_some] <;> rfl)|(simp only [← hji2];first|rfl|(simp [errW_none,errW_some] <;> rfl))|(simp [*,errW_none,errW_some] <;> rfl),by repeat (first|(with_reducible first|exact HB.out|apply ba_|apply bb_|apply bc_)|exact HB.out)⟩
  ·rw [if_neg c4] at H
   exact absurd H (by simp)
 ·rw [if_neg c3] at H
  exact absurd H (by simp)

end Go.Proofs.Ytdchabinakboeaa.P
