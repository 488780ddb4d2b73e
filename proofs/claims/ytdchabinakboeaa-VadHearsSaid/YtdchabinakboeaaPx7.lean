/- The machine side of the laws of one chapter, without conditions: each call of a Go function comes to what the Lean function of its name answers. Written for this claim by a program of the prover. -/
import Derived.Test.YtdchabinakboeaaPx0
import Derived.Test.YtdchabinakboeaaPx5
import Derived.Test.YtdchabinakboeaaPx6
namespace Go.Proofs.Ytdchabinakboeaa.P
open Go.RowKit Go.Proofs.YtdchabinakboeaaW.PrintWords Go.Proofs.YtdchabinakboeaaW.PrintLast Go.Proofs.YtdchabinakboeaaW.PrintMore
attribute [local go_sem] max2_int min2_int max_two min_two max_three min_three max_four min_four   -- for this text's walks alone
set_option linter.unusedVariables false
set_option linter.unusedSimpArgs false

/-! ### vad_Meter_Step: function 20 -/
def vad_Meter_Step.j0 : Nat → Int → Int → Int → Option (Bool × Int × Int)
 | 0,_,_,_ => none
 | k + 1,x5,x1000,x1001 => if x5 > (wrap64 (x1000 + 512)) then (some (true,x1000,4)) else (if x1001 > 0 then (some (true,x1000,wrap64 (x1001 - 1))) else (some (false,x1000,x1001)))
def vad_Meter_Step.f (k : Nat) (s0_0 : Int) (s0_1 : Int) (l1 : List Int) : Option (Bool × Int × Int):=(vad_Level.f k l1).bind fun t112 => (if s0_0 = (-1) then (vad_Meter_Step.j0 k t112 t112 s0_1) else (vad_Meter_Step.j0 k t112 (mn t112 (wrap64 (s0_0 + 8))) s0_1))
theorem vad_Meter_Step.mono_l : ∀ k,(∀ y0 y1 y2,LeO (vad_Meter_Step.j0 k y0 y1 y2) (vad_Meter_Step.j0 (k + 1) y0 y1 y2))
 | 0 => fun _ _ _ r h => by simp [vad_Meter_Step.j0] at h
 | k + 1 => by
  have ih0:=vad_Meter_Step.mono_l k
  all_goals (intros;first|unfold vad_Meter_Step.j0)
  all_goals (repeat' first|(with_reducible first|exact ih0 _ _ _|exact vad_Level.mono _ _|exact LeO.refl _|exact LeO.none _|refine LeO.ite ?_ ?_|refine LeO.bind ?_ (fun _ => ?_))|exact ih0 _ _ _|exact vad_Level.mono _ _|exact LeO.none _|refine LeO.ite ?_ ?_|refine LeO.bind ?_ (fun _ => ?_))
theorem vad_Meter_Step.mono : ∀ a0 a1 a2 k,LeO (vad_Meter_Step.f k a0 a1 a2) (vad_Meter_Step.f (k + 1) a0 a1 a2):=by
 intro a0 a1 a2 k
 have ih0:=vad_Meter_Step.mono_l k
 unfold vad_Meter_Step.f
 repeat' first|(with_reducible first|exact ih0 _ _ _|exact vad_Level.mono _ _|exact LeO.refl _|exact LeO.none _|refine LeO.ite ?_ ?_|refine LeO.bind ?_ (fun _ => ?_))|exact ih0 _ _ _|exact vad_Level.mono _ _|exact LeO.none _|refine LeO.ite ?_ ?_|refine LeO.bind ?_ (fun _ => ?_)
set_option maxHeartbeats 8000000 in
set_option maxRecDepth 100000 in
theorem vad_Meter_Step.calls (k : Nat) (g : Nat) (s0_0 : Int) (s0_1 : Int) (A1 : Option Addr) (c1 : Nat) (l1 : List Int) (r1 : Bool) (r2 : Int) (r3 : Int) (w0 w : World) (hI : IsS62 w0 w g s0_0 s0_1) (hB : Below w0.heap.size w0 w) (hr1 : Kd.C (Kd.int .i64) w A1 l1.length l1) (hc1 : l1.length ≤ c1) (hf1 : ∀ ad,A1 = some ad → 0 < l1.length → ad.block ≠ g) (h : vad_Meter_Step.f k s0_0 s0_1 l1 = some (r1,r2,r3)) :
  Calls Try.prog 20 #[.pointer (some ⟨g,0,none⟩),.slice A1 l1.length c1] w fun e w' => e = .returned (.bool r1) ∧ IsS62 w0 w' g r2 r3 ∧ Below w0.heap.size w0 w' ∧ KeepBut w w' g none:=by
 have HR1:=ak_ hr1
 have HC1:=ak_ hc1
 clear hr1 hc1
 have HI0:=ak_ hI
 have HK:=ak_ (KeepBut.refl w g none)
 have HL:=ak_ hB.size
 clear hI
 have HW0:=ak_ hB.size
 have HB:=ak_ hB
 clear hB
 have H : ((vad_Level.f k l1).bind fun t112 => (if s0_0 = (-1) then (vad_Meter_Step.j0 k t112 t112 s0_1) else (vad_Meter_Step.j0 k t112 (mn t112 (wrap64 (s0_0 + 8))) s0_1))) = some (r1,r2,r3):=h
 clear h
 replace H:=Option.bind_eq_some_iff.mp H
 obtain ⟨t112,A30,H⟩:=H
 (try dsimp only at H)
 have A3:=ak_ A30
 clear A30
 have HC4:=ak_ H
 clear H
 go_enter Try.func20,Try.ntmps20
 go_upto_if 12 with (first|((with_reducible refine gate_callee (f:=15) rfl ?_);refine goesL_ (some 7) rfl rfl Try.func15 (by kernel_rfl) rfl #[.slice A1 l1.length c1] rfl (by (try simp only [List.map_toArray,List.map_cons,List.map_nil]);first|done|rfl|(simp only [List.length_drop,List.length_take];rfl)) ?_;(with_reducible refine (vad_Level.calls k _ _ l1 t112 _ ?side1 ?side2 A3.out).mono ?_);(case side1 => exact Kd.C_keep 0 HR1.out (by repeat (first|(with_reducible first|exact HK.out|apply KeepBut.set_|apply keep_drewN|apply keep_drew|apply keep_alloc)|exact HK.out)) hf1);(case side2 => exact HC1.out);rintro e w5 ⟨rfl,hb⟩;refine ⟨_,rfl,?_⟩;have n0_:=ak_ (IsS62.below (by repeat (first|(with_reducible first|exact HI0.out|apply IsS62.alloc|apply IsS62.drewN|apply IsS62.drew|apply IsS62.set_0|apply IsS62.set_1)|exact HI0.out)) hb);have n1_:=ak_ (KeepBut.trans (by repeat (first|(with_reducible first|exact HK.out|apply KeepBut.set_|apply keep_drewN|apply keep_drew|apply keep_alloc)|exact HK.out)) (KeepBut.of_below hb g none) (.inl rfl));have n2_:=ak_ (below_step (by repeat (first|(with_reducible first|exact HB.out|apply ba_|apply bb_|apply bc_|refine below_set ?_ (IsS62.ge HI0.out))|exact HB.out)) hb);clear HI0;clear HK;clear HB;have HI0:=n0_;have HK:=n1_;have HB:=n2_;clear n0_ n1_ n2_;(try clear hb);obtain ⟨HGz6,hgz6⟩:=HI0.out;have hcz6_0:=cellS62_0 HGz6;have hcz6_1:=cellS62_1 HGz6;have hfz6_0:=blk_frozen HGz6 0;have hfz6_1:=blk_frozen HGz6 1;clear HGz6 hgz6))
 (try simp only [Act.put,List.setIfInBounds_toArray,List.set_cons_zero,List.set_cons_succ])
 go_cut [] (fun wc => ∃ (kq : Nat) (x1000_3 : Int),Aside0 (vad_Meter_Step.j0 kq t112 x1000_3 s0_1 = some (r1,r2,r3)) ∧ Aside0 (kq ≤ k) ∧ Aside0 (IsS62 w0 wc g x1000_3 s0_1) ∧ Aside0 (KeepBut w wc g none) ∧ Aside0 (Below w0.heap.size w0 wc))
 case first =>
  have H:=HC4.out
  clear HC4
  by_cases c7 : s0_0 = (-1)
  ·rw [if_pos c7] at H
   have c7b0 : (s0_0 == (-1)) = true:=beq_iff_eq.mpr c7
   have c7b1 : (s0_0 != (-1)) = false:=bne_eq_false_iff_eq.mpr c7
   clear c7
   (first|rw [c7b0]|(simp only [i64_w,i32_w];rw [c7b0])|skip)
   have H':=ak_ H
   clear H
   obtain ⟨HGz8,hgz8⟩:=HI0.out
   have hcz8_0:=cellS62_0 HGz8
   have hcz8_1:=cellS62_1 HGz8
   have hfz8_0:=blk_frozen HGz8 0
   have hfz8_1:=blk_frozen HGz8 1
   clear HGz8 hgz8
   go_wp2
   go_meet
   case rel => exact ⟨_,(t112),H',⟨by first|omega|exact Nat.le_refl _⟩,⟨by repeat (first|(with_reducible first|exact HI0.out|apply IsS62.alloc|apply IsS62.drewN|apply IsS62.drew|apply IsS62.set_0|apply IsS62.set_1)|exact HI0.out)⟩,⟨by repeat (first|(with_reducible first|exact HK.out|apply KeepBut.set_|apply keep_drewN|apply keep_drew|apply keep_alloc)|exact HK.out)⟩,⟨by repeat (first|(with_reducible first|exact HB.out|apply ba_|apply bb_|apply bc_|refine below_set ?_ (IsS62.ge HI0.out))|exact HB.out)⟩⟩
  ·rw [if_neg c7] at H
   have c7b0 : (s0_0 == (-1)) = false:=beq_eq_false_iff_ne.mpr c7
   have c7b1 : (s0_0 != (-1)) = true:=bne_iff_ne.mpr c7
   (first|rw [c7b0]|(simp only [i64_w,i32_w];rw [c7b0])|skip)
   obtain ⟨ji9,hji9⟩ : ∃ j_ : Int,(mn t112 (wrap64 (s0_0 + 8))) = j_:=⟨_,rfl⟩
   replace H : (vad_Meter_Step.j0 k t112 ji9 s0_1) = some (r1,r2,r3):=by first|(rw [hji9] at H;exact H)|(simp only [hji9] at H ⊢;exact H)
   have hji9_ : (if (wrap64 (s0_0 + 8)) < t112 then (wrap64 (s0_0 + 8)) else t112) = ji9:=hji9
   have H':=ak_ H
   clear H
   obtain ⟨HGz10,hgz10⟩:=HI0.out
   have hcz10_0:=cellS62_0 HGz10
   have hcz10_1:=cellS62_1 HGz10
   have hfz10_0:=blk_frozen HGz10 0
   have hfz10_1:=blk_frozen HGz10 1
   clear HGz10 hgz10
   go_wp2
   go_meet
   case rel => exact ⟨_,(ji9),H',⟨by first|omega|exact Nat.le_refl _⟩,⟨by repeat (first|(with_reducible first|exact HI0.out|apply IsS62.alloc|apply IsS62.drewN|apply IsS62.drew|apply IsS62.set_0|apply IsS62.set_1)|exact HI0.out)⟩,⟨by repeat (first|(with_reducible first|exact HK.out|apply KeepBut.set_|apply keep_drewN|apply keep_drew|apply keep_alloc)|exact HK.out)⟩,⟨by repeat (first|(with_reducible first|exact HB.out|apply ba_|apply bb_|apply bc_|refine below_set ?_ (IsS62.ge HI0.out))|exact HB.out)⟩⟩
 case rest =>
  clear HC4
  try clear c1
  try clear c2
  try clear p2
  try clear p6
  try clear c7
  try clear c7b0
  try clear c7b1
  try clear hcz10_0
  try clear hcz10_1
  try clear hcz6_0
  try clear hcz6_1
  try clear hcz8_0
  try clear hcz8_1
  try clear hfz10_0
  try clear hfz10_1
  try clear hfz6_0
  try clear hfz6_1
  try clear hfz8_0
  try clear hfz8_1
  obtain ⟨kq,x1000_3,HA,HJ3,HI0,HK,HB⟩:=hcut
  (try simp only [i64_w,i32_w])
  cases kq with
  | zero => exact absurd HA.out (by simp [vad_Meter_Step.j0])
  | succ kj3 =>
   have H:=HA.out
   clear HA
   simp only [vad_Meter_Step.j0] at H
   by_cases c11 : t112 > (wrap64 (x1000_3 + 512))
   ·rw [if_pos c11] at H
    have c11b0 : decide ((wrap64 (x1000_3 + 512)) < t112) = true:=decide_eq_true c11
    clear c11
    simp only [Option.some.injEq,Prod.mk.injEq] at H
    obtain ⟨rfl,rfl,rfl⟩:=H
    obtain ⟨HGz12,hgz12⟩:=HI0.out
    have hcz12_0:=cellS62_0 HGz12
    have hcz12_1:=cellS62_1 HGz12
    have hfz12_0:=blk_frozen HGz12 0
    have hfz12_1:=blk_frozen HGz12 1
    clear HGz12 hgz12
    go_wp2
    go_ret
    exact ⟨by first|rfl|(simp [errW_none,errW_some] <;> rfl)|(simp [*,errW_none,errW_some] <;> rfl),by repeat (first|(with_reducible first|exact HI0.out|apply IsS62.alloc|apply IsS62.drewN|apply IsS62.drew|apply IsS62.set_0|apply IsS62.set_1)|exact HI0.out),by repeat (first|(with_reducible first|exact HB.out|apply ba_|apply bb_|apply bc_|refine below_set ?_ (IsS62.ge HI0.out))|exact HB.out),by repeat (first|(with_reducible first|exact HK.out|apply KeepBut.set_|apply keep_drewN|apply keep_drew|apply keep_alloc)|exact HK.out)⟩
   ·rw [if_neg c11] at H
    have c11b0 : decide ((wrap64 (x1000_3 + 512)) < t112) = false:=decide_eq_false c11
    clear c11
    by_cases c13 : s0_1 > 0
    ·rw [if_pos c13] at H
     have c13b0 : decide (0 < s0_1) = true:=decide_eq_true c13
     clear c13
     simp only [Option.some.injEq,Prod.mk.injEq] at H
     obtain ⟨rfl,rfl,rfl⟩:=H
     obtain ⟨HGz14,hgz14⟩:=HI0.out
     have hcz14_0:=cellS62_0 HGz14
     have hcz14_1:=cellS62_1 HGz14
     have hfz14_0:=blk_frozen HGz14 0
     have hfz14_1:=blk_frozen HGz14 1
     clear HGz14 hgz14
     go_wp2
     go_ret
     exact ⟨by first|rfl|(simp [errW_none,errW_some] <;> rfl)|(simp [*,errW_none,errW_some] <;> rfl),by repeat (first|(with_reducible first|exact HI0.out|apply IsS62.alloc|apply IsS62.drewN|apply IsS62.drew|apply IsS62.set_0|apply IsS62.set_1)|exact HI0.out),by repeat (first|(with_reducible first|exact HB.out|apply ba_|apply bb_|apply bc_|refine below_set ?_ (IsS62.ge HI0.out))|exact HB.out),by repeat (first|(with_reducible first|exact HK.out|apply KeepBut.set_|apply keep_drewN|apply keep_drew|apply keep_alloc)|exact HK.out)⟩
    ·rw [if_neg c13] at H
     have c13b0 : decide (0 < s0_1) = false:=decide_eq_false c13
     clear c13
     simp only [Option.some.injEq,Prod.mk.injEq] at H
     obtain ⟨rfl,rfl,rfl⟩:=H
     obtain ⟨HGz15,hgz15⟩:=HI0.out
     have hcz15_0:=cellS62_0 HGz15
     have hcz15_1:=cellS62_1 HGz15
     have hfz15_0:=blk_frozen HGz15 0
     have hfz15_1:=blk_frozen HGz15 1
     clear HGz15 hgz15
     go_wp2
     go_ret
     exact ⟨by first|rfl|(simp [errW_none,errW_some] <;> rfl)|(simp [*,errW_none,errW_some] <;> rfl),by repeat (first|(with_reducible first|exact HI0.out|apply IsS62.alloc|apply IsS62.drewN|apply IsS62.drew|apply IsS62.set_0|apply IsS62.set_1)|exact HI0.out),by repeat (first|(with_reducible first|exact HB.out|apply ba_|apply bb_|apply bc_|refine below_set ?_ (IsS62.ge HI0.out))|exact HB.out),by repeat (first|(with_reducible first|exact HK.out|apply KeepBut.set_|apply keep_drewN|apply keep_drew|apply keep_alloc)|exact HK.out)⟩

end Go.Proofs.Ytdchabinakboeaa.P
