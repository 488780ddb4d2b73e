/- The machine side of the laws of one chapter, without conditions: each call of a Go function comes to what the Lean function of its name answers. Written for this claim by a program of the prover. -/
import Derived.Test.YtdchabinakboeaaPx0
import Derived.Test.YtdchabinakboeaaPx6
import Derived.Test.YtdchabinakboeaaPx7
namespace Go.Proofs.Ytdchabinakboeaa.P
open Go.RowKit Go.Proofs.YtdchabinakboeaaW.PrintWords Go.Proofs.YtdchabinakboeaaW.PrintLast Go.Proofs.YtdchabinakboeaaW.PrintMore
attribute [local go_sem] max2_int min2_int max_two min_two max_three min_three max_four min_four   -- for this text's walks alone
set_option linter.unusedVariables false
set_option linter.unusedSimpArgs false

/-! ### vad_each: function 38 -/
def vad_each.l0 : Nat → List Bool → List (List Int) → Int → Int → Int → Int → Option (List Bool × Int × Int)
 | 0,_,_,_,_,_,_ => none
 | k + 1,x5,x8,x9,x10,x1000,x1001 => if x10 < x9 then (if 0 ≤ x10 then (if x10 < (x8.length : Int) then ((vad_Meter_Step.f k x1000 x1001 (rd_L1 x8 x10)).bind fun bt114 => (if x5.length < 140737488355328 then (vad_each.l0 k (x5 ++ [bt114.1]) x8 x9 (wrap64 (x10 + 1)) bt114.2.1 bt114.2.2) else (none))) else (none)) else (none)) else (some (x5,x1000,x1001))
def vad_each.f (k : Nat) (s0_0 : Int) (s0_1 : Int) (l1 : List (List Int)) : Option (List Bool × Int × Int):=vad_each.l0 k ([] : List Bool) l1 (l1.length : Int) 0 s0_0 s0_1
theorem vad_each.mono_l : ∀ k,(∀ y0 y1 y2 y3 y4 y5,LeO (vad_each.l0 k y0 y1 y2 y3 y4 y5) (vad_each.l0 (k + 1) y0 y1 y2 y3 y4 y5))
 | 0 => fun _ _ _ _ _ _ r h => by simp [vad_each.l0] at h
 | k + 1 => by
  have ih0:=vad_each.mono_l k
  all_goals (intros;first|unfold vad_each.l0)
  all_goals (repeat' first|(with_reducible first|exact ih0 _ _ _ _ _ _|exact vad_Meter_Step.mono _ _ _ _|exact LeO.refl _|exact LeO.none _|refine LeO.ite ?_ ?_|refine LeO.bind ?_ (fun _ => ?_))|exact ih0 _ _ _ _ _ _|exact vad_Meter_Step.mono _ _ _ _|exact LeO.none _|refine LeO.ite ?_ ?_|refine LeO.bind ?_ (fun _ => ?_))
theorem vad_each.mono : ∀ a0 a1 a2 k,LeO (vad_each.f k a0 a1 a2) (vad_each.f (k + 1) a0 a1 a2):=by
 intro a0 a1 a2 k
 have ih0:=vad_each.mono_l k
 unfold vad_each.f
 repeat' first|(with_reducible first|exact ih0 _ _ _ _ _ _|exact vad_Meter_Step.mono _ _ _ _|exact LeO.refl _|exact LeO.none _|refine LeO.ite ?_ ?_|refine LeO.bind ?_ (fun _ => ?_))|exact ih0 _ _ _ _ _ _|exact vad_Meter_Step.mono _ _ _ _|exact LeO.none _|refine LeO.ite ?_ ?_|refine LeO.bind ?_ (fun _ => ?_)
set_option maxHeartbeats 8000000 in
set_option maxRecDepth 100000 in
theorem vad_each.calls (k : Nat) (g : Nat) (s0_0 : Int) (s0_1 : Int) (A1 : Option Addr) (c1 : Nat) (l1 : List (List Int)) (r1 : List Bool) (r2 : Int) (r3 : Int) (w0 w : World) (hI : IsS62 w0 w g s0_0 s0_1) (hB : Below w0.heap.size w0 w) (hr1 : ∀ W_,KeepBut w W_ g none → Kd.C (Kd.slice 2 (Kd.int .i64)) W_ A1 l1.length l1) (hc1 : l1.length ≤ c1) (h : vad_each.f k s0_0 s0_1 l1 = some (r1,r2,r3)) :
  Calls Try.prog 38 #[.func (.func 20) #[.pointer (some ⟨g,0,none⟩)] #[],.slice A1 l1.length c1] w fun e w' => ∃ v0_ : Value,e = .returned (v0_) ∧ Kd.R Kd.bool 4 w' w.heap.size (fun _ => True) v0_ r1 ∧ IsS62 w0 w' g r2 r3 ∧ Below w0.heap.size w0 w' ∧ KeepBut w w' g none:=by
 have HR1:=ak_ hr1
 have HC1:=ak_ hc1
 clear hr1 hc1
 have HI0:=ak_ hI
 have HK:=ak_ (KeepBut.refl w g none)
 have HL:=ak_ hB.size
 clear hI
 have HW0:=ak_ hB.size
 have HB:=ak_ hB
 clear hB
 have H : (vad_each.l0 k ([] : List Bool) l1 (l1.length : Int) 0 s0_0 s0_1) = some (r1,r2,r3):=h
 clear h
 have H':=ak_ H
 clear H
 go_enter Try.func38,Try.ntmps38
 go_wp2
 go_loopg [5,10] k (fun kq v5 v10 w' => ∃ (x5_1 : List Bool) (x10_1 : Int) (x1000_1 : Int) (x1001_1 : Int),v10 = .int .i64 x10_1 ∧ Aside0 (vad_each.l0 kq x5_1 l1 (l1.length : Int) x10_1 x1000_1 x1001_1 = some (r1,r2,r3)) ∧ Aside0 (kq ≤ k) ∧ Aside0 (Kd.R Kd.bool 4 w' w.heap.size (fun _ => True) v5 x5_1) ∧ Aside0 (IsS62 w0 w' g x1000_1 x1001_1) ∧ Aside0 (KeepBut w w' g none) ∧ Aside0 (Below w0.heap.size w0 w'))
 case atStart => exact ⟨(([] : List Bool)),(0),(s0_0),(s0_1),(by first|rfl|(simp;done)|(simp [*];done)),H',⟨Nat.le_refl _⟩,⟨by first|exact Kd.R_nil _ _ _ _ _|exact Kd.N_nil _ _ _ _ _|exact Kd.V_nil _ _ _ _ _|exact Kd.Q_nil _ _ _ _ _|exact Kd.S_nil _ _ _ _ _⟩,⟨by repeat (first|(with_reducible first|exact HI0.out|apply IsS62.alloc|apply IsS62.drewN|apply IsS62.drew|apply IsS62.set_0|apply IsS62.set_1)|exact HI0.out)⟩,⟨by repeat (first|(with_reducible first|exact HK.out|apply KeepBut.set_|apply keep_drewN|apply keep_drew|apply keep_alloc)|exact HK.out)⟩,⟨by repeat (first|(with_reducible first|exact HB.out|apply ba_|apply bb_|apply bc_|refine below_set ?_ (IsS62.ge HI0.out))|exact HB.out)⟩⟩
 case round =>
  clear H'
  try clear c1
  try clear p2
  obtain ⟨x5_1,x10_1,x1000_1,x1001_1,rfl,HA,HK1,HO_5,HI0,HK,HB⟩:=hrel
  (try simp only [i64_w,i32_w])
  cases gk with
  | zero => exact absurd HA.out (by simp [vad_each.l0])
  | succ k1 =>
   have H:=HA.out
   clear HA
   simp only [vad_each.l0] at H
   by_cases c3 : x10_1 < (l1.length : Int)
   ·rw [if_pos c3] at H
    have c3b0:=decide_eq_true c3
    clear c3
    by_cases c4 : 0 ≤ x10_1
    ·rw [if_pos c4] at H
     have c4b0:=decide_eq_true c4
     clear c4
     by_cases c5 : x10_1 < (l1.length : Int)
     ·rw [if_pos c5] at H
      have c5b0:=decide_eq_true c5
      clear c5
      replace H:=Option.bind_eq_some_iff.mp H
      obtain ⟨⟨t114,t115,t116⟩,A60,H⟩:=H
      (try dsimp only at H)
      have A6:=ak_ A60
      clear A60
      by_cases c7 : x5_1.length < 140737488355328
      ·rw [if_pos c7] at H
       have LMc7:=ak_ c7
       clear c7
       obtain ⟨y117,hy117⟩ : ∃ y_ : List Bool,y_ = (x5_1 ++ [t114]):=⟨_,rfl⟩
       replace H : (vad_each.l0 k1 y117 l1 (l1.length : Int) (wrap64 (x10_1 + 1)) t115 t116) = some (r1,r2,r3):=by first|(rw [hy117];with_reducible exact H)|(have H2_:=(Option.bind_some _ _).symm.trans H;rw [hy117];with_reducible exact H2_)|(have H2_:=(Option.bind_some _ _).symm.trans H;with_reducible exact H2_)|with_reducible exact H|(rw [hy117];exact H)|exact H
       have Ny117:=ak_ hy117
       clear hy117
       have H':=ak_ H
       clear H
       have p113 : 0 ≤ (x10_1 : Int):=of_decide_eq_true (by first|(with_reducible assumption)|assumption)
       have q113 : x10_1 < (l1.length : Int):=of_decide_eq_true (by first|(with_reducible assumption)|assumption)
       obtain ⟨ad113,A113_0,c113_0,e113,hx113_0,hl113_0,hi113_0⟩:=at_L1 (Kd.C_foot_now HR1.out HK.out) x10_1 p113 q113
       cases e113
       have HF113_0:=ak_ (far_L1 (Kd.C_foot_step HR1.out HK.out) _ p113 q113 rfl hx113_0)
       have HR113_0:=ak_ hi113_0
       have HC113_0:=ak_ hl113_0
       clear hi113_0 hl113_0
       replace p113:=eq_true p113
       replace q113:=eq_true q113
       go_wp2_with (first|((with_reducible refine gate_dst (N:=17) rfl ?_);refine goesC_ (s:=15) (first:=#[.pointer (some ⟨g,0,none⟩)]) rfl (some 17) rfl rfl Try.func20 (by kernel_rfl) rfl #[.pointer (some ⟨g,0,none⟩),.slice A113_0 (rd_L1 l1 x10_1).length c113_0] rfl (by (try simp only [List.map_toArray,List.map_cons,List.map_nil]);first|done|rfl|(simp only [List.length_drop,List.length_take];rfl)) ?_;(with_reducible refine (vad_Meter_Step.calls k1 g x1000_1 x1001_1 _ _ (rd_L1 l1 x10_1) t114 t115 t116 w0 _ ?side1 ?side2 ?side3 ?side4 ?side5 A6.out).mono ?_);(case side1 => repeat (first|(with_reducible first|exact HI0.out|apply IsS62.alloc|apply IsS62.drewN|apply IsS62.drew|apply IsS62.set_0|apply IsS62.set_1)|exact HI0.out));(case side2 => repeat (first|(with_reducible first|exact HB.out|apply ba_|apply bb_|apply bc_|refine below_set ?_ (IsS62.ge HI0.out))|exact HB.out));(case side3 => repeat (first|exact (by repeat (first|(with_reducible exact HR113_0.out)|(with_reducible refine Kd.C_alloc ?_ _)|(with_reducible refine Kd.C_drewN ?_ _)|(with_reducible refine Kd.C_drew ?_)|exact HR113_0.out))|(with_reducible refine Kd.C_alloc ?_ _)|(with_reducible refine Kd.C_drewN ?_ _)|(with_reducible refine Kd.C_drew ?_)));(case side4 => exact HC113_0.out);(case side5 => exact HF113_0.out);rintro e w8 ⟨rfl,hi,hb,hk⟩;refine ⟨_,rfl,?_⟩;have n0_:=ak_ (Kd.R_mono (Kd.R_keep (IsS62.apart (show IsS62 w0 _ g x1000_1 x1001_1 from by repeat (first|(with_reducible first|exact HI0.out|apply IsS62.alloc|apply IsS62.drewN|apply IsS62.drew|apply IsS62.set_0|apply IsS62.set_1)|exact HI0.out)) (by (with_reducible repeat (first|apply ra_|apply rb_|apply rc_));exact HO_5.out) (by decide)) hk (fun _ h => h.2)) (fun _ h => h.1));have n1_:=ak_ (KeepBut.trans (by repeat (first|(with_reducible first|exact HK.out|apply KeepBut.set_|apply keep_drewN|apply keep_drew|apply keep_alloc)|exact HK.out)) hk (.inl rfl));have n2_:=ak_ (hb);have n3_:=ak_ (hi);clear HO_5;clear HK;clear HB;clear HI0;have HO_5:=n0_;have HK:=n1_;have HB:=n2_;have HI0:=n3_;clear n0_ n1_ n2_ n3_;(try clear hb);(try clear hk);(try clear hi))|((with_reducible refine gate_builtin (b:=.append) (xs:=#[.tmp 14,.tmp 18]) rfl ?_);at_builtin;refine Kd.R_append Kd.bool w.heap.size rfl (.tmp 14) (.tmp 18) 24 4 (.bool false) 1 rfl Try.underlying24 info4 rfl (by decide) (by omega) u5 x5_1 t114 [.bool t114] (fun _ => True) (fun _ => False) rfl rfl ?aP (fun _ hk => hk.elim) ?aF ?aO (Below.refl _ _) ?aS ?aL ?_;(case aP => exact rfl);(case aF => exact (fun _ _ => trivial));(case aO => exact (by (with_reducible repeat (first|apply ra_|apply rb_|apply rc_));exact HO_5.out));(case aS => exact (keep_size (w:=w) (g:=g) (row:=none) (by repeat (first|(with_reducible first|exact HK.out|apply KeepBut.set_|apply keep_drewN|apply keep_drew|apply keep_alloc)|exact HK.out))));(case aL => have:=LMc7.out;omega);intro v118 w9 ho hb hg hat;rw [← Ny117.out] at ho;have n0_:=ak_ (IsS62.grown (by repeat (first|(with_reducible first|exact HI0.out|apply IsS62.alloc|apply IsS62.drewN|apply IsS62.drew|apply IsS62.set_0|apply IsS62.set_1)|exact HI0.out)) hg (IsS62.own_ne HI0.out HO_5.out (by decide)));have n1_:=ak_ (below_weaken (by repeat (first|(with_reducible first|exact HB.out|apply ba_|apply bb_|apply bc_|refine below_set ?_ (IsS62.ge HI0.out))|exact HB.out)) HL.out hb);have n2_:=ak_ (KeepBut.trans (by repeat (first|(with_reducible first|exact HK.out|apply KeepBut.set_|apply keep_drewN|apply keep_drew|apply keep_alloc)|exact HK.out)) (KeepBut.of_grown hg g) (Kd.R_base2 HO_5.out));have n3_:=ak_ (ho);clear HI0;clear HB;clear HK;clear HO_5;have HI0:=n0_;have HB:=n1_;have HK:=n2_;have HO119:=n3_;clear n0_ n1_ n2_ n3_;clear ho hb hg hat))
       go_roundg k1
       case measure => have:=HK1.out;omega
       case rel => exact ⟨(y117),(wrap64 (x10_1 + 1)),(t115),(t116),(by first|rfl|(simp;done)|(simp [*];done)),H',⟨by have:=HK1.out;omega⟩,⟨by (with_reducible repeat (first|apply ra_|apply rb_|apply rc_));exact HO119.out⟩,⟨by repeat (first|(with_reducible first|exact HI0.out|apply IsS62.alloc|apply IsS62.drewN|apply IsS62.drew|apply IsS62.set_0|apply IsS62.set_1)|exact HI0.out)⟩,⟨by repeat (first|(with_reducible first|exact HK.out|apply KeepBut.set_|apply keep_drewN|apply keep_drew|apply keep_alloc)|exact HK.out)⟩,⟨by repeat (first|(with_reducible first|exact HB.out|apply ba_|apply bb_|apply bc_|refine below_set ?_ (IsS62.ge HI0.out))|exact HB.out)⟩⟩
      ·rw [if_neg c7] at H
       exact absurd H (by simp)
     ·rw [if_neg c5] at H
      exact absurd H (by simp)
    ·rw [if_neg c4] at H
     exact absurd H (by simp)
   ·rw [if_neg c3] at H
    have c3b0:=decide_eq_false c3
    clear c3
    simp only [Option.some.injEq,Prod.mk.injEq] at H
    obtain ⟨rfl,rfl,rfl⟩:=H
    go_wp2
    go_ret
    exact ⟨_,by first|rfl|(simp [errW_none,errW_some] <;> rfl)|(simp [*,errW_none,errW_some] <;> rfl),by (with_reducible repeat (first|apply ra_|apply rb_|apply rc_));exact HO_5.out,by repeat (first|(with_reducible first|exact HI0.out|apply IsS62.alloc|apply IsS62.drewN|apply IsS62.drew|apply IsS62.set_0|apply IsS62.set_1)|exact HI0.out),by repeat (first|(with_reducible first|exact HB.out|apply ba_|apply bb_|apply bc_|refine below_set ?_ (IsS62.ge HI0.out))|exact HB.out),by repeat (first|(with_reducible first|exact HK.out|apply KeepBut.set_|apply keep_drewN|apply keep_drew|apply keep_alloc)|exact HK.out)⟩

/-! ### vad_Meter_Each: function 17 -/
def vad_Meter_Each.f (k : Nat) (s0_0 : Int) (s0_1 : Int) (l1 : List (List Int)) : Option (List Bool × Int × Int):=(vad_each.f k s0_0 s0_1 l1).bind fun bt120 => (some (bt120.1,bt120.2.1,bt120.2.2))
theorem vad_Meter_Each.mono : ∀ a0 a1 a2 k,LeO (vad_Meter_Each.f k a0 a1 a2) (vad_Meter_Each.f (k + 1) a0 a1 a2):=by
 intro a0 a1 a2 k
 unfold vad_Meter_Each.f
 repeat' first|(with_reducible first|exact vad_each.mono _ _ _ _|exact LeO.refl _|exact LeO.none _|refine LeO.ite ?_ ?_|refine LeO.bind ?_ (fun _ => ?_))|exact vad_each.mono _ _ _ _|exact LeO.none _|refine LeO.ite ?_ ?_|refine LeO.bind ?_ (fun _ => ?_)
set_option maxHeartbeats 8000000 in
set_option maxRecDepth 100000 in
theorem vad_Meter_Each.calls (k : Nat) (g : Nat) (s0_0 : Int) (s0_1 : Int) (A1 : Option Addr) (c1 : Nat) (l1 : List (List Int)) (r1 : List Bool) (r2 : Int) (r3 : Int) (w0 w : World) (hI : IsS62 w0 w g s0_0 s0_1) (hB : Below w0.heap.size w0 w) (hr1 : ∀ W_,KeepBut w W_ g none → Kd.C (Kd.slice 2 (Kd.int .i64)) W_ A1 l1.length l1) (hc1 : l1.length ≤ c1) (h : vad_Meter_Each.f k s0_0 s0_1 l1 = some (r1,r2,r3)) :
  Calls Try.prog 17 #[.pointer (some ⟨g,0,none⟩),.slice A1 l1.length c1] w fun e w' => ∃ v0_ : Value,e = .returned (v0_) ∧ Kd.R Kd.bool 4 w' w.heap.size (fun _ => True) v0_ r1 ∧ IsS62 w0 w' g r2 r3 ∧ Below w0.heap.size w0 w' ∧ KeepBut w w' g none:=by
 have HR1:=ak_ hr1
 have HC1:=ak_ hc1
 clear hr1 hc1
 have HI0:=ak_ hI
 have HK:=ak_ (KeepBut.refl w g none)
 have HL:=ak_ hB.size
 clear hI
 have HW0:=ak_ hB.size
 have HB:=ak_ hB
 clear hB
 have H : ((vad_each.f k s0_0 s0_1 l1).bind fun bt120 => (some (bt120.1,bt120.2.1,bt120.2.2))) = some (r1,r2,r3):=h
 clear h
 replace H:=Option.bind_eq_some_iff.mp H
 obtain ⟨⟨t120,t123,t124⟩,A30,H⟩:=H
 (try dsimp only at H)
 have A3:=ak_ A30
 clear A30
 simp only [Option.some.injEq,Prod.mk.injEq] at H
 obtain ⟨rfl,rfl,rfl⟩:=H
 go_enter Try.func17,Try.ntmps17
 go_wp2_with (first|((with_reducible refine gate_callee (f:=38) rfl ?_);refine goesL_ (some 8) rfl rfl Try.func38 (by kernel_rfl) rfl #[.func (.func 20) #[.pointer (some ⟨g,0,none⟩)] #[],.slice A1 l1.length c1] rfl (by (try simp only [List.map_toArray,List.map_cons,List.map_nil]);first|done|rfl|(simp only [List.length_drop,List.length_take];rfl)) ?_;(with_reducible refine (vad_each.calls k g s0_0 s0_1 _ _ l1 t120 t123 t124 w0 _ ?side1 ?side2 ?side3 ?side4 A3.out).mono ?_);(case side1 => repeat (first|(with_reducible first|exact HI0.out|apply IsS62.alloc|apply IsS62.drewN|apply IsS62.drew|apply IsS62.set_0|apply IsS62.set_1)|exact HI0.out));(case side2 => repeat (first|(with_reducible first|exact HB.out|apply ba_|apply bb_|apply bc_|refine below_set ?_ (IsS62.ge HI0.out))|exact HB.out));(case side3 => exact Kd.C_foot_step HR1.out (by repeat (first|(with_reducible first|exact HK.out|apply KeepBut.set_|apply keep_drewN|apply keep_drew|apply keep_alloc)|exact HK.out)));(case side4 => exact HC1.out);rintro e w4 ⟨v121,rfl,ho0,hi,hb,hk⟩;refine ⟨_,rfl,?_⟩;have n0_:=ak_ (Kd.R_lower ho0 (keep_size (w:=w) (g:=g) (row:=none) (by repeat (first|(with_reducible first|exact HK.out|apply KeepBut.set_|apply keep_drewN|apply keep_drew|apply keep_alloc)|exact HK.out))));have n1_:=ak_ (KeepBut.trans (by repeat (first|(with_reducible first|exact HK.out|apply KeepBut.set_|apply keep_drewN|apply keep_drew|apply keep_alloc)|exact HK.out)) hk (.inl rfl));have n2_:=ak_ (hb);have n3_:=ak_ (hi);clear HK;clear HB;clear HI0;have HO122:=n0_;have HK:=n1_;have HB:=n2_;have HI0:=n3_;clear n0_ n1_ n2_ n3_;(try clear hb);(try clear hk);(try clear hi);(try clear ho0)))
 go_ret
 exact ⟨_,by first|rfl|(simp [errW_none,errW_some] <;> rfl)|(simp [*,errW_none,errW_some] <;> rfl),by (with_reducible repeat (first|apply ra_|apply rb_|apply rc_));exact HO122.out,by repeat (first|(with_reducible first|exact HI0.out|apply IsS62.alloc|apply IsS62.drewN|apply IsS62.drew|apply IsS62.set_0|apply IsS62.set_1)|exact HI0.out),by repeat (first|(with_reducible first|exact HB.out|apply ba_|apply bb_|apply bc_|refine below_set ?_ (IsS62.ge HI0.out))|exact HB.out),by repeat (first|(with_reducible first|exact HK.out|apply KeepBut.set_|apply keep_drewN|apply keep_drew|apply keep_alloc)|exact HK.out)⟩

end Go.Proofs.Ytdchabinakboeaa.P
