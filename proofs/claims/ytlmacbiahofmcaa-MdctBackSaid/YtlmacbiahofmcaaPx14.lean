/- The machine side of the laws of one chapter, without conditions: each call of a Go function comes to what the Lean function of its name answers. Written for this claim by a program of the prover. -/
import Derived.Test.YtlmacbiahofmcaaPx0
import Derived.Test.YtlmacbiahofmcaaPx2
import Derived.Test.YtlmacbiahofmcaaPx12
import Derived.Test.YtlmacbiahofmcaaPx13
namespace Go.Proofs.Ytlmacbiahofmcaa.P
open Go.RowKit Go.Proofs.YtlmacbiahofmcaaW.PrintWords Go.Proofs.YtlmacbiahofmcaaW.PrintLast Go.Proofs.YtlmacbiahofmcaaW.PrintMore
attribute [local go_sem] max2_int min2_int max_two min_two max_three min_three max_four min_four   -- for this text's walks alone
set_option linter.unusedVariables false
set_option linter.unusedSimpArgs false

/-! ### mdct_Joiner_Next: function 14 -/
def mdct_Joiner_Next.l0 : Nat → List Int → List Int → Int → Int → Int → Int → List Int → Option (List Int × Int × Int × Int × List Int)
 | 0,_,_,_,_,_,_,_ => none
 | k + 1,x6,x8,x35,x36,x1000,x1001,x1002 => if x36 < x35 then (if 0 ≤ x36 then (if x36 < (x1002.length : Int) then (if x36 < (x6.length : Int) then ((fix_Clamp.f k (wrap64 ((rd x1002 x36) + (rd x6 x36))) (-16777216) 16777216).bind fun t203 => (if x36 < (x8.length : Int) then (mdct_Joiner_Next.l0 k x6 (x8.set (x36 : Int).toNat t203) x35 (wrap64 (x36 + 1)) x1000 x1001 x1002) else (none))) else (none)) else (none)) else (none)) else (if 0 ≤ x1000 then (if x1000 ≤ (x6.length : Int) then (some (x8,0,x1000,x1001,(x6.drop (x1000 : Int).toNat))) else (none)) else (none))
def mdct_Joiner_Next.f (k : Nat) (s0_0 : Int) (s0_1 : Int) (s0_2 : List Int) (l1 : List Int) : Option (List Int × Int × Int × Int × List Int):=if (l1.length : Int) = s0_0 then ((mdct_Inverse.f k l1 s0_1).bind fun bt194 => (if bt194.2 = 0 then (if 0 ≤ s0_0 then (if (s0_0 : Int).toNat ≤ 35184372088832 then ((some (List.replicate (s0_0 : Int).toNat 0 : List Int)).bind fun y198 => (mdct_Joiner_Next.l0 k bt194.1 y198 (y198.length : Int) 0 s0_0 s0_1 s0_2)) else (none)) else (none)) else (some (([] : List Int),bt194.2,s0_0,s0_1,s0_2)))) else (some (([] : List Int),1,s0_0,s0_1,s0_2))
theorem mdct_Joiner_Next.mono_l : ∀ k,(∀ y0 y1 y2 y3 y4 y5 y6,LeO (mdct_Joiner_Next.l0 k y0 y1 y2 y3 y4 y5 y6) (mdct_Joiner_Next.l0 (k + 1) y0 y1 y2 y3 y4 y5 y6))
 | 0 => fun _ _ _ _ _ _ _ r h => by simp [mdct_Joiner_Next.l0] at h
 | k + 1 => by
  have ih0:=mdct_Joiner_Next.mono_l k
  all_goals (intros;first|unfold mdct_Joiner_Next.l0)
  all_goals (repeat' first|(with_reducible first|exact ih0 _ _ _ _ _ _ _|exact fix_Clamp.mono _ _ _ _|exact mdct_Inverse.mono _ _ _|exact LeO.refl _|exact LeO.none _|refine LeO.ite ?_ ?_|refine LeO.bind ?_ (fun _ => ?_))|exact ih0 _ _ _ _ _ _ _|exact fix_Clamp.mono _ _ _ _|exact mdct_Inverse.mono _ _ _|exact LeO.none _|refine LeO.ite ?_ ?_|refine LeO.bind ?_ (fun _ => ?_))
theorem mdct_Joiner_Next.mono : ∀ a0 a1 a2 a3 k,LeO (mdct_Joiner_Next.f k a0 a1 a2 a3) (mdct_Joiner_Next.f (k + 1) a0 a1 a2 a3):=by
 intro a0 a1 a2 a3 k
 have ih0:=mdct_Joiner_Next.mono_l k
 unfold mdct_Joiner_Next.f
 repeat' first|(with_reducible first|exact ih0 _ _ _ _ _ _ _|exact fix_Clamp.mono _ _ _ _|exact mdct_Inverse.mono _ _ _|exact LeO.refl _|exact LeO.none _|refine LeO.ite ?_ ?_|refine LeO.bind ?_ (fun _ => ?_))|exact ih0 _ _ _ _ _ _ _|exact fix_Clamp.mono _ _ _ _|exact mdct_Inverse.mono _ _ _|exact LeO.none _|refine LeO.ite ?_ ?_|refine LeO.bind ?_ (fun _ => ?_)
def mdct_Joiner_Next.T10 : Bool × List (List Nat × List Nat):=(true,[([],[]),([],[]),([],[]),([2],[2]),([3],[3]),([4],[4]),([],[]),([5,6],[5,6]),([7],[7]),([],[]),([],[]),([9,10],[9,10]),([11],[11]),([8,12],[8,12]),([13],[13]),([0,1,0,1,2,3,4,5,6,7,8,9,10,11,12,13,14],[0,1]),([15,14,14,0,1,2,3,4,5,6,7,8,9,10,11,12,13,14],[14,15])])
def mdct_Joiner_Next.B10 : List Nat:=[0,0,0,4,12,28,0,124,252,0,0,1536,3584,8188,16380,32767,65535]
theorem mdct_Joiner_Next.tab10 : rtab .any (opsOf Try.f14 10) = mdct_Joiner_Next.T10:=by kernel_rfl
theorem mdct_Joiner_Next.bits10 : waitsOk mdct_Joiner_Next.T10.2 mdct_Joiner_Next.B10 = true:=by kernel_rfl
set_option maxHeartbeats 8000000 in
set_option maxRecDepth 100000 in
theorem mdct_Joiner_Next.calls (k : Nat) (g : Nat) (s0_0 : Int) (s0_1 : Int) (s0_2 : List Int) (A1 : Option Addr) (c1 : Nat) (l1 : List Int) (r1 : List Int) (r2 : Int) (r3 : Int) (r4 : Int) (r5 : List Int) (w0 w : World) (hI : IsS52 w0 w g s0_0 s0_1 s0_2) (hB : Below w0.heap.size w0 w) (hr1 : Kd.C (Kd.int .i64) w A1 l1.length l1) (hc1 : l1.length ≤ c1) (hf1 : ∀ ad,A1 = some ad → 0 < l1.length → ad.block ≠ g) (h : mdct_Joiner_Next.f k s0_0 s0_1 s0_2 l1 = some (r1,r2,r3,r4,r5)) :
  Calls Try.prog 14 #[.pointer (some ⟨g,0,none⟩),.slice A1 l1.length c1] w fun e w' => ∃ v0_ : Value,e = .returned (.tuple #[v0_,.int .i64 r2]) ∧ Kd.R (Kd.int .i64) 2 w' w.heap.size (fun _ => True) v0_ r1 ∧ IsS52 w0 w' g r3 r4 r5 ∧ Below w0.heap.size w0 w' ∧ KeepBut w w' g none:=by
 obtain ⟨vv9,hI,hQ9⟩:=hI
 obtain ⟨A90,c90,ev9,hc9⟩:=Kd.Q_slice hQ9
 subst ev9
 have HR90:=ak_ (Kd.Q_reads' hQ9).2.2
 have HC90:=ak_ hc9
 have hf90 : ∀ ad,A90 = some ad → 0 < s0_2.length → ad.block ≠ g:=far_slice (Kd.Q_ne hQ9 hI.1 (by decide))
 have HQ90:=ak_ hQ9
 have HV0:=ak_ hI
 clear hQ9 hc9
 have HR1:=ak_ hr1
 have HC1:=ak_ hc1
 clear hr1 hc1
 have HI0:=ak_ hI
 have HK:=ak_ (KeepBut.refl w g none)
 have HL:=ak_ hB.size
 clear hI
 have HW0:=ak_ hB.size
 have HB:=ak_ hB
 clear hB
 have H : (if (l1.length : Int) = s0_0 then ((mdct_Inverse.f k l1 s0_1).bind fun bt194 => (if bt194.2 = 0 then (if 0 ≤ s0_0 then (if (s0_0 : Int).toNat ≤ 35184372088832 then ((some (List.replicate (s0_0 : Int).toNat 0 : List Int)).bind fun y198 => (mdct_Joiner_Next.l0 k bt194.1 y198 (y198.length : Int) 0 s0_0 s0_1 s0_2)) else (none)) else (none)) else (some (([] : List Int),bt194.2,s0_0,s0_1,s0_2)))) else (some (([] : List Int),1,s0_0,s0_1,s0_2))) = some (r1,r2,r3,r4,r5):=h
 clear h
 by_cases c3 : (l1.length : Int) = s0_0
 ·rw [if_pos c3] at H
  have c3b0 : ((l1.length : Int) == s0_0) = true:=beq_iff_eq.mpr c3
  have c3b1 : ((l1.length : Int) != s0_0) = false:=bne_eq_false_iff_eq.mpr c3
  clear c3
  replace H:=Option.bind_eq_some_iff.mp H
  obtain ⟨⟨t194,t195⟩,A40,H⟩:=H
  (try dsimp only at H)
  have A4:=ak_ A40
  clear A40
  by_cases c5 : t195 = 0
  ·rw [if_pos c5] at H
   have c5b0 : (t195 == 0) = true:=beq_iff_eq.mpr c5
   have c5b1 : (t195 != 0) = false:=bne_eq_false_iff_eq.mpr c5
   clear c5
   by_cases c6 : 0 ≤ s0_0
   ·rw [if_pos c6] at H
    have c6b0:=eq_true c6
    have c6b1 : decide (0 ≤ s0_0) = true:=decide_eq_true c6
    clear c6
    by_cases c7 : (s0_0 : Int).toNat ≤ 35184372088832
    ·rw [if_pos c7] at H
     have c7b0:=eq_true c7
     have c7b1 : decide ((s0_0 : Int).toNat ≤ 35184372088832) = true:=decide_eq_true c7
     clear c7
     obtain ⟨y198,hy198⟩ : ∃ y_ : List Int,y_ = (List.replicate (s0_0 : Int).toNat 0):=⟨_,rfl⟩
     replace H : (mdct_Joiner_Next.l0 k t194 y198 (y198.length : Int) 0 s0_0 s0_1 s0_2) = some (r1,r2,r3,r4,r5):=by first|(rw [hy198];with_reducible exact H)|(have H2_:=(Option.bind_some _ _).symm.trans H;rw [hy198];with_reducible exact H2_)|(have H2_:=(Option.bind_some _ _).symm.trans H;with_reducible exact H2_)|with_reducible exact H|(rw [hy198];exact H)|exact H
     have Ny198:=ak_ hy198
     clear hy198
     have H':=ak_ H
     clear H
     obtain ⟨HGz8,hgz8⟩:=HI0.out
     have hcz8_0:=cellS52_0 HGz8
     have hcz8_1:=cellS52_1 HGz8
     have hcz8_2:=cellS52_2 HGz8
     have hfz8_0:=blk_frozen HGz8 0
     have hfz8_1:=blk_frozen HGz8 1
     have hfz8_2:=blk_frozen HGz8 2
     clear HGz8 hgz8
     go_enter Try.func14,Try.ntmps14
     go_wp2_with (first|((with_reducible refine gate_callee (f:=12) rfl ?_);refine goesL_ (some 23) rfl rfl Try.func12 (by kernel_rfl) rfl #[.slice A1 l1.length c1,.int .i64 s0_1] rfl (by (try simp only [List.map_toArray,List.map_cons,List.map_nil]);first|done|rfl|(simp only [List.length_drop,List.length_take];rfl)) ?_;(with_reducible refine (mdct_Inverse.calls k _ _ l1 s0_1 t194 t195 _ ?side1 ?side2 A4.out).mono ?_);(case side1 => exact Kd.C_keep 0 HR1.out (by repeat (first|(with_reducible first|exact HK.out|apply KeepBut.set_|apply keep_drewN|apply keep_drew|apply keep_alloc)|exact HK.out)) hf1);(case side2 => exact HC1.out);rintro e w9 ⟨v196,rfl,ho0,hb⟩;refine ⟨_,rfl,?_⟩;have n0_:=ak_ (Kd.R_lower ho0 (keep_size (w:=w) (g:=g) (row:=none) (by repeat (first|(with_reducible first|exact HK.out|apply KeepBut.set_|apply keep_drewN|apply keep_drew|apply keep_alloc)|exact HK.out))));have n1_:=ak_ (IsS52v.below (by repeat (first|(with_reducible first|exact HI0.out|apply IsS52v.alloc|apply IsS52v.drewN|apply IsS52v.drew)|exact HI0.out)) hb);have n2_:=ak_ (KeepBut.trans (by repeat (first|(with_reducible first|exact HK.out|apply KeepBut.set_|apply keep_drewN|apply keep_drew|apply keep_alloc)|exact HK.out)) (KeepBut.of_below hb g none) (.inl rfl));have n3_:=ak_ (below_step (by repeat (first|(with_reducible first|exact HB.out|apply ba_|apply bb_|apply bc_|refine below_set ?_ (IsS52v.ge HI0.out))|exact HB.out)) hb);clear HI0;clear HK;clear HB;have HO197:=n0_;have HI0:=n1_;have HK:=n2_;have HB:=n3_;clear n0_ n1_ n2_ n3_;(try clear hb);(try clear ho0);obtain ⟨HGz10,hgz10⟩:=HI0.out;have hcz10_0:=cellS52_0 HGz10;have hcz10_1:=cellS52_1 HGz10;have hcz10_2:=cellS52_2 HGz10;have hfz10_0:=blk_frozen HGz10 0;have hfz10_1:=blk_frozen HGz10 1;have hfz10_2:=blk_frozen HGz10 2;clear HGz10 hgz10)|((with_reducible refine gate_dst (N:=33) rfl ?_);refine Kd.R_make (Kd.int .i64) _ 2 rfl (N:=33) rfl 23 _ _ rfl s0_0 rfl rfl Try.underlying23 (.int .i64 0) 8 info2 rfl (by decide) (by omega) 0 (ok:=fun _ => True) (okp:=fun _ => True) rfl (fun _ hk => hk) trivial (of_decide_eq_true (by first|(with_reducible assumption)|assumption)) (Nat.le_trans (Nat.mul_le_mul_right _ (of_decide_eq_true (by first|(with_reducible assumption)|assumption) : s0_0.toNat ≤ 35184372088832)) (by omega)) (Below.refl _ _) (Nat.le_refl _) ?_;intro v199 w11 ho12 hb hg_ hnew_;clear hg_ hnew_;(first|rw [← Ny198.out] at ho12|(simp only [Int.reduceToNat] at ho12;rw [← Ny198.out] at ho12));have n0_:=ak_ (Kd.R_elder' (by (with_reducible repeat (first|apply ra_|apply rb_|apply rc_));exact HO197.out) (Kd.R_base ho12) hb);have n1_:=ak_ (Kd.R_lower (Kd.R_new' ho12 (Kd.R_lt (by (with_reducible repeat (first|apply ra_|apply rb_|apply rc_));exact HO197.out))) (keep_size (w:=w) (g:=g) (row:=none) (by repeat (first|(with_reducible first|exact HK.out|apply KeepBut.set_|apply keep_drewN|apply keep_drew|apply keep_alloc)|exact HK.out))));have n2_:=ak_ (IsS52v.below (by repeat (first|(with_reducible first|exact HI0.out|apply IsS52v.alloc|apply IsS52v.drewN|apply IsS52v.drew)|exact HI0.out)) hb);have n3_:=ak_ (KeepBut.trans (by repeat (first|(with_reducible first|exact HK.out|apply KeepBut.set_|apply keep_drewN|apply keep_drew|apply keep_alloc)|exact HK.out)) (KeepBut.of_below hb g none) (.inl rfl));have n4_:=ak_ (below_step (by repeat (first|(with_reducible first|exact HB.out|apply ba_|apply bb_|apply bc_|refine below_set ?_ (IsS52v.ge HI0.out))|exact HB.out)) hb);clear HO197;clear HI0;clear HK;clear HB;have HO197:=n0_;have HO200:=n1_;have HI0:=n2_;have HK:=n3_;have HB:=n4_;clear n0_ n1_ n2_ n3_ n4_;clear hb ho12;obtain ⟨Ao13,co13,eo13⟩:=Kd.R_slice HO200.out;subst eo13))
     go_loopg [36] k (fun kq v36 w' => ∃ (x8_1 : List Int) (x36_1 : Int),v36 = .int .i64 x36_1 ∧ Aside0 (mdct_Joiner_Next.l0 kq t194 x8_1 (y198.length : Int) x36_1 s0_0 s0_1 s0_2 = some (r1,r2,r3,r4,r5)) ∧ Aside0 (kq ≤ k) ∧ Aside0 (Kd.R (Kd.int .i64) 2 w' w.heap.size (fun k_ => some k_ ≠ ((.slice Ao13 y198.length co13) : Value).ownBlock) v196 t194) ∧ Aside0 (Kd.R (Kd.int .i64) 2 w' w.heap.size (fun k_ => some k_ ≠ (v196 : Value).ownBlock) (.slice Ao13 y198.length co13) x8_1) ∧ Aside0 (IsS52v (.slice A90 s0_2.length c90) w0 w' g s0_0 s0_1 s0_2) ∧ Aside0 (KeepBut w w' g none) ∧ Aside0 (Below w0.heap.size w0 w'))
     case atStart => exact ⟨(y198),(0),(by first|rfl|(simp;done)|(simp [*];done)),H',⟨Nat.le_refl _⟩,⟨by (with_reducible repeat (first|apply ra_|apply rb_|apply rc_));exact Kd.R_mono HO197.out (fun _ hk => hk.2)⟩,⟨by (with_reducible repeat (first|apply ra_|apply rb_|apply rc_));exact Kd.R_mono HO200.out (fun _ hk => hk.2)⟩,⟨by repeat (first|(with_reducible first|exact HI0.out|apply IsS52v.alloc|apply IsS52v.drewN|apply IsS52v.drew)|exact HI0.out)⟩,⟨by repeat (first|(with_reducible first|exact HK.out|apply KeepBut.set_|apply keep_drewN|apply keep_drew|apply keep_alloc)|exact HK.out)⟩,⟨by repeat (first|(with_reducible first|exact HB.out|apply ba_|apply bb_|apply bc_|refine below_set ?_ (IsS52v.ge HI0.out))|exact HB.out)⟩⟩
     case round =>
      clear H'
      try clear c1
      try clear p2
      try clear c3
      try clear c3b0
      try clear c3b1
      try clear c5
      try clear c5b0
      try clear c5b1
      try clear c6
      try clear c6b0
      try clear c6b1
      try clear c7
      try clear c7b0
      try clear c7b1
      try clear c12
      try clear hcz10_0
      try clear hcz10_1
      try clear hcz10_2
      try clear hcz8_0
      try clear hcz8_1
      try clear hcz8_2
      try clear hfz10_0
      try clear hfz10_1
      try clear hfz10_2
      try clear hfz8_0
      try clear hfz8_1
      try clear hfz8_2
      obtain ⟨x8_1,x36_1,rfl,HA,HK1,HO_6,HO_8,HI0,HK,HB⟩:=hrel
      (try simp only [i64_w,i32_w])
      have hl8_1:=(Kd.R_reads' HO_8.out).1
      rw [hl8_1] at HO_8
      (try simp only [hl8_1])
      (try simp only [hl8_1] at HO_6)
      cases gk with
      | zero => exact absurd HA.out (by simp [mdct_Joiner_Next.l0])
      | succ k1 =>
       have H:=HA.out
       clear HA
       simp only [mdct_Joiner_Next.l0] at H
       by_cases c14 : x36_1 < (y198.length : Int)
       ·rw [if_pos c14] at H
        have c14b0:=decide_eq_true c14
        (try (have c14h0:=c14b0;simp only [hl8_1] at c14h0))
        clear c14
        by_cases c15 : 0 ≤ x36_1
        ·rw [if_pos c15] at H
         have c15b0:=decide_eq_true c15
         (try (have c15h0:=c15b0;simp only [hl8_1] at c15h0))
         clear c15
         by_cases c16 : x36_1 < (s0_2.length : Int)
         ·rw [if_pos c16] at H
          have c16b0:=decide_eq_true c16
          (try (have c16h0:=c16b0;simp only [hl8_1] at c16h0))
          clear c16
          by_cases c17 : x36_1 < (t194.length : Int)
          ·rw [if_pos c17] at H
           have c17b0:=decide_eq_true c17
           (try (have c17h0:=c17b0;simp only [hl8_1] at c17h0))
           clear c17
           replace H:=Option.bind_eq_some_iff.mp H
           obtain ⟨t203,A180,H⟩:=H
           (try dsimp only at H)
           have A18:=ak_ A180
           clear A180
           by_cases c19 : x36_1 < (x8_1.length : Int)
           ·rw [if_pos c19] at H
            have c19b0:=decide_eq_true c19
            (try (have c19h0:=c19b0;simp only [hl8_1] at c19h0))
            clear c19
            obtain ⟨y204,hy204⟩ : ∃ y_ : List Int,y_ = (x8_1.set (x36_1 : Int).toNat t203):=⟨_,rfl⟩
            replace H : (mdct_Joiner_Next.l0 k1 t194 y204 (y198.length : Int) (wrap64 (x36_1 + 1)) s0_0 s0_1 s0_2) = some (r1,r2,r3,r4,r5):=by first|(rw [hy204];with_reducible exact H)|(have H2_:=(Option.bind_some _ _).symm.trans H;rw [hy204];with_reducible exact H2_)|(have H2_:=(Option.bind_some _ _).symm.trans H;with_reducible exact H2_)|with_reducible exact H|(rw [hy204];exact H)|exact H
            have Ny204:=ak_ hy204
            clear hy204
            have H':=ak_ H
            clear H
            try go_wp2
            have n0_:=ak_ (Kd.R_drew HO_6.out)
            have n1_:=ak_ (Kd.R_drew HO_8.out)
            have n2_:=ak_ (IsS52v.drew HI0.out)
            have n3_:=ak_ (keep_drew HK.out)
            have n4_:=ak_ (below_drew1 HB.out)
            clear HO_6
            clear HO_8
            clear HI0
            clear HK
            clear HB
            have HO_6:=n0_
            have HO_8:=n1_
            have HI0:=n2_
            have HK:=n3_
            have HB:=n4_
            clear n0_ n1_ n2_ n3_ n4_
            have p201 : 0 ≤ (x36_1 : Int):=of_decide_eq_true (by first|(with_reducible assumption)|assumption)
            have q201 : x36_1 < (s0_2.length : Int):=of_decide_eq_true (by first|(with_reducible assumption)|assumption)
            obtain ⟨ad201,e201,hx201_0⟩:=Kd.at_int HR90.out x36_1 p201 q201
            have hw201_0:=hx201_0
            cases e201
            have hne201_0:=(show ((ad201.add (x36_1).toNat) : Addr).block ≠ g from by first|(rw [add_block];exact hf90 ad201 rfl (by omega))|(show (Addr.add _ _).block ≠ _;rw [add_block];exact hf90 ad201 rfl (by omega))|exact hf90 ad201 rfl (by omega))
            replace hx201_0:=keep_cell HK.out hx201_0 (by first|(rw [add_block];exact hf90 _ rfl (by omega))|exact hf90 _ rfl (by omega)|exact hf90 ad201 rfl (by omega))
            replace p201:=eq_true p201
            replace q201:=eq_true q201
            obtain ⟨Ao22,co22,eo22⟩:=Kd.R_slice HO_6.out
            (first|subst eo22|(injection eo22 with f1_ f2_ f3_;have f4_:=f1_.symm;have f5_:=f3_.symm;clear f1_ f2_ f3_;subst f4_;subst f5_))
            have p202 : 0 ≤ (x36_1 : Int):=of_decide_eq_true (by first|(with_reducible assumption)|assumption)
            have q202 : x36_1 < (t194.length : Int):=of_decide_eq_true (by first|(with_reducible assumption)|assumption)
            obtain ⟨ad202,e202,hx202_0⟩:=Kd.at_int (Kd.R_reads' HO_6.out).2.2 x36_1 p202 q202
            cases e202
            replace p202:=eq_true p202
            replace q202:=eq_true q202
            refine start_ (n:=17) (S:=fun w' => w'.cell? ⟨g,0,none⟩ = some (.int .i64 s0_0) ∧ w'.cell? ⟨g,1,none⟩ = some (.int .i64 s0_1) ∧ w'.cell? ⟨g,2,none⟩ = some (.slice (some ad201) s0_2.length c90) ∧ w'.cell? (ad201.add (x36_1).toNat) = some (.int .i64 (rd s0_2 x36_1)) ∧ w'.cell? (ad202.add (x36_1).toNat) = some (.int .i64 (rd t194 x36_1))) (ds:=[16]) #[false,false,false,false,false,false,false,false,false,false,false,false,false,false,false,false,false] (by kernel_rfl) rfl rfl ⟨(blk_cell (ak_ HI0.out.1).out 0).trans rfl,(blk_cell (ak_ HI0.out.1).out 1).trans rfl,(blk_cell (ak_ HI0.out.1).out 2).trans rfl,(keep_cell HK.out hw201_0 hne201_0),hx202_0⟩ (fun hHeld => ?_);refine with_tabW mdct_Joiner_Next.tab10 mdct_Joiner_Next.bits10 (fun HT_ HW_ => ?_)
            generalize wr.drew = w21 at HO_6 HO_8 HI0 HK HB hx201_0 hx202_0 hHeld ⊢
            refine pure_ (i:=0) (N:=some 39) (v:=?_) (a':=?_) #[true,false,false,false,false,false,false,false,false,false,false,false,false,false,false,false,false] rfl rfl (any_of HT_.out (by kernel_rfl)) (fun _ _ _ h => h) (Or.inl ⟨by rfl,?_⟩) ?_ ?_
            rotate_left
            ·intro w'
             go_simp
             with_reducible rfl
            rotate_left
            ·simp only [Act.put,List.setIfInBounds_toArray,List.set_cons_zero,List.set_cons_succ,i64_w,i32_w]
             rfl
            refine pure_ (i:=1) (N:=some 40) (v:=?_) (a':=?_) #[true,true,false,false,false,false,false,false,false,false,false,false,false,false,false,false,false] rfl rfl (any_of HT_.out (by kernel_rfl)) (fun _ _ _ h => h) (Or.inl ⟨by rfl,?_⟩) ?_ ?_
            rotate_left
            ·intro w'
             go_simp
             with_reducible rfl
            rotate_left
            ·simp only [Act.put,List.setIfInBounds_toArray,List.set_cons_zero,List.set_cons_succ,i64_w,i32_w]
             rfl
            refine pure_ (i:=2) (N:=some 41) (v:=?_) (a':=?_) #[true,true,true,false,false,false,false,false,false,false,false,false,false,false,false,false,false] rfl rfl (any_of HT_.out (by kernel_rfl)) (fun _ _ _ h => h) (Or.inl ⟨by rfl,?_⟩) ?_ ?_
            rotate_left
            ·intro w'
             go_simp
             with_reducible rfl
            rotate_left
            ·simp only [Act.put,List.setIfInBounds_toArray,List.set_cons_zero,List.set_cons_succ,i64_w,i32_w]
             rfl
            refine pure_ (i:=3) (N:=some 42) (v:=?_) (a':=?_) #[true,true,true,true,false,false,false,false,false,false,false,false,false,false,false,false,false] rfl rfl (any_of HT_.out (by kernel_rfl)) (fun _ _ _ h => h) (Or.inl ⟨by rfl,?_⟩) ?_ ?_
            rotate_left
            ·intro w'
             go_simp
             with_reducible rfl
            rotate_left
            ·simp only [Act.put,List.setIfInBounds_toArray,List.set_cons_zero,List.set_cons_succ,i64_w,i32_w]
             rfl
            refine pure_ (i:=4) (N:=some 43) (v:=?_) (a':=?_) #[true,true,true,true,true,false,false,false,false,false,false,false,false,false,false,false,false] rfl rfl (any_of HT_.out (by kernel_rfl)) (fun _ _ _ h => h) (Or.inl ⟨by rfl,?_⟩) ?_ ?_
            rotate_left
            ·intro w'
             go_simp
             with_reducible rfl
            rotate_left
            ·simp only [Act.put,List.setIfInBounds_toArray,List.set_cons_zero,List.set_cons_succ,i64_w,i32_w]
             rfl
            refine pure_ (i:=6) (N:=some 45) (v:=?_) (a':=?_) #[true,true,true,true,true,false,true,false,false,false,false,false,false,false,false,false,false] rfl rfl (any_of HT_.out (by kernel_rfl)) (fun _ _ _ h => h) (Or.inl ⟨by rfl,?_⟩) ?_ ?_
            rotate_left
            ·intro w'
             go_simp
             with_reducible rfl
            rotate_left
            ·simp only [Act.put,List.setIfInBounds_toArray,List.set_cons_zero,List.set_cons_succ,i64_w,i32_w]
             rfl
            refine pure_ (i:=9) (N:=some 48) (v:=?_) (a':=?_) #[true,true,true,true,true,false,true,false,false,true,false,false,false,false,false,false,false] rfl rfl (any_of HT_.out (by kernel_rfl)) (fun _ _ _ h => h) (Or.inl ⟨by rfl,?_⟩) ?_ ?_
            rotate_left
            ·intro w'
             go_simp
             with_reducible rfl
            rotate_left
            ·simp only [Act.put,List.setIfInBounds_toArray,List.set_cons_zero,List.set_cons_succ,i64_w,i32_w]
             rfl
            refine pure_ (i:=10) (N:=some 49) (v:=?_) (a':=?_) #[true,true,true,true,true,false,true,false,false,true,true,false,false,false,false,false,false] rfl rfl (any_of HT_.out (by kernel_rfl)) (fun _ _ _ h => h) (Or.inl ⟨by rfl,?_⟩) ?_ ?_
            rotate_left
            ·intro w'
             go_simp
             with_reducible rfl
            rotate_left
            ·simp only [Act.put,List.setIfInBounds_toArray,List.set_cons_zero,List.set_cons_succ,i64_w,i32_w]
             rfl
            refine pure_ (i:=11) (N:=some 50) (v:=?_) (a':=?_) #[true,true,true,true,true,false,true,false,false,true,true,true,false,false,false,false,false] rfl rfl (any_of HT_.out (by kernel_rfl)) (fun _ _ _ h => h) (Or.inl ⟨by rfl,?_⟩) ?_ ?_
            rotate_left
            ·intro w'
             go_simp
             with_reducible rfl
            rotate_left
            ·simp only [Act.put,List.setIfInBounds_toArray,List.set_cons_zero,List.set_cons_succ,i64_w,i32_w]
             rfl
            refine take_ (i:=5) (N:=some 44) (v:=?_) (a':=?_) #[true,true,true,true,true,true,true,false,false,true,true,true,false,false,false,false,false] rfl rfl (take_ofW HT_.out HW_.out (by kernel_rfl)) (fun _ _ _ h => h) (Or.inl ⟨by rfl,?_⟩) hHeld ?_ ?_
            rotate_left
            ·rintro w' ⟨s0,s1,s2,s3,s4⟩
             go_simp
             with_reducible rfl
            rotate_left
            ·simp only [Act.put,List.setIfInBounds_toArray,List.set_cons_zero,List.set_cons_succ,i64_w,i32_w]
             rfl
            refine pure_ (i:=7) (N:=some 46) (v:=?_) (a':=?_) #[true,true,true,true,true,true,true,true,false,true,true,true,false,false,false,false,false] rfl rfl (any_of HT_.out (by kernel_rfl)) (fun _ _ _ h => h) (Or.inl ⟨by rfl,?_⟩) ?_ ?_
            rotate_left
            ·intro w'
             go_simp
             with_reducible rfl
            rotate_left
            ·simp only [Act.put,List.setIfInBounds_toArray,List.set_cons_zero,List.set_cons_succ,i64_w,i32_w]
             rfl
            refine take_ (i:=8) (N:=some 47) (v:=?_) (a':=?_) #[true,true,true,true,true,true,true,true,true,true,true,true,false,false,false,false,false] rfl rfl (take_ofW HT_.out HW_.out (by kernel_rfl)) (fun _ _ _ h => h) (Or.inl ⟨by rfl,?_⟩) hHeld ?_ ?_
            rotate_left
            ·rintro w' ⟨s0,s1,s2,s3,s4⟩
             go_simp
             with_reducible rfl
            rotate_left
            ·simp only [Act.put,List.setIfInBounds_toArray,List.set_cons_zero,List.set_cons_succ,i64_w,i32_w]
             rfl
            refine take_ (i:=12) (N:=some 51) (v:=?_) (a':=?_) #[true,true,true,true,true,true,true,true,true,true,true,true,true,false,false,false,false] rfl rfl (take_ofW HT_.out HW_.out (by kernel_rfl)) (fun _ _ _ h => h) (Or.inl ⟨by rfl,?_⟩) hHeld ?_ ?_
            rotate_left
            ·rintro w' ⟨s0,s1,s2,s3,s4⟩
             go_simp
             with_reducible rfl
            rotate_left
            ·simp only [Act.put,List.setIfInBounds_toArray,List.set_cons_zero,List.set_cons_succ,i64_w,i32_w]
             rfl
            refine pure_ (i:=13) (N:=some 52) (v:=?_) (a':=?_) #[true,true,true,true,true,true,true,true,true,true,true,true,true,true,false,false,false] rfl rfl (any_of HT_.out (by kernel_rfl)) (fun _ _ _ h => h) (Or.inl ⟨by rfl,?_⟩) ?_ ?_
            rotate_left
            ·intro w'
             go_simp
             with_reducible rfl
            rotate_left
            ·simp only [Act.put,List.setIfInBounds_toArray,List.set_cons_zero,List.set_cons_succ,i64_w,i32_w]
             rfl
            refine one_ (i:=14) (N:=some 53) #[true,true,true,true,true,true,true,true,true,true,true,true,true,true,true,false,false] rfl rfl (one_of HT_.out (by kernel_rfl)) (by decide) (fun K hK => ?_)
            refine goes_ Try.func28 (by kernel_rfl) rfl #[.int .i64 (wrap64 ((rd s0_2 x36_1) + (rd t194 x36_1))),.int .i64 (-16777216),.int .i64 16777216] (by rfl) rfl rfl (by (try simp only [List.map_toArray,List.map_cons,List.map_nil]);first|done|rfl|(simp only [List.length_drop,List.length_take];rfl)) ?_
            with_reducible refine (fix_Clamp.calls k1 (wrap64 ((rd s0_2 x36_1) + (rd t194 x36_1))) (-16777216) 16777216 t203 _ A18.out).mono ?_
            rintro e w' ⟨rfl,⟨nd,rfl⟩⟩
            refine ⟨_,rfl,?_⟩
            have p20 : 0 ≤ (x36_1 : Int):=of_decide_eq_true (by first|(with_reducible assumption)|assumption)
            have q20 : (x36_1 : Int) < ((x8_1.length : Int) : Int):=of_decide_eq_true (by first|(with_reducible assumption)|assumption)
            obtain ⟨go20,co20,eo20,gb20,gl20,cl20,HG20⟩:=Kd.R_form HO_8.out (by omega)
            (first|cases eo20|(injection eo20 with ea_ en_ ec_;(first|subst ea_|(injection ea_ with ea_;subst ea_));subst ec_;clear en_))
            have GB20:=ak_ gb20
            have GG20:=ak_ HG20
            clear gb20 gl20 HG20
            obtain ⟨hx20_0,hf20_0⟩:=Kd.R_celln 0 HO_8.out (x36_1 : Int) p20 q20
            replace p20:=eq_true p20
            replace q20:=eq_true q20
            have HN0_go20:=ak_ (show g ≠ go20 from by have h_:=IsS52v.own_ne HI0.out HO_8.out (by decide);intro e_;exact h_ (by rw [e_];rfl))
            have HP23:=Kd.R_putn HO_8.out (x36_1 : Int) t203
            rw [← Ny204.out] at HP23
            have HQ23:=ak_ HP23
            clear HP23
            refine hK.out _ _ ⟨(blk_cell (ak_ HI0.out.1).out 0).trans rfl,(blk_cell (ak_ HI0.out.1).out 1).trans rfl,(blk_cell (ak_ HI0.out.1).out 2).trans rfl,(keep_cell HK.out hw201_0 hne201_0),hHeld.2.2.2.2⟩ (fun hHeld => ?_)
            clear hK K
            refine norm_ (a':=?_) ?_ ?_
            rotate_left
            ·show Act.put _ (some 53) _ = _
             simp only [Act.put,List.setIfInBounds_toArray,List.set_cons_zero,List.set_cons_succ,i64_w,i32_w]
             rfl
            refine pure_ (i:=15) (N:=some 54) (v:=?_) (a':=?_) #[true,true,true,true,true,true,true,true,true,true,true,true,true,true,true,true,false] rfl rfl (any_of HT_.out (by kernel_rfl)) (fun _ _ _ h => h) (Or.inl ⟨by rfl,?_⟩) ?_ ?_
            rotate_left
            ·intro w'
             go_simp
             with_reducible rfl
            rotate_left
            ·simp only [Act.put,List.setIfInBounds_toArray,List.set_cons_zero,List.set_cons_succ,i64_w,i32_w]
             rfl
            refine last_ (i:=16) (N:=none) #[true,true,true,true,true,true,true,true,true,true,true,true,true,true,true,true,true] rfl rfl (one_of HT_.out (by kernel_rfl)) (by decide) (fun K hK => ?_)
            refine skip_ (w1:=?_) (by rfl) rfl ?_ ?_
            rotate_left
            ·go_simp
             rfl
            refine hK.out _ _ ?_
            clear hK K
            refine done_ (done_of HT_.out (by kernel_rfl)) ?_
            try go_wp2
            (try simp only [← hl8_1])
            go_roundg k1
            case measure => have:=HK1.out;omega
            case rel => exact ⟨(y204),(wrap64 (x36_1 + 1)),(by first|rfl|(simp;done)|(simp [*];done)),H',⟨by have:=HK1.out;omega⟩,⟨by (try simp only [hl8_1]);(with_reducible repeat (first|apply ra_|apply rb_|apply rc_));exact Kd.R_mono (Kd.R_far (p:=⟨go20,(x36_1 : Int).toNat,none⟩) (Kd.R_mono HO_6.out (fun k_ hk => (⟨hk,fun e_ => hk (by rw [e_];rfl)⟩ : _ ∧ k_ ≠ go20))) (fun _ hk => hk.2) (.int .i64 t203)) (fun _ hk => hk.1)⟩,⟨by (try simp only [hl8_1]);(with_reducible repeat (first|apply ra_|apply rb_|apply rc_));exact HQ23.out⟩,⟨by repeat (first|(with_reducible first|exact HI0.out|apply IsS52v.alloc|apply IsS52v.drewN|apply IsS52v.drew|refine IsS52v.far ?_ HN0_go20.out _)|exact HI0.out)⟩,⟨by repeat (first|(with_reducible first|exact HK.out|apply KeepBut.set_|apply keep_drewN|apply keep_drew|apply keep_alloc|refine keep_far ?_ GB20.out _)|exact HK.out)⟩,⟨by repeat (first|(with_reducible first|exact HB.out|apply ba_|apply bb_|apply bc_|refine below_set ?_ (Nat.le_trans HL.out GB20.out)|refine below_set ?_ (IsS52v.ge HI0.out))|exact HB.out)⟩⟩
           ·rw [if_neg c19] at H
            exact absurd H (by simp)
          ·rw [if_neg c17] at H
           exact absurd H (by simp)
         ·rw [if_neg c16] at H
          exact absurd H (by simp)
        ·rw [if_neg c15] at H
         exact absurd H (by simp)
       ·rw [if_neg c14] at H
        have c14b0:=decide_eq_false c14
        (try (have c14h0:=c14b0;simp only [hl8_1] at c14h0))
        clear c14
        by_cases c24 : 0 ≤ s0_0
        ·rw [if_pos c24] at H
         have c24b0:=eq_true c24
         have c24b1 : decide (0 ≤ s0_0) = true:=decide_eq_true c24
         clear c24
         by_cases c25 : s0_0 ≤ (t194.length : Int)
         ·rw [if_pos c25] at H
          have c25b0:=eq_true c25
          have c25b1 : decide (s0_0 ≤ (t194.length : Int)) = true:=decide_eq_true c25
          clear c25
          obtain ⟨y205,hy205⟩ : ∃ y_ : List Int,y_ = (t194.drop (s0_0 : Int).toNat):=⟨_,rfl⟩
          replace H : (some (x8_1,0,s0_0,s0_1,y205)) = some (r1,r2,r3,r4,r5):=by first|(rw [hy205];with_reducible exact H)|(have H2_:=(Option.bind_some _ _).symm.trans H;rw [hy205];with_reducible exact H2_)|(have H2_:=(Option.bind_some _ _).symm.trans H;with_reducible exact H2_)|with_reducible exact H|(rw [hy205];exact H)|exact H
          have Ny205:=ak_ hy205
          clear hy205
          simp only [Option.some.injEq,Prod.mk.injEq] at H
          obtain ⟨rfl,rfl,rfl,rfl,rfl⟩:=H
          obtain ⟨HGz26,hgz26⟩:=HI0.out
          have hcz26_0:=cellS52_0 HGz26
          have hcz26_1:=cellS52_1 HGz26
          have hcz26_2:=cellS52_2 HGz26
          have hfz26_0:=blk_frozen HGz26 0
          have hfz26_1:=blk_frozen HGz26 1
          have hfz26_2:=blk_frozen HGz26 2
          clear HGz26 hgz26
          obtain ⟨Ao27,co27,eo27⟩:=Kd.R_slice HO_6.out
          subst eo27
          have q28 : (s0_0 : Int) ≤ ((t194.length : Int) : Int):=of_decide_eq_true (by first|(with_reducible assumption)|assumption)
          obtain ⟨i028,hi028,_,hsz28,_⟩:=info_parts info2
          have hcut28:=cut_from (P:=Try.prog) 23 2 .i64 Try.underlying23 hi028 1 hsz28 Ao27 t194.length co27 s0_0 (of_decide_eq_true (by first|(with_reducible assumption)|assumption)) q28
          have hr28:=Kd.Q_drop (k:=(s0_0 : Int).toNat) (Kd.Q_of_R HO_6.out) (by omega)
          obtain ⟨A28,hA28⟩ : ∃ A_1,A_1 = (if co27 = (s0_0 : Int).toNat then Ao27 else (Ao27 : Option Addr).map (·.add ((s0_0 : Int).toNat * 1))):=⟨_,rfl⟩
          obtain ⟨c28,hc28⟩ : ∃ c_1,c_1 = co27 - (s0_0 : Int).toNat:=⟨_,rfl⟩
          have hy28 : y205.length = t194.length - (s0_0 : Int).toNat:=(by rw [Ny205.out,List.length_drop])
          rw [← Ny205.out] at hr28
          rw [← hy28,← hA28,← hc28] at hcut28
          replace hr28 : Kd.Q (Kd.int .i64) 2 wr w.heap.size (fun k_ => some k_ ≠ (.slice Ao13 x8_1.length co13 : Value).ownBlock) (.slice A28 y205.length c28) y205:=(by rw [hA28,hc28,hy28];exact hr28)
          have HE28 : Aside0 ((Value.slice A28 y205.length c28).ownBlock = (.slice Ao27 t194.length co27 : Value).ownBlock):=⟨by rw [hA28];split <;> (cases (Ao27 : Option Addr) <;> first|rfl|simp [Value.ownBlock,add_block])⟩
          clear hy28 hi028 hsz28 HO_6 hA28 hc28
          have HO207:=ak_ hr28
          clear hr28
          replace q28:=eq_true q28
          have n_:=ak_ (Kd.R_mono (ok':=fun k_ => some k_ ≠ (.slice A28 y205.length c28 : Value).ownBlock) HO_8.out (fun k_ hk => (by rw [HE28.out];exact hk)))
          clear HO_8
          have HO_8:=n_
          clear n_
          have hxg30 : wr.cell? ⟨g,2,none⟩ = some (.slice A90 s0_2.length c90):=(blk_cell (show IsS52v (.slice A90 s0_2.length c90) w0 _ g s0_0 s0_1 s0_2 from by repeat (first|(with_reducible first|exact HI0.out|apply IsS52v.alloc|apply IsS52v.drewN|apply IsS52v.drew)|exact HI0.out)).1 2).trans rfl
          have hfg30 : wr.frozen? ⟨g,2,none⟩ = false:=blk_frozen (show IsS52v (.slice A90 s0_2.length c90) w0 _ g s0_0 s0_1 s0_2 from by repeat (first|(with_reducible first|exact HI0.out|apply IsS52v.alloc|apply IsS52v.drewN|apply IsS52v.drew)|exact HI0.out)).1 2
          go_wp2_with (first|((with_reducible refine gate_store (t:=23) (p:=64) rfl ?_);refine store_event (t:=23) (p:=64) (v:=?vo_w29) (w1:=(wr.setCell ⟨g,2,none⟩ (.slice A28 y205.length c28))) ?hg ?ho ?hn ?hr ?_;(case ho => rfl);(case hg => rfl);(case hn => rfl);(case hr => first|(go_simp;done)|(go_simp;rfl));intro w29 hw;have hi : IsS52 w0 w29 g s0_0 s0_1 y205:=(by rw [hw];exact IsS52v.put (show IsS52v (.slice A90 s0_2.length c90) w0 _ g s0_0 s0_1 s0_2 from by repeat (first|(with_reducible first|exact HI0.out|apply IsS52v.alloc|apply IsS52v.drewN|apply IsS52v.drew)|exact HI0.out)) (Kd.Q_mono (Kd.Q_lower (by (with_reducible repeat (first|apply Kd.Q_alloc|apply Kd.Q_drewN|apply Kd.Q_drew));exact HO207.out) HW0.out) (fun _ _ => trivial)));have hb : Below w0.heap.size w0 w29:=(by rw [hw];exact below_set (by repeat (first|(with_reducible first|exact HB.out|apply ba_|apply bb_|apply bc_|refine below_set ?_ (IsS52v.ge HI0.out))|exact HB.out)) (IsS52v.ge HI0.out));have hk : KeepBut wr w29 g none:=(by rw [hw];exact KeepBut.set_ (KeepBut.refl _ _ _) _ _);have n0_:=ak_ (Kd.Q_mono (Kd.Q_keep (IsS52v.apartQ (show IsS52v (.slice A90 s0_2.length c90) w0 _ g s0_0 s0_1 s0_2 from by repeat (first|(with_reducible first|exact HI0.out|apply IsS52v.alloc|apply IsS52v.drewN|apply IsS52v.drew)|exact HI0.out)) (by (with_reducible repeat (first|apply Kd.Q_alloc|apply Kd.Q_drewN|apply Kd.Q_drew));exact HO207.out) (by decide)) hk (fun _ h => h.2)) (fun _ h => h.1));have n1_:=ak_ (Kd.R_mono (Kd.R_keep (IsS52v.apart (show IsS52v (.slice A90 s0_2.length c90) w0 _ g s0_0 s0_1 s0_2 from by repeat (first|(with_reducible first|exact HI0.out|apply IsS52v.alloc|apply IsS52v.drewN|apply IsS52v.drew)|exact HI0.out)) (by (with_reducible repeat (first|apply ra_|apply rb_|apply rc_));exact HO_8.out) (by decide)) hk (fun _ h => h.2)) (fun _ h => h.1));have n2_:=ak_ (KeepBut.trans (by repeat (first|(with_reducible first|exact HK.out|apply KeepBut.set_|apply keep_drewN|apply keep_drew|apply keep_alloc)|exact HK.out)) hk (.inl rfl));have n3_:=ak_ (hb);have n4_:=ak_ (hi);clear HO207;clear HO_8;clear HK;clear HB;clear HI0;have HO207:=n0_;have HO_8:=n1_;have HK:=n2_;have HB:=n3_;have HI0:=n4_;clear n0_ n1_ n2_ n3_ n4_;(try clear hb);(try clear hk);(try clear hi);(try clear hw)))
          go_ret2
          exact ⟨_,by first|rfl|(simp [errW_none,errW_some] <;> rfl)|(simp [*,errW_none,errW_some] <;> rfl),by (with_reducible repeat (first|apply ra_|apply rb_|apply rc_));exact Kd.R_mono HO_8.out (fun _ hk => trivial),by repeat (first|(with_reducible first|exact HI0.out|apply IsS52.alloc|apply IsS52.drewN|apply IsS52.drew)|exact HI0.out),by repeat (first|(with_reducible first|exact HB.out|apply ba_|apply bb_|apply bc_|refine below_set ?_ (IsS52.ge HI0.out))|exact HB.out),by repeat (first|(with_reducible first|exact HK.out|apply KeepBut.set_|apply keep_drewN|apply keep_drew|apply keep_alloc)|exact HK.out)⟩
         ·rw [if_neg c25] at H
          exact absurd H (by simp)
        ·rw [if_neg c24] at H
         exact absurd H (by simp)
    ·rw [if_neg c7] at H
     exact absurd H (by simp)
   ·rw [if_neg c6] at H
    exact absurd H (by simp)
  ·rw [if_neg c5] at H
   have c5b0 : (t195 == 0) = false:=beq_eq_false_iff_ne.mpr c5
   have c5b1 : (t195 != 0) = true:=bne_iff_ne.mpr c5
   simp only [Option.some.injEq,Prod.mk.injEq] at H
   obtain ⟨rfl,rfl,rfl,rfl,rfl⟩:=H
   obtain ⟨HGz31,hgz31⟩:=HI0.out
   have hcz31_0:=cellS52_0 HGz31
   have hcz31_1:=cellS52_1 HGz31
   have hcz31_2:=cellS52_2 HGz31
   have hfz31_0:=blk_frozen HGz31 0
   have hfz31_1:=blk_frozen HGz31 1
   have hfz31_2:=blk_frozen HGz31 2
   clear HGz31 hgz31
   go_enter Try.func14,Try.ntmps14
   go_wp2_with (first|((with_reducible refine gate_callee (f:=12) rfl ?_);refine goesL_ (some 23) rfl rfl Try.func12 (by kernel_rfl) rfl #[.slice A1 l1.length c1,.int .i64 s0_1] rfl (by (try simp only [List.map_toArray,List.map_cons,List.map_nil]);first|done|rfl|(simp only [List.length_drop,List.length_take];rfl)) ?_;(with_reducible refine (mdct_Inverse.calls k _ _ l1 s0_1 t194 t195 _ ?side1 ?side2 A4.out).mono ?_);(case side1 => exact Kd.C_keep 0 HR1.out (by repeat (first|(with_reducible first|exact HK.out|apply KeepBut.set_|apply keep_drewN|apply keep_drew|apply keep_alloc)|exact HK.out)) hf1);(case side2 => exact HC1.out);rintro e w32 ⟨v196,rfl,ho0,hb⟩;refine ⟨_,rfl,?_⟩;have n0_:=ak_ (Kd.R_lower ho0 (keep_size (w:=w) (g:=g) (row:=none) (by repeat (first|(with_reducible first|exact HK.out|apply KeepBut.set_|apply keep_drewN|apply keep_drew|apply keep_alloc)|exact HK.out))));have n1_:=ak_ (IsS52v.below (by repeat (first|(with_reducible first|exact HI0.out|apply IsS52v.alloc|apply IsS52v.drewN|apply IsS52v.drew)|exact HI0.out)) hb);have n2_:=ak_ (KeepBut.trans (by repeat (first|(with_reducible first|exact HK.out|apply KeepBut.set_|apply keep_drewN|apply keep_drew|apply keep_alloc)|exact HK.out)) (KeepBut.of_below hb g none) (.inl rfl));have n3_:=ak_ (below_step (by repeat (first|(with_reducible first|exact HB.out|apply ba_|apply bb_|apply bc_|refine below_set ?_ (IsS52v.ge HI0.out))|exact HB.out)) hb);clear HI0;clear HK;clear HB;have HO197:=n0_;have HI0:=n1_;have HK:=n2_;have HB:=n3_;clear n0_ n1_ n2_ n3_;(try clear hb);(try clear ho0)))
   go_ret2
   exact ⟨_,by first|rfl|(simp [errW_none,errW_some] <;> rfl)|(simp [*,errW_none,errW_some] <;> rfl),by first|exact Kd.R_nil _ _ _ _ _|exact Kd.N_nil _ _ _ _ _|exact Kd.V_nil _ _ _ _ _|exact Kd.Q_nil _ _ _ _ _|exact Kd.S_nil _ _ _ _ _,IsS52v.back (by repeat (first|(with_reducible first|exact HI0.out|apply IsS52v.alloc|apply IsS52v.drewN|apply IsS52v.drew)|exact HI0.out)) HV0.out HQ90.out (by repeat (first|(with_reducible first|exact HK.out|apply KeepBut.set_|apply keep_drewN|apply keep_drew|apply keep_alloc)|exact HK.out)),by repeat (first|(with_reducible first|exact HB.out|apply ba_|apply bb_|apply bc_|refine below_set ?_ (IsS52v.ge HI0.out))|exact HB.out),by repeat (first|(with_reducible first|exact HK.out|apply KeepBut.set_|apply keep_drewN|apply keep_drew|apply keep_alloc)|exact HK.out)⟩
 ·rw [if_neg c3] at H
  have c3b0 : ((l1.length : Int) == s0_0) = false:=beq_eq_false_iff_ne.mpr c3
  have c3b1 : ((l1.length : Int) != s0_0) = true:=bne_iff_ne.mpr c3
  simp only [Option.some.injEq,Prod.mk.injEq] at H
  obtain ⟨rfl,rfl,rfl,rfl,rfl⟩:=H
  obtain ⟨HGz33,hgz33⟩:=HI0.out
  have hcz33_0:=cellS52_0 HGz33
  have hcz33_1:=cellS52_1 HGz33
  have hcz33_2:=cellS52_2 HGz33
  have hfz33_0:=blk_frozen HGz33 0
  have hfz33_1:=blk_frozen HGz33 1
  have hfz33_2:=blk_frozen HGz33 2
  clear HGz33 hgz33
  go_enter Try.func14,Try.ntmps14
  go_wp2
  go_ret2
  exact ⟨_,by first|rfl|(simp [errW_none,errW_some] <;> rfl)|(simp [*,errW_none,errW_some] <;> rfl),by first|exact Kd.R_nil _ _ _ _ _|exact Kd.N_nil _ _ _ _ _|exact Kd.V_nil _ _ _ _ _|exact Kd.Q_nil _ _ _ _ _|exact Kd.S_nil _ _ _ _ _,IsS52v.back (by repeat (first|(with_reducible first|exact HI0.out|apply IsS52v.alloc|apply IsS52v.drewN|apply IsS52v.drew)|exact HI0.out)) HV0.out HQ90.out (by repeat (first|(with_reducible first|exact HK.out|apply KeepBut.set_|apply keep_drewN|apply keep_drew|apply keep_alloc)|exact HK.out)),by repeat (first|(with_reducible first|exact HB.out|apply ba_|apply bb_|apply bc_|refine below_set ?_ (IsS52v.ge HI0.out))|exact HB.out),by repeat (first|(with_reducible first|exact HK.out|apply KeepBut.set_|apply keep_drewN|apply keep_drew|apply keep_alloc)|exact HK.out)⟩

end Go.Proofs.Ytlmacbiahofmcaa.P
