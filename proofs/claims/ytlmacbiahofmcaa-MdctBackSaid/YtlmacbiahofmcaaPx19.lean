/- The machine side of the laws of one chapter, without conditions: each call of a Go function comes to what the Lean function of its name answers. Written for this claim by a program of the prover. -/
import Derived.Test.YtlmacbiahofmcaaPx0
import Derived.Test.YtlmacbiahofmcaaPx13
namespace Go.Proofs.Ytlmacbiahofmcaa.P
open Go.RowKit Go.Proofs.YtlmacbiahofmcaaW.PrintWords Go.Proofs.YtlmacbiahofmcaaW.PrintLast Go.Proofs.YtlmacbiahofmcaaW.PrintMore
attribute [local go_sem] max2_int min2_int max_two min_two max_three min_three max_four min_four   -- for this text's walks alone
set_option linter.unusedVariables false
set_option linter.unusedSimpArgs false

/-! ### mdct_Joiner_Reset: function 25 -/
def mdct_Joiner_Reset.f (s0_0 : Int) (s0_1 : Int) (s0_2 : List Int) : Option (Int × Int × List Int):=if 0 ≤ s0_0 then (if (s0_0 : Int).toNat ≤ 35184372088832 then (some (s0_0,s0_1,(List.replicate (s0_0 : Int).toNat 0))) else (none)) else (none)
set_option maxHeartbeats 8000000 in
set_option maxRecDepth 100000 in
theorem mdct_Joiner_Reset.calls (g : Nat) (s0_0 : Int) (s0_1 : Int) (s0_2 : List Int) (r1 : Int) (r2 : Int) (r3 : List Int) (w0 w : World) (hI : IsS52 w0 w g s0_0 s0_1 s0_2) (hB : Below w0.heap.size w0 w) (h : mdct_Joiner_Reset.f s0_0 s0_1 s0_2 = some (r1,r2,r3)) :
  Calls Try.prog 25 #[.pointer (some ⟨g,0,none⟩)] w fun e w' => e = .returned (.tuple #[]) ∧ IsS52 w0 w' g r1 r2 r3 ∧ Below w0.heap.size w0 w' ∧ KeepBut w w' g none:=by
 obtain ⟨vv9,hI,hQ9⟩:=hI
 obtain ⟨A90,c90,ev9,hc9⟩:=Kd.Q_slice hQ9
 subst ev9
 have HR90:=ak_ (Kd.Q_reads' hQ9).2.2
 have HC90:=ak_ hc9
 have hf90 : ∀ ad,A90 = some ad → 0 < s0_2.length → ad.block ≠ g:=far_slice (Kd.Q_ne hQ9 hI.1 (by decide))
 have HQ90:=ak_ hQ9
 have HV0:=ak_ hI
 clear hQ9 hc9
 have HI0:=ak_ hI
 have HK:=ak_ (KeepBut.refl w g none)
 have HL:=ak_ hB.size
 clear hI
 have HW0:=ak_ hB.size
 have HB:=ak_ hB
 clear hB
 have H : (if 0 ≤ s0_0 then (if (s0_0 : Int).toNat ≤ 35184372088832 then (some (s0_0,s0_1,(List.replicate (s0_0 : Int).toNat 0))) else (none)) else (none)) = some (r1,r2,r3):=h
 clear h
 by_cases c2 : 0 ≤ s0_0
 ·rw [if_pos c2] at H
  have c2b0:=eq_true c2
  have c2b1 : decide (0 ≤ s0_0) = true:=decide_eq_true c2
  clear c2
  by_cases c3 : (s0_0 : Int).toNat ≤ 35184372088832
  ·rw [if_pos c3] at H
   have c3b0:=eq_true c3
   have c3b1 : decide ((s0_0 : Int).toNat ≤ 35184372088832) = true:=decide_eq_true c3
   clear c3
   obtain ⟨y212,hy212⟩ : ∃ y_ : List Int,y_ = (List.replicate (s0_0 : Int).toNat 0):=⟨_,rfl⟩
   replace H : (some (s0_0,s0_1,y212)) = some (r1,r2,r3):=by first|(rw [hy212];with_reducible exact H)|(have H2_:=(Option.bind_some _ _).symm.trans H;rw [hy212];with_reducible exact H2_)|(have H2_:=(Option.bind_some _ _).symm.trans H;with_reducible exact H2_)|with_reducible exact H|(rw [hy212];exact H)|exact H
   have Ny212:=ak_ hy212
   clear hy212
   simp only [Option.some.injEq,Prod.mk.injEq] at H
   obtain ⟨rfl,rfl,rfl⟩:=H
   obtain ⟨HGz4,hgz4⟩:=HI0.out
   have hcz4_0:=cellS52_0 HGz4
   have hcz4_1:=cellS52_1 HGz4
   have hcz4_2:=cellS52_2 HGz4
   have hfz4_0:=blk_frozen HGz4 0
   have hfz4_1:=blk_frozen HGz4 1
   have hfz4_2:=blk_frozen HGz4 2
   clear HGz4 hgz4
   go_enter Try.func25,Try.ntmps25
   go_wp2_with (first|((with_reducible refine gate_dst (N:=7) rfl ?_);refine Kd.R_make (Kd.int .i64) _ 2 rfl (N:=7) rfl 23 _ _ rfl s0_0 rfl rfl Try.underlying23 (.int .i64 0) 8 info2 rfl (by decide) (by omega) 0 (ok:=fun _ => True) (okp:=fun _ => True) rfl (fun _ hk => hk) trivial (of_decide_eq_true (by first|(with_reducible assumption)|assumption)) (Nat.le_trans (Nat.mul_le_mul_right _ (of_decide_eq_true (by first|(with_reducible assumption)|assumption) : s0_0.toNat ≤ 35184372088832)) (by omega)) (Below.refl _ _) (Nat.le_refl _) ?_;intro v213 w5 ho6 hb hg_ hnew_;clear hg_ hnew_;(first|rw [← Ny212.out] at ho6|(simp only [Int.reduceToNat] at ho6;rw [← Ny212.out] at ho6));have n0_:=ak_ (Kd.R_lower ho6 (keep_size (w:=w) (g:=g) (row:=none) (by repeat (first|(with_reducible first|exact HK.out|apply KeepBut.set_|apply keep_drewN|apply keep_drew|apply keep_alloc)|exact HK.out))));have n1_:=ak_ (IsS52v.below (by repeat (first|(with_reducible first|exact HI0.out|apply IsS52v.alloc|apply IsS52v.drewN|apply IsS52v.drew)|exact HI0.out)) hb);have n2_:=ak_ (KeepBut.trans (by repeat (first|(with_reducible first|exact HK.out|apply KeepBut.set_|apply keep_drewN|apply keep_drew|apply keep_alloc)|exact HK.out)) (KeepBut.of_below hb g none) (.inl rfl));have n3_:=ak_ (below_step (by repeat (first|(with_reducible first|exact HB.out|apply ba_|apply bb_|apply bc_|refine below_set ?_ (IsS52v.ge HI0.out))|exact HB.out)) hb);clear HI0;clear HK;clear HB;have HO214:=n0_;have HI0:=n1_;have HK:=n2_;have HB:=n3_;clear n0_ n1_ n2_ n3_;clear hb ho6;obtain ⟨Ao7,co7,eo7⟩:=Kd.R_slice HO214.out;subst eo7;have hxg9 : w5.cell? ⟨g,2,none⟩ = some (.slice A90 s0_2.length c90):=(blk_cell (show IsS52v (.slice A90 s0_2.length c90) w0 _ g s0_0 s0_1 s0_2 from by repeat (first|(with_reducible first|exact HI0.out|apply IsS52v.alloc|apply IsS52v.drewN|apply IsS52v.drew)|exact HI0.out)).1 2).trans rfl;have hfg9 : w5.frozen? ⟨g,2,none⟩ = false:=blk_frozen (show IsS52v (.slice A90 s0_2.length c90) w0 _ g s0_0 s0_1 s0_2 from by repeat (first|(with_reducible first|exact HI0.out|apply IsS52v.alloc|apply IsS52v.drewN|apply IsS52v.drew)|exact HI0.out)).1 2)|((with_reducible refine gate_store (t:=23) (p:=9) rfl ?_);refine store_event (t:=23) (p:=9) (v:=?vo_w8) (w1:=(w5.setCell ⟨g,2,none⟩ (.slice Ao7 y212.length co7))) ?hg ?ho ?hn ?hr ?_;(case ho => rfl);(case hg => rfl);(case hn => rfl);(case hr => first|(go_simp;done)|(go_simp;rfl));intro w8 hw;have hi : IsS52 w0 w8 g s0_0 s0_1 y212:=(by rw [hw];exact IsS52v.put (show IsS52v (.slice A90 s0_2.length c90) w0 _ g s0_0 s0_1 s0_2 from by repeat (first|(with_reducible first|exact HI0.out|apply IsS52v.alloc|apply IsS52v.drewN|apply IsS52v.drew)|exact HI0.out)) (Kd.Q_mono (Kd.Q_lower (Kd.Q_of_R (by (with_reducible repeat (first|apply ra_|apply rb_|apply rc_));exact HO214.out)) HW0.out) (fun _ _ => trivial)));have hb : Below w0.heap.size w0 w8:=(by rw [hw];exact below_set (by repeat (first|(with_reducible first|exact HB.out|apply ba_|apply bb_|apply bc_|refine below_set ?_ (IsS52v.ge HI0.out))|exact HB.out)) (IsS52v.ge HI0.out));have hk : KeepBut w5 w8 g none:=(by rw [hw];exact KeepBut.set_ (KeepBut.refl _ _ _) _ _);have n0_:=ak_ (Kd.R_mono (Kd.R_keep (IsS52v.apart (show IsS52v (.slice A90 s0_2.length c90) w0 _ g s0_0 s0_1 s0_2 from by repeat (first|(with_reducible first|exact HI0.out|apply IsS52v.alloc|apply IsS52v.drewN|apply IsS52v.drew)|exact HI0.out)) (by (with_reducible repeat (first|apply ra_|apply rb_|apply rc_));exact HO214.out) (by decide)) hk (fun _ h => h.2)) (fun _ h => h.1));have n1_:=ak_ (KeepBut.trans (by repeat (first|(with_reducible first|exact HK.out|apply KeepBut.set_|apply keep_drewN|apply keep_drew|apply keep_alloc)|exact HK.out)) hk (.inl rfl));have n2_:=ak_ (hb);have n3_:=ak_ (hi);clear HO214;clear HK;clear HB;clear HI0;have HO214:=n0_;have HK:=n1_;have HB:=n2_;have HI0:=n3_;clear n0_ n1_ n2_ n3_;(try clear hb);(try clear hk);(try clear hi);(try clear hw)))
   first|go_end0|((try simp only [Exit.inBlock,Exit.then]);refine bodyPost_ret (results_none rfl _ _ _) rfl ?_)
   exact ⟨by first|rfl|(simp [errW_none,errW_some] <;> rfl)|(simp [*,errW_none,errW_some] <;> rfl),by repeat (first|(with_reducible first|exact HI0.out|apply IsS52.alloc|apply IsS52.drewN|apply IsS52.drew)|exact HI0.out),by repeat (first|(with_reducible first|exact HB.out|apply ba_|apply bb_|apply bc_|refine below_set ?_ (IsS52.ge HI0.out))|exact HB.out),by repeat (first|(with_reducible first|exact HK.out|apply KeepBut.set_|apply keep_drewN|apply keep_drew|apply keep_alloc)|exact HK.out)⟩
  ·rw [if_neg c3] at H
   exact absurd H (by simp)
 ·rw [if_neg c2] at H
  exact absurd H (by simp)

end Go.Proofs.Ytlmacbiahofmcaa.P
