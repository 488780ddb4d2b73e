/- The machine side of the laws of one chapter, without conditions: each call of a Go function comes to what the Lean function of its name answers. Written for this claim by a program of the prover. -/
import Derived.Test.YtdchabinakboeaaPx0
import Derived.Test.YtdchabinakboeaaPx6
namespace Go.Proofs.Ytdchabinakboeaa.P
open Go.RowKit Go.Proofs.YtdchabinakboeaaW.PrintWords Go.Proofs.YtdchabinakboeaaW.PrintLast Go.Proofs.YtdchabinakboeaaW.PrintMore
attribute [local go_sem] max2_int min2_int max_two min_two max_three min_three max_four min_four   -- for this text's walks alone
set_option linter.unusedVariables false
set_option linter.unusedSimpArgs false

/-! ### vad_Meter_Floor: function 21 -/
def vad_Meter_Floor.f (s0_0 : Int) (s0_1 : Int) : Option (Int × Int × Int):=some (s0_0,s0_0,s0_1)
set_option maxHeartbeats 8000000 in
set_option maxRecDepth 100000 in
theorem vad_Meter_Floor.calls (g : Nat) (s0_0 : Int) (s0_1 : Int) (r1 : Int) (r2 : Int) (r3 : Int) (w0 w : World) (hI : IsS62 w0 w g s0_0 s0_1) (hB : Below w0.heap.size w0 w) (h : vad_Meter_Floor.f s0_0 s0_1 = some (r1,r2,r3)) :
  Calls Try.prog 21 #[.pointer (some ⟨g,0,none⟩)] w fun e w' => e = .returned (.int .i64 r1) ∧ IsS62 w0 w' g r2 r3 ∧ Below w0.heap.size w0 w' ∧ KeepBut w w' g none:=by
 have HI0:=ak_ hI
 have HK:=ak_ (KeepBut.refl w g none)
 have HL:=ak_ hB.size
 clear hI
 have HW0:=ak_ hB.size
 have HB:=ak_ hB
 clear hB
 have H : (some (s0_0,s0_0,s0_1)) = some (r1,r2,r3):=h
 clear h
 simp only [Option.some.injEq,Prod.mk.injEq] at H
 obtain ⟨rfl,rfl,rfl⟩:=H
 obtain ⟨HGz2,hgz2⟩:=HI0.out
 have hcz2_0:=cellS62_0 HGz2
 have hcz2_1:=cellS62_1 HGz2
 have hfz2_0:=blk_frozen HGz2 0
 have hfz2_1:=blk_frozen HGz2 1
 clear HGz2 hgz2
 go_enter Try.func21,Try.ntmps21
 go_wp2
 go_ret
 exact ⟨by first|rfl|(simp [errW_none,errW_some] <;> rfl)|(simp [*,errW_none,errW_some] <;> rfl),by repeat (first|(with_reducible first|exact HI0.out|apply IsS62.alloc|apply IsS62.drewN|apply IsS62.drew|apply IsS62.set_0|apply IsS62.set_1)|exact HI0.out),by repeat (first|(with_reducible first|exact HB.out|apply ba_|apply bb_|apply bc_|refine below_set ?_ (IsS62.ge HI0.out))|exact HB.out),by repeat (first|(with_reducible first|exact HK.out|apply KeepBut.set_|apply keep_drewN|apply keep_drew|apply keep_alloc)|exact HK.out)⟩

end Go.Proofs.Ytdchabinakboeaa.P
