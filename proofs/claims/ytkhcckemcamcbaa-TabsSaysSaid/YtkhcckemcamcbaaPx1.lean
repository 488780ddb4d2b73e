/- The machine side of the laws of one chapter, without conditions: each call of a Go function comes to what the Lean function of its name answers. Written for this claim by a program of the prover. -/
import Derived.Test.YtkhcckemcamcbaaPx0
namespace Go.Proofs.Ytkhcckemcamcbaa.P
open Go.RowKit Go.Proofs.YtkhcckemcamcbaaW.PrintWords Go.Proofs.YtkhcckemcamcbaaW.PrintLast Go.Proofs.YtkhcckemcamcbaaW.PrintMore
attribute [local go_sem] max2_int min2_int max_two min_two max_three min_three max_four min_four   -- for this text's walks alone
set_option linter.unusedVariables false
set_option linter.unusedSimpArgs false

theorem eqA28 (d : Nat) (w : World) (x0 y0 : Int) (x1 y1 : Int) (x2 y2 : Int) (x3 y3 : Int) (x4 y4 : Int) :
  (Op.equalIn (d + 2) 28 (.agg #[.int .i64 x0,.int .i64 x1,.int .i64 x2,.int .i64 x3,.int .i64 x4]) (.agg #[.int .i64 y0,.int .i64 y1,.int .i64 y2,.int .i64 y3,.int .i64 y4])).run Try.prog w = .ok (x0 == y0 && (x1 == y1 && (x2 == y2 && (x3 == y3 && (x4 == y4))))) w:=by
 obtain ⟨i,hi⟩:=Option.isSome_iff_exists.1 (show (Try.prog.info? 2).isSome = true by kernel_rfl)
 rw [run_equalIn_array w _ _ _ Try.underlying28 hi]
 simp only [show List.range 5 = [0,1,2,3,4] from rfl,Op.eqItems,show Try.prog.cellsOf 2 = 1 by kernel_rfl]
 go_simp
 by_cases h0 : x0 = y0
 case neg => simp [h0]
 by_cases h1 : x1 = y1
 case neg => simp [h0,h1]
 by_cases h2 : x2 = y2
 case neg => simp [h0,h1,h2]
 by_cases h3 : x3 = y3
 case neg => simp [h0,h1,h2,h3]
 by_cases h4 : x4 = y4
 case neg => simp [h0,h1,h2,h3,h4]
 simp [h0,h1,h2,h3,h4]
end Go.Proofs.Ytkhcckemcamcbaa.P
