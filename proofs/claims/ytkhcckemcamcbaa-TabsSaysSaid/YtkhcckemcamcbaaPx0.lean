/- The machine side of the laws of one chapter, without conditions: each call of a Go function comes to what the Lean function of its name answers. Written for this claim by a program of the prover. -/
import Derived.Test.YtkhcckemcamcbaaProg
import Derived.Below
import Derived.Deep.Draws
import Derived.Deep.AppendLies
import Derived.Maps.AppendAt
import Derived.OwnWalk
import Derived.Laws.BytesArg
import Derived.Laws.MakeOwn
import Derived.Laws.OwnMore
import Derived.Deep.OwnRows
import Derived.Tactics
import Derived.Lib.ConvBytes
import Derived.Laws.Slices
import Derived.WalkKit
import Derived.KernelRfl
import Derived.RowKit3
import Derived.Deep.LoopGhost
import Derived.Deep.QuietTactic
import Derived.BigQuiet
import Derived.WideLaws
import Derived.Deep.DeepCutAuto
import Derived.Deep.CutBlock
import Derived.Deep.RegionHeld3
import Derived.Laws.Rows
import Derived.Lib.AppendStr
import Derived.ArgAppend
import Derived.Laws.IdiomCopy
import Derived.OrdersHeld
import Derived.Laws.BitsLemmas
import Derived.RowKit
import Derived.Laws.Tables
import Derived.Test.YtkhcckemcamcbaaWWords
import Derived.Test.YtkhcckemcamcbaaWLast
import Derived.Test.YtkhcckemcamcbaaWTab
import Derived.Test.YtkhcckemcamcbaaWFour
import Derived.Test.YtkhcckemcamcbaaWQPut
import Derived.Test.YtkhcckemcamcbaaWApart
import Derived.Test.YtkhcckemcamcbaaWArr
import Derived.Test.YtkhcckemcamcbaaWZeros
import Derived.Test.YtkhcckemcamcbaaWFoot
import Derived.Test.YtkhcckemcamcbaaWKept
import Derived.Test.YtkhcckemcamcbaaWShare
import Derived.Test.YtkhcckemcamcbaaWN
import Derived.Test.YtkhcckemcamcbaaWFootNe
import Derived.Test.YtkhcckemcamcbaaWAt
import Derived.Test.YtkhcckemcamcbaaWEqStruct
import Derived.Test.YtkhcckemcamcbaaWRepsOne
import Derived.Test.YtkhcckemcamcbaaWInv
import Derived.Test.YtkhcckemcamcbaaWInvWords
import Derived.Test.YtkhcckemcamcbaaWGuard
import Derived.Test.YtkhcckemcamcbaaWNEv
import Derived.Test.YtkhcckemcamcbaaWMore
namespace Go.Proofs.Ytkhcckemcamcbaa.P
open Go.RowKit Go.Proofs.YtkhcckemcamcbaaW.PrintWords Go.Proofs.YtkhcckemcamcbaaW.PrintLast Go.Proofs.YtkhcckemcamcbaaW.PrintMore
attribute [local go_sem] max2_int min2_int max_two min_two max_three min_three max_four min_four   -- for this text's walks alone
set_option linter.unusedVariables false
set_option linter.unusedSimpArgs false



def errW : Option Int → Value
 | none => .nilIface
 | some c => .iface 0 (.int .i64 c)
theorem errW_none : errW none = .nilIface:=rfl
theorem errW_some (c : Int) : errW (some c) = .iface 0 (.int .i64 c):=rfl

theorem info2 : (Try.prog.info? 2).map (fun i => (i.zero,i.size,i.bytes)) = some (some (.int .i64 0),1,8):=by kernel_rfl
theorem info3 : (Try.prog.info? 3).map (fun i => (i.zero,i.size,i.bytes)) = some (some (.int .i64 0),1,8):=by kernel_rfl
-- the values' own types
theorem ak_ {p : Prop} (h : p) : Aside0 p := Aside0.mk h
abbrev ra_ := @Kd.R_alloc
abbrev rb_ := @Kd.R_drewN
abbrev rc_ := @Kd.R_drew
abbrev ba_ := @below_alloc
abbrev bb_ := @pw_below_drewN
abbrev bc_ := @below_drew1

end Go.Proofs.Ytkhcckemcamcbaa.P
