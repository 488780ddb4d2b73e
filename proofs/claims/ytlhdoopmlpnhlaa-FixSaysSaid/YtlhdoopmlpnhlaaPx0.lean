/- The machine side of the laws of one chapter, without conditions: each call of a Go function comes to what the Lean function of its name answers. Written for this claim by a program of the prover. -/
import Derived.Test.YtlhdoopmlpnhlaaProg
import Derived.Below
import Derived.Deep.Draws
import Derived.Deep.AppendLies
import Derived.Maps.AppendAt
import Derived.OwnWalk
import Derived.Laws.BytesArg
import Derived.Laws.MakeOwn
import Derived.Laws.OwnMore
import Derived.Deep.OwnRows
import Derived.Tactics
import Derived.Lib.ConvBytes
import Derived.Laws.Slices
import Derived.WalkKit
import Derived.KernelRfl
import Derived.RowKit3
import Derived.Deep.LoopGhost
import Derived.Deep.QuietTactic
import Derived.BigQuiet
import Derived.WideLaws
import Derived.Deep.DeepCutAuto
import Derived.Deep.CutBlock
import Derived.Deep.RegionHeld3
import Derived.Laws.Rows
import Derived.Lib.AppendStr
import Derived.ArgAppend
import Derived.Laws.IdiomCopy
import Derived.OrdersHeld
import Derived.Laws.BitsLemmas
import Derived.RowKit
import Derived.Test.YtlhdoopmlpnhlaaWWords
import Derived.Test.YtlhdoopmlpnhlaaWLast
import Derived.Test.YtlhdoopmlpnhlaaWTab
import Derived.Test.YtlhdoopmlpnhlaaWFour
import Derived.Test.YtlhdoopmlpnhlaaWQPut
import Derived.Test.YtlhdoopmlpnhlaaWApart
import Derived.Test.YtlhdoopmlpnhlaaWArr
import Derived.Test.YtlhdoopmlpnhlaaWZeros
import Derived.Test.YtlhdoopmlpnhlaaWFoot
import Derived.Test.YtlhdoopmlpnhlaaWKept
import Derived.Test.YtlhdoopmlpnhlaaWShare
import Derived.Test.YtlhdoopmlpnhlaaWN
import Derived.Test.YtlhdoopmlpnhlaaWFootNe
import Derived.Test.YtlhdoopmlpnhlaaWAt
import Derived.Test.YtlhdoopmlpnhlaaWEqStruct
import Derived.Test.YtlhdoopmlpnhlaaWRepsOne
import Derived.Test.YtlhdoopmlpnhlaaWInv
import Derived.Test.YtlhdoopmlpnhlaaWInvWords
import Derived.Test.YtlhdoopmlpnhlaaWGuard
import Derived.Test.YtlhdoopmlpnhlaaWNEv
import Derived.Test.YtlhdoopmlpnhlaaWMore
namespace Go.Proofs.Ytlhdoopmlpnhlaa.P
open Go.RowKit Go.Proofs.YtlhdoopmlpnhlaaW.PrintWords Go.Proofs.YtlhdoopmlpnhlaaW.PrintLast Go.Proofs.YtlhdoopmlpnhlaaW.PrintMore
attribute [local go_sem] max2_int min2_int max_two min_two max_three min_three max_four min_four   -- for this text's walks alone
set_option linter.unusedVariables false
set_option linter.unusedSimpArgs false



def errW : Option Int → Value
  | none => .nilIface
  | some c => .iface 0 (.int .i64 c)
theorem errW_none : errW none = .nilIface := rfl
theorem errW_some (c : Int) : errW (some c) = .iface 0 (.int .i64 c) := rfl

theorem info2 : (Try.prog.info? 2).map (fun i => (i.zero, i.size, i.bytes)) = some (some (.int .i64 0), 1, 8) := by kernel_rfl
-- the values' own types

end Go.Proofs.Ytlhdoopmlpnhlaa.P
