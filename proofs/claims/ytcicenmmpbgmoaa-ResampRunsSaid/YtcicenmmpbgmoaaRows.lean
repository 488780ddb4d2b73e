/-
  No cell of these rows narrows 'for every input' (looked for: loops, veiled, ifaces, maps, wideKeys, modest, calm, conditions, laid).
  DERIVED. THE GIVEN ROWS OF THIS SEAT. 8 by the template 'for every input the law returns true; each argument reads behind the call as it read before'; 0 by the template 'total and deterministic' (their statements: YtcicenmmpbgmoaaTotals.lean).
  GIVEN WITH THE SEED: the statements are not yours to turn. If you find one false, say at which input.
  Laid BY PROGRAM, IN A SANDBOX (cutbox-rows.mjs): the forced cells as the released guide's own fill.sh prints them over the translation f58aa01bac927694… (all of the seat's roots in one cut). By AI agents, Wed Nov 11 2026. No macro, syntax, notation, axiom, sorry.
-/
import Derived.Test.YtcicenmmpbgmoaaChecked
import GoSem.Claim
import GoSem.ClaimJoined
import GoSem.ClaimMapViews
import Derived.JoinedTies
import Derived.KernelRfl
namespace Go.Proofs.Ytcicenmmpbgmoaa
/- THE CELL 'sum', in the pinned program and in every row, IS THE sha256 OF THE DUMP (.gsa) THAT YtcicenmmpbgmoaaProg.lean LOADS. Nothing in Lean hashes anything: it is a label: what it is worth is what the hold of that sum in a sandbox is worth. -/
noncomputable def Try.pinned : Pinned := { name := "ytcicenmmpbgmoaa", sum := "f58aa01bac927694e2bba4b7a75c2f812dc115d84a5ce09e8565fe8a2009d15f", checked := Try.checked }
namespace Rows
def none {H : Type} : Left H := { results := [], args := [] }

/-- 'madrigallaw22.ResampKnown': WHATEVER THE INPUT: true; the input reads as it did. -/
def resampKnownSpec : ChangeSpec := { name := "resampKnown", fn := fun _ => fun
  | [] => { results := [.lit (.bool true)], args := [] }
  | _ => none }
def resampKnownRow : OpenClaim := { program := "ytcicenmmpbgmoaa", sum := "f58aa01bac927694e2bba4b7a75c2f812dc115d84a5ce09e8565fe8a2009d15f", func := "madrigal/madrigallaw22.ResampKnown", spec := "resampKnown", apart := false }
def ResampKnownSaid : Prop := resampKnownRow.holds Try.pinned (OpenSpec.ofChange resampKnownSpec)

/-- ITS FALSE NEIGHBOUR: 'it returns false'. Refute it at one input. -/
def resampKnownWrong : ChangeSpec := { name := "resampKnown", fn := fun _ => fun
  | [] => { results := [.lit (.bool false)], args := [] }
  | _ => none }
def ResampKnownWrongFalsely : Prop := resampKnownRow.holds Try.pinned (OpenSpec.ofChange resampKnownWrong)

/-- 'madrigallaw22.ResampFilters': WHATEVER THE INPUT: true; the input reads as it did. -/
def resampFiltersSpec : ChangeSpec := { name := "resampFilters", fn := fun _ => fun
  | [d1, d2, d3] => { results := [.lit (.bool true)], args := [d1, d2, d3] }
  | _ => none }
def resampFiltersRow : OpenClaim := { program := "ytcicenmmpbgmoaa", sum := "f58aa01bac927694e2bba4b7a75c2f812dc115d84a5ce09e8565fe8a2009d15f", func := "madrigal/madrigallaw22.ResampFilters", spec := "resampFilters", apart := false }
def ResampFiltersSaid : Prop := resampFiltersRow.holds Try.pinned (OpenSpec.ofChange resampFiltersSpec)

/-- ITS FALSE NEIGHBOUR: 'it returns false'. Refute it at one input. -/
def resampFiltersWrong : ChangeSpec := { name := "resampFilters", fn := fun _ => fun
  | [d1, d2, d3] => { results := [.lit (.bool false)], args := [d1, d2, d3] }
  | _ => none }
def ResampFiltersWrongFalsely : Prop := resampFiltersRow.holds Try.pinned (OpenSpec.ofChange resampFiltersWrong)

/-- 'madrigallaw22.ResampRuns': WHATEVER THE INPUT: true; the input reads as it did. -/
def resampRunsSpec : ChangeSpec := { name := "resampRuns", fn := fun _ => fun
  | [d1, d2, d3] => { results := [.lit (.bool true)], args := [d1, d2, d3] }
  | _ => none }
def resampRunsRow : OpenClaim := { program := "ytcicenmmpbgmoaa", sum := "f58aa01bac927694e2bba4b7a75c2f812dc115d84a5ce09e8565fe8a2009d15f", func := "madrigal/madrigallaw22.ResampRuns", spec := "resampRuns", apart := false }
def ResampRunsSaid : Prop := resampRunsRow.holds Try.pinned (OpenSpec.ofChange resampRunsSpec)

/-- ITS FALSE NEIGHBOUR: 'it returns false'. Refute it at one input. -/
def resampRunsWrong : ChangeSpec := { name := "resampRuns", fn := fun _ => fun
  | [d1, d2, d3] => { results := [.lit (.bool false)], args := [d1, d2, d3] }
  | _ => none }
def ResampRunsWrongFalsely : Prop := resampRunsRow.holds Try.pinned (OpenSpec.ofChange resampRunsWrong)

/-- 'madrigallaw22.ResampCuts': WHATEVER THE INPUT: true; the input reads as it did. -/
def resampCutsSpec : ChangeSpec := { name := "resampCuts", fn := fun _ => fun
  | [d1, d2, d3, d4] => { results := [.lit (.bool true)], args := [d1, d2, d3, d4] }
  | _ => none }
def resampCutsRow : OpenClaim := { program := "ytcicenmmpbgmoaa", sum := "f58aa01bac927694e2bba4b7a75c2f812dc115d84a5ce09e8565fe8a2009d15f", func := "madrigal/madrigallaw22.ResampCuts", spec := "resampCuts", apart := false }
def ResampCutsSaid : Prop := resampCutsRow.holds Try.pinned (OpenSpec.ofChange resampCutsSpec)

/-- ITS FALSE NEIGHBOUR: 'it returns false'. Refute it at one input. -/
def resampCutsWrong : ChangeSpec := { name := "resampCuts", fn := fun _ => fun
  | [d1, d2, d3, d4] => { results := [.lit (.bool false)], args := [d1, d2, d3, d4] }
  | _ => none }
def ResampCutsWrongFalsely : Prop := resampCutsRow.holds Try.pinned (OpenSpec.ofChange resampCutsWrong)

/-- 'madrigallaw22.ResampConstant': WHATEVER THE INPUT: true; the input reads as it did. -/
def resampConstantSpec : ChangeSpec := { name := "resampConstant", fn := fun _ => fun
  | [d1, d2, d3, d4] => { results := [.lit (.bool true)], args := [d1, d2, d3, d4] }
  | _ => none }
def resampConstantRow : OpenClaim := { program := "ytcicenmmpbgmoaa", sum := "f58aa01bac927694e2bba4b7a75c2f812dc115d84a5ce09e8565fe8a2009d15f", func := "madrigal/madrigallaw22.ResampConstant", spec := "resampConstant", apart := false }
def ResampConstantSaid : Prop := resampConstantRow.holds Try.pinned (OpenSpec.ofChange resampConstantSpec)

/-- ITS FALSE NEIGHBOUR: 'it returns false'. Refute it at one input. -/
def resampConstantWrong : ChangeSpec := { name := "resampConstant", fn := fun _ => fun
  | [d1, d2, d3, d4] => { results := [.lit (.bool false)], args := [d1, d2, d3, d4] }
  | _ => none }
def ResampConstantWrongFalsely : Prop := resampConstantRow.holds Try.pinned (OpenSpec.ofChange resampConstantWrong)

/-- 'madrigallaw22.ResampSilence': WHATEVER THE INPUT: true; the input reads as it did. -/
def resampSilenceSpec : ChangeSpec := { name := "resampSilence", fn := fun _ => fun
  | [d1, d2, d3] => { results := [.lit (.bool true)], args := [d1, d2, d3] }
  | _ => none }
def resampSilenceRow : OpenClaim := { program := "ytcicenmmpbgmoaa", sum := "f58aa01bac927694e2bba4b7a75c2f812dc115d84a5ce09e8565fe8a2009d15f", func := "madrigal/madrigallaw22.ResampSilence", spec := "resampSilence", apart := false }
def ResampSilenceSaid : Prop := resampSilenceRow.holds Try.pinned (OpenSpec.ofChange resampSilenceSpec)

/-- ITS FALSE NEIGHBOUR: 'it returns false'. Refute it at one input. -/
def resampSilenceWrong : ChangeSpec := { name := "resampSilence", fn := fun _ => fun
  | [d1, d2, d3] => { results := [.lit (.bool false)], args := [d1, d2, d3] }
  | _ => none }
def ResampSilenceWrongFalsely : Prop := resampSilenceRow.holds Try.pinned (OpenSpec.ofChange resampSilenceWrong)

/-- 'madrigallaw22.ResampReset': WHATEVER THE INPUT: true; the input reads as it did. -/
def resampResetSpec : ChangeSpec := { name := "resampReset", fn := fun _ => fun
  | [d1, d2, d3, d4] => { results := [.lit (.bool true)], args := [d1, d2, d3, d4] }
  | _ => none }
def resampResetRow : OpenClaim := { program := "ytcicenmmpbgmoaa", sum := "f58aa01bac927694e2bba4b7a75c2f812dc115d84a5ce09e8565fe8a2009d15f", func := "madrigal/madrigallaw22.ResampReset", spec := "resampReset", apart := false }
def ResampResetSaid : Prop := resampResetRow.holds Try.pinned (OpenSpec.ofChange resampResetSpec)

/-- ITS FALSE NEIGHBOUR: 'it returns false'. Refute it at one input. -/
def resampResetWrong : ChangeSpec := { name := "resampReset", fn := fun _ => fun
  | [d1, d2, d3, d4] => { results := [.lit (.bool false)], args := [d1, d2, d3, d4] }
  | _ => none }
def ResampResetWrongFalsely : Prop := resampResetRow.holds Try.pinned (OpenSpec.ofChange resampResetWrong)

/-- 'madrigallaw22.ResampOne': WHATEVER THE INPUT: true; the input reads as it did. -/
def resampOneSpec : ChangeSpec := { name := "resampOne", fn := fun _ => fun
  | [d1, d2, d3] => { results := [.lit (.bool true)], args := [d1, d2, d3] }
  | _ => none }
def resampOneRow : OpenClaim := { program := "ytcicenmmpbgmoaa", sum := "f58aa01bac927694e2bba4b7a75c2f812dc115d84a5ce09e8565fe8a2009d15f", func := "madrigal/madrigallaw22.ResampOne", spec := "resampOne", apart := false }
def ResampOneSaid : Prop := resampOneRow.holds Try.pinned (OpenSpec.ofChange resampOneSpec)

/-- ITS FALSE NEIGHBOUR: 'it returns false'. Refute it at one input. -/
def resampOneWrong : ChangeSpec := { name := "resampOne", fn := fun _ => fun
  | [d1, d2, d3] => { results := [.lit (.bool false)], args := [d1, d2, d3] }
  | _ => none }
def ResampOneWrongFalsely : Prop := resampOneRow.holds Try.pinned (OpenSpec.ofChange resampOneWrong)

/- THE SECOND FORM. 'bulk': how many values and letters a reading holds, each counted each time it is reached (what is shared counts as often as it is met; a slice's spare places count too). A statement '..UptoSaid' is the law's where the arguments, and the package variables that the reading takes, are together of bulk at most 1048576: NARROWER than '..Said'. Prove '..Said' where nothing that the law and all that it calls make is longer than what came in: it says more and counts as full. Else prove '..UptoSaid'. A law counts once. -/
mutual
def uptoBulk {H : Type} : DataW H → Nat
  | .lit (.string bytes) => bytes.length + 1
  | .lit _ => 1
  | .nil => 1
  | .ptr d => uptoBulk d + 1
  | .slice elems spare => uptoBulkAll elems + uptoBulkAll spare + 1
  | .agg parts => uptoBulkAll parts + 1
  | .iface _ d => uptoBulk d + 1
  | .map entries => uptoBulkEntries entries + 1
  | .held _ => 1
def uptoBulkAll {H : Type} : List (DataW H) → Nat
  | [] => 0
  | d :: r => uptoBulk d + uptoBulkAll r
def uptoBulkEntries {H : Type} : List (Lit × DataW H) → Nat
  | [] => 0
  | x :: r => uptoBulkEntry x + uptoBulkEntries r
def uptoBulkEntry {H : Type} : Lit × DataW H → Nat
  | (.string bytes, d) => bytes.length + uptoBulk d + 1
  | (_, d) => uptoBulk d + 1
 end
def uptoSmall : (H : Type) → List (DataW H) → Bool := fun _ ds => decide (uptoBulkAll ds ≤ 1048576)
def OpenSpec.upto (s : _root_.Go.ChangeSpec) : _root_.Go.OpenSpec := { _root_.Go.OpenSpec.ofChange s with cond := some uptoSmall }

/-- 'madrigallaw22.ResampKnown', WHERE WHAT IT READS IS OF BULK AT MOST 1048576: true; the input reads as it did. -/
def resampKnownUptoRow : OpenClaim := { program := "ytcicenmmpbgmoaa", sum := "f58aa01bac927694e2bba4b7a75c2f812dc115d84a5ce09e8565fe8a2009d15f", func := "madrigal/madrigallaw22.ResampKnown", spec := "resampKnown", apart := false, narrowed := true }
def ResampKnownUptoSaid : Prop := resampKnownUptoRow.holds Try.pinned (OpenSpec.upto resampKnownSpec)

/-- 'madrigallaw22.ResampFilters', WHERE WHAT IT READS IS OF BULK AT MOST 1048576: true; the input reads as it did. -/
def resampFiltersUptoRow : OpenClaim := { program := "ytcicenmmpbgmoaa", sum := "f58aa01bac927694e2bba4b7a75c2f812dc115d84a5ce09e8565fe8a2009d15f", func := "madrigal/madrigallaw22.ResampFilters", spec := "resampFilters", apart := false, narrowed := true }
def ResampFiltersUptoSaid : Prop := resampFiltersUptoRow.holds Try.pinned (OpenSpec.upto resampFiltersSpec)

/-- 'madrigallaw22.ResampRuns', WHERE WHAT IT READS IS OF BULK AT MOST 1048576: true; the input reads as it did. -/
def resampRunsUptoRow : OpenClaim := { program := "ytcicenmmpbgmoaa", sum := "f58aa01bac927694e2bba4b7a75c2f812dc115d84a5ce09e8565fe8a2009d15f", func := "madrigal/madrigallaw22.ResampRuns", spec := "resampRuns", apart := false, narrowed := true }
def ResampRunsUptoSaid : Prop := resampRunsUptoRow.holds Try.pinned (OpenSpec.upto resampRunsSpec)

/-- 'madrigallaw22.ResampCuts', WHERE WHAT IT READS IS OF BULK AT MOST 1048576: true; the input reads as it did. -/
def resampCutsUptoRow : OpenClaim := { program := "ytcicenmmpbgmoaa", sum := "f58aa01bac927694e2bba4b7a75c2f812dc115d84a5ce09e8565fe8a2009d15f", func := "madrigal/madrigallaw22.ResampCuts", spec := "resampCuts", apart := false, narrowed := true }
def ResampCutsUptoSaid : Prop := resampCutsUptoRow.holds Try.pinned (OpenSpec.upto resampCutsSpec)

/-- 'madrigallaw22.ResampConstant', WHERE WHAT IT READS IS OF BULK AT MOST 1048576: true; the input reads as it did. -/
def resampConstantUptoRow : OpenClaim := { program := "ytcicenmmpbgmoaa", sum := "f58aa01bac927694e2bba4b7a75c2f812dc115d84a5ce09e8565fe8a2009d15f", func := "madrigal/madrigallaw22.ResampConstant", spec := "resampConstant", apart := false, narrowed := true }
def ResampConstantUptoSaid : Prop := resampConstantUptoRow.holds Try.pinned (OpenSpec.upto resampConstantSpec)

/-- 'madrigallaw22.ResampSilence', WHERE WHAT IT READS IS OF BULK AT MOST 1048576: true; the input reads as it did. -/
def resampSilenceUptoRow : OpenClaim := { program := "ytcicenmmpbgmoaa", sum := "f58aa01bac927694e2bba4b7a75c2f812dc115d84a5ce09e8565fe8a2009d15f", func := "madrigal/madrigallaw22.ResampSilence", spec := "resampSilence", apart := false, narrowed := true }
def ResampSilenceUptoSaid : Prop := resampSilenceUptoRow.holds Try.pinned (OpenSpec.upto resampSilenceSpec)

/-- 'madrigallaw22.ResampReset', WHERE WHAT IT READS IS OF BULK AT MOST 1048576: true; the input reads as it did. -/
def resampResetUptoRow : OpenClaim := { program := "ytcicenmmpbgmoaa", sum := "f58aa01bac927694e2bba4b7a75c2f812dc115d84a5ce09e8565fe8a2009d15f", func := "madrigal/madrigallaw22.ResampReset", spec := "resampReset", apart := false, narrowed := true }
def ResampResetUptoSaid : Prop := resampResetUptoRow.holds Try.pinned (OpenSpec.upto resampResetSpec)

/-- 'madrigallaw22.ResampOne', WHERE WHAT IT READS IS OF BULK AT MOST 1048576: true; the input reads as it did. -/
def resampOneUptoRow : OpenClaim := { program := "ytcicenmmpbgmoaa", sum := "f58aa01bac927694e2bba4b7a75c2f812dc115d84a5ce09e8565fe8a2009d15f", func := "madrigal/madrigallaw22.ResampOne", spec := "resampOne", apart := false, narrowed := true }
def ResampOneUptoSaid : Prop := resampOneUptoRow.holds Try.pinned (OpenSpec.upto resampOneSpec)

end Rows
end Go.Proofs.Ytcicenmmpbgmoaa
