/-
  No cell of these rows narrows 'for every input' (looked for: loops, veiled, ifaces, maps, wideKeys, modest, calm, conditions, laid).
  DERIVED. THE GIVEN ROWS OF THIS SEAT. 8 by the template 'for every input the law returns true; each argument reads behind the call as it read before'; 0 by the template 'total and deterministic' (their statements: YtlhdoopmlpnhlaaTotals.lean).
  GIVEN WITH THE SEED: the statements are not yours to turn. If you find one false, say at which input.
  Laid BY PROGRAM, IN A SANDBOX (cutbox-rows.mjs): the forced cells as the released guide's own fill.sh prints them over the translation 2c95fd59410947e7… (all of the seat's roots in one cut). By AI agents, Wed Nov 11 2026. No macro, syntax, notation, axiom, sorry.
-/
import Derived.Test.YtlhdoopmlpnhlaaChecked
import GoSem.Claim
import GoSem.ClaimJoined
import GoSem.ClaimMapViews
import Derived.JoinedTies
import Derived.KernelRfl
namespace Go.Proofs.Ytlhdoopmlpnhlaa
/- THE CELL 'sum', in the pinned program and in every row, IS THE sha256 OF THE DUMP (.gsa) THAT YtlhdoopmlpnhlaaProg.lean LOADS. Nothing in Lean hashes anything: it is a label: what it is worth is what the hold of that sum in a sandbox is worth. -/
noncomputable def Try.pinned : Pinned := { name := "ytlhdoopmlpnhlaa", sum := "2c95fd59410947e7de53aa8d3c58c04e9adf59c0d38aaec0910b5c833d53b437", checked := Try.checked }
namespace Rows
def none {H : Type} : Left H := { results := [], args := [] }

/-- 'madrigallaw1.FixKnown': WHATEVER THE INPUT: true; the input reads as it did. -/
def fixKnownSpec : ChangeSpec := { name := "fixKnown", fn := fun _ => fun
  | [] => { results := [.lit (.bool true)], args := [] }
  | _ => none }
def fixKnownRow : OpenClaim := { program := "ytlhdoopmlpnhlaa", sum := "2c95fd59410947e7de53aa8d3c58c04e9adf59c0d38aaec0910b5c833d53b437", func := "madrigal/madrigallaw1.FixKnown", spec := "fixKnown", apart := false }
def FixKnownSaid : Prop := fixKnownRow.holds Try.pinned (OpenSpec.ofChange fixKnownSpec)

/-- ITS FALSE NEIGHBOUR: 'it returns false'. Refute it at one input. -/
def fixKnownWrong : ChangeSpec := { name := "fixKnown", fn := fun _ => fun
  | [] => { results := [.lit (.bool false)], args := [] }
  | _ => none }
def FixKnownWrongFalsely : Prop := fixKnownRow.holds Try.pinned (OpenSpec.ofChange fixKnownWrong)

/-- 'madrigallaw1.FixSays': WHATEVER THE INPUT: true; the input reads as it did. -/
def fixSaysSpec : ChangeSpec := { name := "fixSays", fn := fun _ => fun
  | [d1, d2, d3, d4, d5] => { results := [.lit (.bool true)], args := [d1, d2, d3, d4, d5] }
  | _ => none }
def fixSaysRow : OpenClaim := { program := "ytlhdoopmlpnhlaa", sum := "2c95fd59410947e7de53aa8d3c58c04e9adf59c0d38aaec0910b5c833d53b437", func := "madrigal/madrigallaw1.FixSays", spec := "fixSays", apart := false }
def FixSaysSaid : Prop := fixSaysRow.holds Try.pinned (OpenSpec.ofChange fixSaysSpec)

/-- ITS FALSE NEIGHBOUR: 'it returns false'. Refute it at one input. -/
def fixSaysWrong : ChangeSpec := { name := "fixSays", fn := fun _ => fun
  | [d1, d2, d3, d4, d5] => { results := [.lit (.bool false)], args := [d1, d2, d3, d4, d5] }
  | _ => none }
def FixSaysWrongFalsely : Prop := fixSaysRow.holds Try.pinned (OpenSpec.ofChange fixSaysWrong)

/-- 'madrigallaw1.FixHolds': WHATEVER THE INPUT: true; the input reads as it did. -/
def fixHoldsSpec : ChangeSpec := { name := "fixHolds", fn := fun _ => fun
  | [d1, d2] => { results := [.lit (.bool true)], args := [d1, d2] }
  | _ => none }
def fixHoldsRow : OpenClaim := { program := "ytlhdoopmlpnhlaa", sum := "2c95fd59410947e7de53aa8d3c58c04e9adf59c0d38aaec0910b5c833d53b437", func := "madrigal/madrigallaw1.FixHolds", spec := "fixHolds", apart := false }
def FixHoldsSaid : Prop := fixHoldsRow.holds Try.pinned (OpenSpec.ofChange fixHoldsSpec)

/-- ITS FALSE NEIGHBOUR: 'it returns false'. Refute it at one input. -/
def fixHoldsWrong : ChangeSpec := { name := "fixHolds", fn := fun _ => fun
  | [d1, d2] => { results := [.lit (.bool false)], args := [d1, d2] }
  | _ => none }
def FixHoldsWrongFalsely : Prop := fixHoldsRow.holds Try.pinned (OpenSpec.ofChange fixHoldsWrong)

/-- 'madrigallaw1.FixCircle': WHATEVER THE INPUT: true; the input reads as it did. -/
def fixCircleSpec : ChangeSpec := { name := "fixCircle", fn := fun _ => fun
  | [d] => { results := [.lit (.bool true)], args := [d] }
  | _ => none }
def fixCircleRow : OpenClaim := { program := "ytlhdoopmlpnhlaa", sum := "2c95fd59410947e7de53aa8d3c58c04e9adf59c0d38aaec0910b5c833d53b437", func := "madrigal/madrigallaw1.FixCircle", spec := "fixCircle", apart := false }
def FixCircleSaid : Prop := fixCircleRow.holds Try.pinned (OpenSpec.ofChange fixCircleSpec)

/-- ITS FALSE NEIGHBOUR: 'it returns false'. Refute it at one input. -/
def fixCircleWrong : ChangeSpec := { name := "fixCircle", fn := fun _ => fun
  | [d] => { results := [.lit (.bool false)], args := [d] }
  | _ => none }
def FixCircleWrongFalsely : Prop := fixCircleRow.holds Try.pinned (OpenSpec.ofChange fixCircleWrong)

/-- 'madrigallaw1.FixRises': WHATEVER THE INPUT: true; the input reads as it did. -/
def fixRisesSpec : ChangeSpec := { name := "fixRises", fn := fun _ => fun
  | [d1, d2, d3, d4] => { results := [.lit (.bool true)], args := [d1, d2, d3, d4] }
  | _ => none }
def fixRisesRow : OpenClaim := { program := "ytlhdoopmlpnhlaa", sum := "2c95fd59410947e7de53aa8d3c58c04e9adf59c0d38aaec0910b5c833d53b437", func := "madrigal/madrigallaw1.FixRises", spec := "fixRises", apart := false }
def FixRisesSaid : Prop := fixRisesRow.holds Try.pinned (OpenSpec.ofChange fixRisesSpec)

/-- ITS FALSE NEIGHBOUR: 'it returns false'. Refute it at one input. -/
def fixRisesWrong : ChangeSpec := { name := "fixRises", fn := fun _ => fun
  | [d1, d2, d3, d4] => { results := [.lit (.bool false)], args := [d1, d2, d3, d4] }
  | _ => none }
def FixRisesWrongFalsely : Prop := fixRisesRow.holds Try.pinned (OpenSpec.ofChange fixRisesWrong)

/-- 'madrigallaw1.FixQuotients': WHATEVER THE INPUT: true; the input reads as it did. -/
def fixQuotientsSpec : ChangeSpec := { name := "fixQuotients", fn := fun _ => fun
  | [d1, d2, d3] => { results := [.lit (.bool true)], args := [d1, d2, d3] }
  | _ => none }
def fixQuotientsRow : OpenClaim := { program := "ytlhdoopmlpnhlaa", sum := "2c95fd59410947e7de53aa8d3c58c04e9adf59c0d38aaec0910b5c833d53b437", func := "madrigal/madrigallaw1.FixQuotients", spec := "fixQuotients", apart := false }
def FixQuotientsSaid : Prop := fixQuotientsRow.holds Try.pinned (OpenSpec.ofChange fixQuotientsSpec)

/-- ITS FALSE NEIGHBOUR: 'it returns false'. Refute it at one input. -/
def fixQuotientsWrong : ChangeSpec := { name := "fixQuotients", fn := fun _ => fun
  | [d1, d2, d3] => { results := [.lit (.bool false)], args := [d1, d2, d3] }
  | _ => none }
def FixQuotientsWrongFalsely : Prop := fixQuotientsRow.holds Try.pinned (OpenSpec.ofChange fixQuotientsWrong)

/-- 'madrigallaw1.FixHalves': WHATEVER THE INPUT: true; the input reads as it did. -/
def fixHalvesSpec : ChangeSpec := { name := "fixHalves", fn := fun _ => fun
  | [d1, d2, d3] => { results := [.lit (.bool true)], args := [d1, d2, d3] }
  | _ => none }
def fixHalvesRow : OpenClaim := { program := "ytlhdoopmlpnhlaa", sum := "2c95fd59410947e7de53aa8d3c58c04e9adf59c0d38aaec0910b5c833d53b437", func := "madrigal/madrigallaw1.FixHalves", spec := "fixHalves", apart := false }
def FixHalvesSaid : Prop := fixHalvesRow.holds Try.pinned (OpenSpec.ofChange fixHalvesSpec)

/-- ITS FALSE NEIGHBOUR: 'it returns false'. Refute it at one input. -/
def fixHalvesWrong : ChangeSpec := { name := "fixHalves", fn := fun _ => fun
  | [d1, d2, d3] => { results := [.lit (.bool false)], args := [d1, d2, d3] }
  | _ => none }
def FixHalvesWrongFalsely : Prop := fixHalvesRow.holds Try.pinned (OpenSpec.ofChange fixHalvesWrong)

/-- 'madrigallaw1.FixGroups': WHATEVER THE INPUT: true; the input reads as it did. -/
def fixGroupsSpec : ChangeSpec := { name := "fixGroups", fn := fun _ => fun
  | [d1, d2] => { results := [.lit (.bool true)], args := [d1, d2] }
  | _ => none }
def fixGroupsRow : OpenClaim := { program := "ytlhdoopmlpnhlaa", sum := "2c95fd59410947e7de53aa8d3c58c04e9adf59c0d38aaec0910b5c833d53b437", func := "madrigal/madrigallaw1.FixGroups", spec := "fixGroups", apart := false }
def FixGroupsSaid : Prop := fixGroupsRow.holds Try.pinned (OpenSpec.ofChange fixGroupsSpec)

/-- ITS FALSE NEIGHBOUR: 'it returns false'. Refute it at one input. -/
def fixGroupsWrong : ChangeSpec := { name := "fixGroups", fn := fun _ => fun
  | [d1, d2] => { results := [.lit (.bool false)], args := [d1, d2] }
  | _ => none }
def FixGroupsWrongFalsely : Prop := fixGroupsRow.holds Try.pinned (OpenSpec.ofChange fixGroupsWrong)

/- THE SECOND FORM. 'bulk': how many values and letters a reading holds, each counted each time it is reached (what is shared counts as often as it is met; a slice's spare places count too). A statement '..UptoSaid' is the law's where the arguments, and the package variables that the reading takes, are together of bulk at most 1048576: NARROWER than '..Said'. Prove '..Said' where nothing that the law and all that it calls make is longer than what came in: it says more and counts as full. Else prove '..UptoSaid'. A law counts once. -/
mutual
def uptoBulk {H : Type} : DataW H → Nat
  | .lit (.string bytes) => bytes.length + 1
  | .lit _ => 1
  | .nil => 1
  | .ptr d => uptoBulk d + 1
  | .slice elems spare => uptoBulkAll elems + uptoBulkAll spare + 1
  | .agg parts => uptoBulkAll parts + 1
  | .iface _ d => uptoBulk d + 1
  | .map entries => uptoBulkEntries entries + 1
  | .held _ => 1
def uptoBulkAll {H : Type} : List (DataW H) → Nat
  | [] => 0
  | d :: r => uptoBulk d + uptoBulkAll r
def uptoBulkEntries {H : Type} : List (Lit × DataW H) → Nat
  | [] => 0
  | x :: r => uptoBulkEntry x + uptoBulkEntries r
def uptoBulkEntry {H : Type} : Lit × DataW H → Nat
  | (.string bytes, d) => bytes.length + uptoBulk d + 1
  | (_, d) => uptoBulk d + 1
 end
def uptoSmall : (H : Type) → List (DataW H) → Bool := fun _ ds => decide (uptoBulkAll ds ≤ 1048576)
def OpenSpec.upto (s : _root_.Go.ChangeSpec) : _root_.Go.OpenSpec := { _root_.Go.OpenSpec.ofChange s with cond := some uptoSmall }

/-- 'madrigallaw1.FixKnown', WHERE WHAT IT READS IS OF BULK AT MOST 1048576: true; the input reads as it did. -/
def fixKnownUptoRow : OpenClaim := { program := "ytlhdoopmlpnhlaa", sum := "2c95fd59410947e7de53aa8d3c58c04e9adf59c0d38aaec0910b5c833d53b437", func := "madrigal/madrigallaw1.FixKnown", spec := "fixKnown", apart := false, narrowed := true }
def FixKnownUptoSaid : Prop := fixKnownUptoRow.holds Try.pinned (OpenSpec.upto fixKnownSpec)

/-- 'madrigallaw1.FixSays', WHERE WHAT IT READS IS OF BULK AT MOST 1048576: true; the input reads as it did. -/
def fixSaysUptoRow : OpenClaim := { program := "ytlhdoopmlpnhlaa", sum := "2c95fd59410947e7de53aa8d3c58c04e9adf59c0d38aaec0910b5c833d53b437", func := "madrigal/madrigallaw1.FixSays", spec := "fixSays", apart := false, narrowed := true }
def FixSaysUptoSaid : Prop := fixSaysUptoRow.holds Try.pinned (OpenSpec.upto fixSaysSpec)

/-- 'madrigallaw1.FixHolds', WHERE WHAT IT READS IS OF BULK AT MOST 1048576: true; the input reads as it did. -/
def fixHoldsUptoRow : OpenClaim := { program := "ytlhdoopmlpnhlaa", sum := "2c95fd59410947e7de53aa8d3c58c04e9adf59c0d38aaec0910b5c833d53b437", func := "madrigal/madrigallaw1.FixHolds", spec := "fixHolds", apart := false, narrowed := true }
def FixHoldsUptoSaid : Prop := fixHoldsUptoRow.holds Try.pinned (OpenSpec.upto fixHoldsSpec)

/-- 'madrigallaw1.FixCircle', WHERE WHAT IT READS IS OF BULK AT MOST 1048576: true; the input reads as it did. -/
def fixCircleUptoRow : OpenClaim := { program := "ytlhdoopmlpnhlaa", sum := "2c95fd59410947e7de53aa8d3c58c04e9adf59c0d38aaec0910b5c833d53b437", func := "madrigal/madrigallaw1.FixCircle", spec := "fixCircle", apart := false, narrowed := true }
def FixCircleUptoSaid : Prop := fixCircleUptoRow.holds Try.pinned (OpenSpec.upto fixCircleSpec)

/-- 'madrigallaw1.FixRises', WHERE WHAT IT READS IS OF BULK AT MOST 1048576: true; the input reads as it did. -/
def fixRisesUptoRow : OpenClaim := { program := "ytlhdoopmlpnhlaa", sum := "2c95fd59410947e7de53aa8d3c58c04e9adf59c0d38aaec0910b5c833d53b437", func := "madrigal/madrigallaw1.FixRises", spec := "fixRises", apart := false, narrowed := true }
def FixRisesUptoSaid : Prop := fixRisesUptoRow.holds Try.pinned (OpenSpec.upto fixRisesSpec)

/-- 'madrigallaw1.FixQuotients', WHERE WHAT IT READS IS OF BULK AT MOST 1048576: true; the input reads as it did. -/
def fixQuotientsUptoRow : OpenClaim := { program := "ytlhdoopmlpnhlaa", sum := "2c95fd59410947e7de53aa8d3c58c04e9adf59c0d38aaec0910b5c833d53b437", func := "madrigal/madrigallaw1.FixQuotients", spec := "fixQuotients", apart := false, narrowed := true }
def FixQuotientsUptoSaid : Prop := fixQuotientsUptoRow.holds Try.pinned (OpenSpec.upto fixQuotientsSpec)

/-- 'madrigallaw1.FixHalves', WHERE WHAT IT READS IS OF BULK AT MOST 1048576: true; the input reads as it did. -/
def fixHalvesUptoRow : OpenClaim := { program := "ytlhdoopmlpnhlaa", sum := "2c95fd59410947e7de53aa8d3c58c04e9adf59c0d38aaec0910b5c833d53b437", func := "madrigal/madrigallaw1.FixHalves", spec := "fixHalves", apart := false, narrowed := true }
def FixHalvesUptoSaid : Prop := fixHalvesUptoRow.holds Try.pinned (OpenSpec.upto fixHalvesSpec)

/-- 'madrigallaw1.FixGroups', WHERE WHAT IT READS IS OF BULK AT MOST 1048576: true; the input reads as it did. -/
def fixGroupsUptoRow : OpenClaim := { program := "ytlhdoopmlpnhlaa", sum := "2c95fd59410947e7de53aa8d3c58c04e9adf59c0d38aaec0910b5c833d53b437", func := "madrigal/madrigallaw1.FixGroups", spec := "fixGroups", apart := false, narrowed := true }
def FixGroupsUptoSaid : Prop := fixGroupsUptoRow.holds Try.pinned (OpenSpec.upto fixGroupsSpec)

end Rows
end Go.Proofs.Ytlhdoopmlpnhlaa
