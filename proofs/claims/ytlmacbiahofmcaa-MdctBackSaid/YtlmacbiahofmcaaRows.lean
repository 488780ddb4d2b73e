/-
  No cell of these rows narrows 'for every input' (looked for: loops, veiled, ifaces, maps, wideKeys, modest, calm, conditions, laid).
  DERIVED. THE GIVEN ROWS OF THIS SEAT. 6 by the template 'for every input the law returns true; each argument reads behind the call as it read before'; 0 by the template 'total and deterministic' (their statements: YtlmacbiahofmcaaTotals.lean).
  GIVEN WITH THE SEED: the statements are not yours to turn. If you find one false, say at which input.
  Laid BY PROGRAM, IN A SANDBOX (cutbox-rows.mjs): the forced cells as the released guide's own fill.sh prints them over the translation d2eb677c1feb9e52… (all of the seat's roots in one cut). By AI agents, Wed Nov 11 2026. No macro, syntax, notation, axiom, sorry.
-/
import Derived.Test.YtlmacbiahofmcaaChecked
import GoSem.Claim
import GoSem.ClaimJoined
import GoSem.ClaimMapViews
import Derived.JoinedTies
import Derived.KernelRfl
namespace Go.Proofs.Ytlmacbiahofmcaa
/- THE CELL 'sum', in the pinned program and in every row, IS THE sha256 OF THE DUMP (.gsa) THAT YtlmacbiahofmcaaProg.lean LOADS. Nothing in Lean hashes anything: it is a label: what it is worth is what the hold of that sum in a sandbox is worth. -/
noncomputable def Try.pinned : Pinned := { name := "ytlmacbiahofmcaa", sum := "d2eb677c1feb9e5207e42b83cbb7baee24599a0882db84dc7e114337a36a8a43", checked := Try.checked }
namespace Rows
def none {H : Type} : Left H := { results := [], args := [] }

/-- 'madrigallaw15.MdctKnown': WHATEVER THE INPUT: true; the input reads as it did. -/
def mdctKnownSpec : ChangeSpec := { name := "mdctKnown", fn := fun _ => fun
  | [] => { results := [.lit (.bool true)], args := [] }
  | _ => none }
def mdctKnownRow : OpenClaim := { program := "ytlmacbiahofmcaa", sum := "d2eb677c1feb9e5207e42b83cbb7baee24599a0882db84dc7e114337a36a8a43", func := "madrigal/madrigallaw15.MdctKnown", spec := "mdctKnown", apart := false }
def MdctKnownSaid : Prop := mdctKnownRow.holds Try.pinned (OpenSpec.ofChange mdctKnownSpec)

/-- ITS FALSE NEIGHBOUR: 'it returns false'. Refute it at one input. -/
def mdctKnownWrong : ChangeSpec := { name := "mdctKnown", fn := fun _ => fun
  | [] => { results := [.lit (.bool false)], args := [] }
  | _ => none }
def MdctKnownWrongFalsely : Prop := mdctKnownRow.holds Try.pinned (OpenSpec.ofChange mdctKnownWrong)

/-- 'madrigallaw15.MdctSays': WHATEVER THE INPUT: true; the input reads as it did. -/
def mdctSaysSpec : ChangeSpec := { name := "mdctSays", fn := fun _ => fun
  | [d1, d2, d3] => { results := [.lit (.bool true)], args := [d1, d2, d3] }
  | _ => none }
def mdctSaysRow : OpenClaim := { program := "ytlmacbiahofmcaa", sum := "d2eb677c1feb9e5207e42b83cbb7baee24599a0882db84dc7e114337a36a8a43", func := "madrigal/madrigallaw15.MdctSays", spec := "mdctSays", apart := false }
def MdctSaysSaid : Prop := mdctSaysRow.holds Try.pinned (OpenSpec.ofChange mdctSaysSpec)

/-- ITS FALSE NEIGHBOUR: 'it returns false'. Refute it at one input. -/
def mdctSaysWrong : ChangeSpec := { name := "mdctSays", fn := fun _ => fun
  | [d1, d2, d3] => { results := [.lit (.bool false)], args := [d1, d2, d3] }
  | _ => none }
def MdctSaysWrongFalsely : Prop := mdctSaysRow.holds Try.pinned (OpenSpec.ofChange mdctSaysWrong)

/-- 'madrigallaw15.MdctJoins': WHATEVER THE INPUT: true; the input reads as it did. -/
def mdctJoinsSpec : ChangeSpec := { name := "mdctJoins", fn := fun _ => fun
  | [d1, d2, d3] => { results := [.lit (.bool true)], args := [d1, d2, d3] }
  | _ => none }
def mdctJoinsRow : OpenClaim := { program := "ytlmacbiahofmcaa", sum := "d2eb677c1feb9e5207e42b83cbb7baee24599a0882db84dc7e114337a36a8a43", func := "madrigal/madrigallaw15.MdctJoins", spec := "mdctJoins", apart := false }
def MdctJoinsSaid : Prop := mdctJoinsRow.holds Try.pinned (OpenSpec.ofChange mdctJoinsSpec)

/-- ITS FALSE NEIGHBOUR: 'it returns false'. Refute it at one input. -/
def mdctJoinsWrong : ChangeSpec := { name := "mdctJoins", fn := fun _ => fun
  | [d1, d2, d3] => { results := [.lit (.bool false)], args := [d1, d2, d3] }
  | _ => none }
def MdctJoinsWrongFalsely : Prop := mdctJoinsRow.holds Try.pinned (OpenSpec.ofChange mdctJoinsWrong)

/-- 'madrigallaw15.MdctBack': WHATEVER THE INPUT: true; the input reads as it did. -/
def mdctBackSpec : ChangeSpec := { name := "mdctBack", fn := fun _ => fun
  | [d1, d2, d3] => { results := [.lit (.bool true)], args := [d1, d2, d3] }
  | _ => none }
def mdctBackRow : OpenClaim := { program := "ytlmacbiahofmcaa", sum := "d2eb677c1feb9e5207e42b83cbb7baee24599a0882db84dc7e114337a36a8a43", func := "madrigal/madrigallaw15.MdctBack", spec := "mdctBack", apart := false }
def MdctBackSaid : Prop := mdctBackRow.holds Try.pinned (OpenSpec.ofChange mdctBackSpec)

/-- ITS FALSE NEIGHBOUR: 'it returns false'. Refute it at one input. -/
def mdctBackWrong : ChangeSpec := { name := "mdctBack", fn := fun _ => fun
  | [d1, d2, d3] => { results := [.lit (.bool false)], args := [d1, d2, d3] }
  | _ => none }
def MdctBackWrongFalsely : Prop := mdctBackRow.holds Try.pinned (OpenSpec.ofChange mdctBackWrong)

/-- 'madrigallaw15.MdctNought': WHATEVER THE INPUT: true; the input reads as it did. -/
def mdctNoughtSpec : ChangeSpec := { name := "mdctNought", fn := fun _ => fun
  | [d1, d2] => { results := [.lit (.bool true)], args := [d1, d2] }
  | _ => none }
def mdctNoughtRow : OpenClaim := { program := "ytlmacbiahofmcaa", sum := "d2eb677c1feb9e5207e42b83cbb7baee24599a0882db84dc7e114337a36a8a43", func := "madrigal/madrigallaw15.MdctNought", spec := "mdctNought", apart := false }
def MdctNoughtSaid : Prop := mdctNoughtRow.holds Try.pinned (OpenSpec.ofChange mdctNoughtSpec)

/-- ITS FALSE NEIGHBOUR: 'it returns false'. Refute it at one input. -/
def mdctNoughtWrong : ChangeSpec := { name := "mdctNought", fn := fun _ => fun
  | [d1, d2] => { results := [.lit (.bool false)], args := [d1, d2] }
  | _ => none }
def MdctNoughtWrongFalsely : Prop := mdctNoughtRow.holds Try.pinned (OpenSpec.ofChange mdctNoughtWrong)

/-- 'madrigallaw15.MdctMirror': WHATEVER THE INPUT: true; the input reads as it did. -/
def mdctMirrorSpec : ChangeSpec := { name := "mdctMirror", fn := fun _ => fun
  | [d1, d2] => { results := [.lit (.bool true)], args := [d1, d2] }
  | _ => none }
def mdctMirrorRow : OpenClaim := { program := "ytlmacbiahofmcaa", sum := "d2eb677c1feb9e5207e42b83cbb7baee24599a0882db84dc7e114337a36a8a43", func := "madrigal/madrigallaw15.MdctMirror", spec := "mdctMirror", apart := false }
def MdctMirrorSaid : Prop := mdctMirrorRow.holds Try.pinned (OpenSpec.ofChange mdctMirrorSpec)

/-- ITS FALSE NEIGHBOUR: 'it returns false'. Refute it at one input. -/
def mdctMirrorWrong : ChangeSpec := { name := "mdctMirror", fn := fun _ => fun
  | [d1, d2] => { results := [.lit (.bool false)], args := [d1, d2] }
  | _ => none }
def MdctMirrorWrongFalsely : Prop := mdctMirrorRow.holds Try.pinned (OpenSpec.ofChange mdctMirrorWrong)

/- THE SECOND FORM. 'bulk': how many values and letters a reading holds, each counted each time it is reached (what is shared counts as often as it is met; a slice's spare places count too). A statement '..UptoSaid' is the law's where the arguments, and the package variables that the reading takes, are together of bulk at most 1048576: NARROWER than '..Said'. Prove '..Said' where nothing that the law and all that it calls make is longer than what came in: it says more and counts as full. Else prove '..UptoSaid'. A law counts once. -/
mutual
def uptoBulk {H : Type} : DataW H → Nat
  | .lit (.string bytes) => bytes.length + 1
  | .lit _ => 1
  | .nil => 1
  | .ptr d => uptoBulk d + 1
  | .slice elems spare => uptoBulkAll elems + uptoBulkAll spare + 1
  | .agg parts => uptoBulkAll parts + 1
  | .iface _ d => uptoBulk d + 1
  | .map entries => uptoBulkEntries entries + 1
  | .held _ => 1
def uptoBulkAll {H : Type} : List (DataW H) → Nat
  | [] => 0
  | d :: r => uptoBulk d + uptoBulkAll r
def uptoBulkEntries {H : Type} : List (Lit × DataW H) → Nat
  | [] => 0
  | x :: r => uptoBulkEntry x + uptoBulkEntries r
def uptoBulkEntry {H : Type} : Lit × DataW H → Nat
  | (.string bytes, d) => bytes.length + uptoBulk d + 1
  | (_, d) => uptoBulk d + 1
 end
def uptoSmall : (H : Type) → List (DataW H) → Bool := fun _ ds => decide (uptoBulkAll ds ≤ 1048576)
def OpenSpec.upto (s : _root_.Go.ChangeSpec) : _root_.Go.OpenSpec := { _root_.Go.OpenSpec.ofChange s with cond := some uptoSmall }

/-- 'madrigallaw15.MdctKnown', WHERE WHAT IT READS IS OF BULK AT MOST 1048576: true; the input reads as it did. -/
def mdctKnownUptoRow : OpenClaim := { program := "ytlmacbiahofmcaa", sum := "d2eb677c1feb9e5207e42b83cbb7baee24599a0882db84dc7e114337a36a8a43", func := "madrigal/madrigallaw15.MdctKnown", spec := "mdctKnown", apart := false, narrowed := true }
def MdctKnownUptoSaid : Prop := mdctKnownUptoRow.holds Try.pinned (OpenSpec.upto mdctKnownSpec)

/-- 'madrigallaw15.MdctSays', WHERE WHAT IT READS IS OF BULK AT MOST 1048576: true; the input reads as it did. -/
def mdctSaysUptoRow : OpenClaim := { program := "ytlmacbiahofmcaa", sum := "d2eb677c1feb9e5207e42b83cbb7baee24599a0882db84dc7e114337a36a8a43", func := "madrigal/madrigallaw15.MdctSays", spec := "mdctSays", apart := false, narrowed := true }
def MdctSaysUptoSaid : Prop := mdctSaysUptoRow.holds Try.pinned (OpenSpec.upto mdctSaysSpec)

/-- 'madrigallaw15.MdctJoins', WHERE WHAT IT READS IS OF BULK AT MOST 1048576: true; the input reads as it did. -/
def mdctJoinsUptoRow : OpenClaim := { program := "ytlmacbiahofmcaa", sum := "d2eb677c1feb9e5207e42b83cbb7baee24599a0882db84dc7e114337a36a8a43", func := "madrigal/madrigallaw15.MdctJoins", spec := "mdctJoins", apart := false, narrowed := true }
def MdctJoinsUptoSaid : Prop := mdctJoinsUptoRow.holds Try.pinned (OpenSpec.upto mdctJoinsSpec)

/-- 'madrigallaw15.MdctBack', WHERE WHAT IT READS IS OF BULK AT MOST 1048576: true; the input reads as it did. -/
def mdctBackUptoRow : OpenClaim := { program := "ytlmacbiahofmcaa", sum := "d2eb677c1feb9e5207e42b83cbb7baee24599a0882db84dc7e114337a36a8a43", func := "madrigal/madrigallaw15.MdctBack", spec := "mdctBack", apart := false, narrowed := true }
def MdctBackUptoSaid : Prop := mdctBackUptoRow.holds Try.pinned (OpenSpec.upto mdctBackSpec)

/-- 'madrigallaw15.MdctNought', WHERE WHAT IT READS IS OF BULK AT MOST 1048576: true; the input reads as it did. -/
def mdctNoughtUptoRow : OpenClaim := { program := "ytlmacbiahofmcaa", sum := "d2eb677c1feb9e5207e42b83cbb7baee24599a0882db84dc7e114337a36a8a43", func := "madrigal/madrigallaw15.MdctNought", spec := "mdctNought", apart := false, narrowed := true }
def MdctNoughtUptoSaid : Prop := mdctNoughtUptoRow.holds Try.pinned (OpenSpec.upto mdctNoughtSpec)

/-- 'madrigallaw15.MdctMirror', WHERE WHAT IT READS IS OF BULK AT MOST 1048576: true; the input reads as it did. -/
def mdctMirrorUptoRow : OpenClaim := { program := "ytlmacbiahofmcaa", sum := "d2eb677c1feb9e5207e42b83cbb7baee24599a0882db84dc7e114337a36a8a43", func := "madrigal/madrigallaw15.MdctMirror", spec := "mdctMirror", apart := false, narrowed := true }
def MdctMirrorUptoSaid : Prop := mdctMirrorUptoRow.holds Try.pinned (OpenSpec.upto mdctMirrorSpec)

end Rows
end Go.Proofs.Ytlmacbiahofmcaa
