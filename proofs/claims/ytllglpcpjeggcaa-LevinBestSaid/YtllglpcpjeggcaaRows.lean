/-
  No cell of these rows narrows 'for every input' (looked for: loops, veiled, ifaces, maps, wideKeys, modest, calm, conditions, laid).
  DERIVED. THE GIVEN ROWS OF THIS SEAT. 7 by the template 'for every input the law returns true; each argument reads behind the call as it read before'; 0 by the template 'total and deterministic' (their statements: YtllglpcpjeggcaaTotals.lean).
  GIVEN WITH THE SEED: the statements are not yours to turn. If you find one false, say at which input.
  Laid BY PROGRAM, IN A SANDBOX (cutbox-rows.mjs): the forced cells as the released guide's own fill.sh prints them over the translation c6b705d19e8adb52… (all of the seat's roots in one cut). By AI agents, Wed Nov 11 2026. No macro, syntax, notation, axiom, sorry.
-/
import Derived.Test.YtllglpcpjeggcaaChecked
import GoSem.Claim
import GoSem.ClaimJoined
import GoSem.ClaimMapViews
import Derived.JoinedTies
import Derived.KernelRfl
namespace Go.Proofs.Ytllglpcpjeggcaa
/- THE CELL 'sum', in the pinned program and in every row, IS THE sha256 OF THE DUMP (.gsa) THAT YtllglpcpjeggcaaProg.lean LOADS. Nothing in Lean hashes anything: it is a label: what it is worth is what the hold of that sum in a sandbox is worth. -/
noncomputable def Try.pinned : Pinned := { name := "ytllglpcpjeggcaa", sum := "c6b705d19e8adb5255a2e0bf30f7279e17420b3e5a736b5eb75271fce9c533fa", checked := Try.checked }
namespace Rows
def none {H : Type} : Left H := { results := [], args := [] }

/-- 'madrigallaw12.LevinKnown': WHATEVER THE INPUT: true; the input reads as it did. -/
def levinKnownSpec : ChangeSpec := { name := "levinKnown", fn := fun _ => fun
  | [] => { results := [.lit (.bool true)], args := [] }
  | _ => none }
def levinKnownRow : OpenClaim := { program := "ytllglpcpjeggcaa", sum := "c6b705d19e8adb5255a2e0bf30f7279e17420b3e5a736b5eb75271fce9c533fa", func := "madrigal/madrigallaw12.LevinKnown", spec := "levinKnown", apart := false }
def LevinKnownSaid : Prop := levinKnownRow.holds Try.pinned (OpenSpec.ofChange levinKnownSpec)

/-- ITS FALSE NEIGHBOUR: 'it returns false'. Refute it at one input. -/
def levinKnownWrong : ChangeSpec := { name := "levinKnown", fn := fun _ => fun
  | [] => { results := [.lit (.bool false)], args := [] }
  | _ => none }
def LevinKnownWrongFalsely : Prop := levinKnownRow.holds Try.pinned (OpenSpec.ofChange levinKnownWrong)

/-- 'madrigallaw12.LevinSays': WHATEVER THE INPUT: true; the input reads as it did. -/
def levinSaysSpec : ChangeSpec := { name := "levinSays", fn := fun _ => fun
  | [d1, d2, d3, d4] => { results := [.lit (.bool true)], args := [d1, d2, d3, d4] }
  | _ => none }
def levinSaysRow : OpenClaim := { program := "ytllglpcpjeggcaa", sum := "c6b705d19e8adb5255a2e0bf30f7279e17420b3e5a736b5eb75271fce9c533fa", func := "madrigal/madrigallaw12.LevinSays", spec := "levinSays", apart := false }
def LevinSaysSaid : Prop := levinSaysRow.holds Try.pinned (OpenSpec.ofChange levinSaysSpec)

/-- ITS FALSE NEIGHBOUR: 'it returns false'. Refute it at one input. -/
def levinSaysWrong : ChangeSpec := { name := "levinSays", fn := fun _ => fun
  | [d1, d2, d3, d4] => { results := [.lit (.bool false)], args := [d1, d2, d3, d4] }
  | _ => none }
def LevinSaysWrongFalsely : Prop := levinSaysRow.holds Try.pinned (OpenSpec.ofChange levinSaysWrong)

/-- 'madrigallaw12.LevinBest': WHATEVER THE INPUT: true; the input reads as it did. -/
def levinBestSpec : ChangeSpec := { name := "levinBest", fn := fun _ => fun
  | [d1, d2] => { results := [.lit (.bool true)], args := [d1, d2] }
  | _ => none }
def levinBestRow : OpenClaim := { program := "ytllglpcpjeggcaa", sum := "c6b705d19e8adb5255a2e0bf30f7279e17420b3e5a736b5eb75271fce9c533fa", func := "madrigal/madrigallaw12.LevinBest", spec := "levinBest", apart := false }
def LevinBestSaid : Prop := levinBestRow.holds Try.pinned (OpenSpec.ofChange levinBestSpec)

/-- ITS FALSE NEIGHBOUR: 'it returns false'. Refute it at one input. -/
def levinBestWrong : ChangeSpec := { name := "levinBest", fn := fun _ => fun
  | [d1, d2] => { results := [.lit (.bool false)], args := [d1, d2] }
  | _ => none }
def LevinBestWrongFalsely : Prop := levinBestRow.holds Try.pinned (OpenSpec.ofChange levinBestWrong)

/-- 'madrigallaw12.LevinFirst': WHATEVER THE INPUT: true; the input reads as it did. -/
def levinFirstSpec : ChangeSpec := { name := "levinFirst", fn := fun _ => fun
  | [d1, d2] => { results := [.lit (.bool true)], args := [d1, d2] }
  | _ => none }
def levinFirstRow : OpenClaim := { program := "ytllglpcpjeggcaa", sum := "c6b705d19e8adb5255a2e0bf30f7279e17420b3e5a736b5eb75271fce9c533fa", func := "madrigal/madrigallaw12.LevinFirst", spec := "levinFirst", apart := false }
def LevinFirstSaid : Prop := levinFirstRow.holds Try.pinned (OpenSpec.ofChange levinFirstSpec)

/-- ITS FALSE NEIGHBOUR: 'it returns false'. Refute it at one input. -/
def levinFirstWrong : ChangeSpec := { name := "levinFirst", fn := fun _ => fun
  | [d1, d2] => { results := [.lit (.bool false)], args := [d1, d2] }
  | _ => none }
def LevinFirstWrongFalsely : Prop := levinFirstRow.holds Try.pinned (OpenSpec.ofChange levinFirstWrong)

/-- 'madrigallaw12.LevinNothing': WHATEVER THE INPUT: true; the input reads as it did. -/
def levinNothingSpec : ChangeSpec := { name := "levinNothing", fn := fun _ => fun
  | [d1, d2] => { results := [.lit (.bool true)], args := [d1, d2] }
  | _ => none }
def levinNothingRow : OpenClaim := { program := "ytllglpcpjeggcaa", sum := "c6b705d19e8adb5255a2e0bf30f7279e17420b3e5a736b5eb75271fce9c533fa", func := "madrigal/madrigallaw12.LevinNothing", spec := "levinNothing", apart := false }
def LevinNothingSaid : Prop := levinNothingRow.holds Try.pinned (OpenSpec.ofChange levinNothingSpec)

/-- ITS FALSE NEIGHBOUR: 'it returns false'. Refute it at one input. -/
def levinNothingWrong : ChangeSpec := { name := "levinNothing", fn := fun _ => fun
  | [d1, d2] => { results := [.lit (.bool false)], args := [d1, d2] }
  | _ => none }
def LevinNothingWrongFalsely : Prop := levinNothingRow.holds Try.pinned (OpenSpec.ofChange levinNothingWrong)

/-- 'madrigallaw12.LevinAuto': WHATEVER THE INPUT: true; the input reads as it did. -/
def levinAutoSpec : ChangeSpec := { name := "levinAuto", fn := fun _ => fun
  | [d1, d2] => { results := [.lit (.bool true)], args := [d1, d2] }
  | _ => none }
def levinAutoRow : OpenClaim := { program := "ytllglpcpjeggcaa", sum := "c6b705d19e8adb5255a2e0bf30f7279e17420b3e5a736b5eb75271fce9c533fa", func := "madrigal/madrigallaw12.LevinAuto", spec := "levinAuto", apart := false }
def LevinAutoSaid : Prop := levinAutoRow.holds Try.pinned (OpenSpec.ofChange levinAutoSpec)

/-- ITS FALSE NEIGHBOUR: 'it returns false'. Refute it at one input. -/
def levinAutoWrong : ChangeSpec := { name := "levinAuto", fn := fun _ => fun
  | [d1, d2] => { results := [.lit (.bool false)], args := [d1, d2] }
  | _ => none }
def LevinAutoWrongFalsely : Prop := levinAutoRow.holds Try.pinned (OpenSpec.ofChange levinAutoWrong)

/-- 'madrigallaw12.LevinTwice': WHATEVER THE INPUT: true; the input reads as it did. -/
def levinTwiceSpec : ChangeSpec := { name := "levinTwice", fn := fun _ => fun
  | [d1, d2] => { results := [.lit (.bool true)], args := [d1, d2] }
  | _ => none }
def levinTwiceRow : OpenClaim := { program := "ytllglpcpjeggcaa", sum := "c6b705d19e8adb5255a2e0bf30f7279e17420b3e5a736b5eb75271fce9c533fa", func := "madrigal/madrigallaw12.LevinTwice", spec := "levinTwice", apart := false }
def LevinTwiceSaid : Prop := levinTwiceRow.holds Try.pinned (OpenSpec.ofChange levinTwiceSpec)

/-- ITS FALSE NEIGHBOUR: 'it returns false'. Refute it at one input. -/
def levinTwiceWrong : ChangeSpec := { name := "levinTwice", fn := fun _ => fun
  | [d1, d2] => { results := [.lit (.bool false)], args := [d1, d2] }
  | _ => none }
def LevinTwiceWrongFalsely : Prop := levinTwiceRow.holds Try.pinned (OpenSpec.ofChange levinTwiceWrong)

/- THE SECOND FORM. 'bulk': how many values and letters a reading holds, each counted each time it is reached (what is shared counts as often as it is met; a slice's spare places count too). A statement '..UptoSaid' is the law's where the arguments, and the package variables that the reading takes, are together of bulk at most 1048576: NARROWER than '..Said'. Prove '..Said' where nothing that the law and all that it calls make is longer than what came in: it says more and counts as full. Else prove '..UptoSaid'. A law counts once. -/
mutual
def uptoBulk {H : Type} : DataW H → Nat
  | .lit (.string bytes) => bytes.length + 1
  | .lit _ => 1
  | .nil => 1
  | .ptr d => uptoBulk d + 1
  | .slice elems spare => uptoBulkAll elems + uptoBulkAll spare + 1
  | .agg parts => uptoBulkAll parts + 1
  | .iface _ d => uptoBulk d + 1
  | .map entries => uptoBulkEntries entries + 1
  | .held _ => 1
def uptoBulkAll {H : Type} : List (DataW H) → Nat
  | [] => 0
  | d :: r => uptoBulk d + uptoBulkAll r
def uptoBulkEntries {H : Type} : List (Lit × DataW H) → Nat
  | [] => 0
  | x :: r => uptoBulkEntry x + uptoBulkEntries r
def uptoBulkEntry {H : Type} : Lit × DataW H → Nat
  | (.string bytes, d) => bytes.length + uptoBulk d + 1
  | (_, d) => uptoBulk d + 1
 end
def uptoSmall : (H : Type) → List (DataW H) → Bool := fun _ ds => decide (uptoBulkAll ds ≤ 1048576)
def OpenSpec.upto (s : _root_.Go.ChangeSpec) : _root_.Go.OpenSpec := { _root_.Go.OpenSpec.ofChange s with cond := some uptoSmall }

/-- 'madrigallaw12.LevinKnown', WHERE WHAT IT READS IS OF BULK AT MOST 1048576: true; the input reads as it did. -/
def levinKnownUptoRow : OpenClaim := { program := "ytllglpcpjeggcaa", sum := "c6b705d19e8adb5255a2e0bf30f7279e17420b3e5a736b5eb75271fce9c533fa", func := "madrigal/madrigallaw12.LevinKnown", spec := "levinKnown", apart := false, narrowed := true }
def LevinKnownUptoSaid : Prop := levinKnownUptoRow.holds Try.pinned (OpenSpec.upto levinKnownSpec)

/-- 'madrigallaw12.LevinSays', WHERE WHAT IT READS IS OF BULK AT MOST 1048576: true; the input reads as it did. -/
def levinSaysUptoRow : OpenClaim := { program := "ytllglpcpjeggcaa", sum := "c6b705d19e8adb5255a2e0bf30f7279e17420b3e5a736b5eb75271fce9c533fa", func := "madrigal/madrigallaw12.LevinSays", spec := "levinSays", apart := false, narrowed := true }
def LevinSaysUptoSaid : Prop := levinSaysUptoRow.holds Try.pinned (OpenSpec.upto levinSaysSpec)

/-- 'madrigallaw12.LevinBest', WHERE WHAT IT READS IS OF BULK AT MOST 1048576: true; the input reads as it did. -/
def levinBestUptoRow : OpenClaim := { program := "ytllglpcpjeggcaa", sum := "c6b705d19e8adb5255a2e0bf30f7279e17420b3e5a736b5eb75271fce9c533fa", func := "madrigal/madrigallaw12.LevinBest", spec := "levinBest", apart := false, narrowed := true }
def LevinBestUptoSaid : Prop := levinBestUptoRow.holds Try.pinned (OpenSpec.upto levinBestSpec)

/-- 'madrigallaw12.LevinFirst', WHERE WHAT IT READS IS OF BULK AT MOST 1048576: true; the input reads as it did. -/
def levinFirstUptoRow : OpenClaim := { program := "ytllglpcpjeggcaa", sum := "c6b705d19e8adb5255a2e0bf30f7279e17420b3e5a736b5eb75271fce9c533fa", func := "madrigal/madrigallaw12.LevinFirst", spec := "levinFirst", apart := false, narrowed := true }
def LevinFirstUptoSaid : Prop := levinFirstUptoRow.holds Try.pinned (OpenSpec.upto levinFirstSpec)

/-- 'madrigallaw12.LevinNothing', WHERE WHAT IT READS IS OF BULK AT MOST 1048576: true; the input reads as it did. -/
def levinNothingUptoRow : OpenClaim := { program := "ytllglpcpjeggcaa", sum := "c6b705d19e8adb5255a2e0bf30f7279e17420b3e5a736b5eb75271fce9c533fa", func := "madrigal/madrigallaw12.LevinNothing", spec := "levinNothing", apart := false, narrowed := true }
def LevinNothingUptoSaid : Prop := levinNothingUptoRow.holds Try.pinned (OpenSpec.upto levinNothingSpec)

/-- 'madrigallaw12.LevinAuto', WHERE WHAT IT READS IS OF BULK AT MOST 1048576: true; the input reads as it did. -/
def levinAutoUptoRow : OpenClaim := { program := "ytllglpcpjeggcaa", sum := "c6b705d19e8adb5255a2e0bf30f7279e17420b3e5a736b5eb75271fce9c533fa", func := "madrigal/madrigallaw12.LevinAuto", spec := "levinAuto", apart := false, narrowed := true }
def LevinAutoUptoSaid : Prop := levinAutoUptoRow.holds Try.pinned (OpenSpec.upto levinAutoSpec)

/-- 'madrigallaw12.LevinTwice', WHERE WHAT IT READS IS OF BULK AT MOST 1048576: true; the input reads as it did. -/
def levinTwiceUptoRow : OpenClaim := { program := "ytllglpcpjeggcaa", sum := "c6b705d19e8adb5255a2e0bf30f7279e17420b3e5a736b5eb75271fce9c533fa", func := "madrigal/madrigallaw12.LevinTwice", spec := "levinTwice", apart := false, narrowed := true }
def LevinTwiceUptoSaid : Prop := levinTwiceUptoRow.holds Try.pinned (OpenSpec.upto levinTwiceSpec)

end Rows
end Go.Proofs.Ytllglpcpjeggcaa
