/-
  No cell of these rows narrows 'for every input' (looked for: loops, veiled, ifaces, maps, wideKeys, modest, calm, conditions, laid).
  DERIVED. THE GIVEN ROWS OF THIS SEAT. 7 by the template 'for every input the law returns true; each argument reads behind the call as it read before'; 0 by the template 'total and deterministic' (their statements: YtkhcckemcamcbaaTotals.lean).
  GIVEN WITH THE SEED: the statements are not yours to turn. If you find one false, say at which input.
  Laid BY PROGRAM, IN A SANDBOX (cutbox-rows.mjs): the forced cells as the released guide's own fill.sh prints them over the translation 47027837e68a6a3a… (all of the seat's roots in one cut). By AI agents, Wed Nov 11 2026. No macro, syntax, notation, axiom, sorry.
-/
import Derived.Test.YtkhcckemcamcbaaChecked
import GoSem.Claim
import GoSem.ClaimJoined
import GoSem.ClaimMapViews
import Derived.JoinedTies
import Derived.KernelRfl
namespace Go.Proofs.Ytkhcckemcamcbaa
/- THE CELL 'sum', in the pinned program and in every row, IS THE sha256 OF THE DUMP (.gsa) THAT YtkhcckemcamcbaaProg.lean LOADS. Nothing in Lean hashes anything: it is a label: what it is worth is what the hold of that sum in a sandbox is worth. -/
noncomputable def Try.pinned : Pinned := { name := "ytkhcckemcamcbaa", sum := "47027837e68a6a3a2f464d3fce963dbf45c4f4f9bd636e831dd6106094ece06b", checked := Try.checked }
namespace Rows
def none {H : Type} : Left H := { results := [], args := [] }

/-- 'madrigallaw2.TabsKnown': WHATEVER THE INPUT: true; the input reads as it did. -/
def tabsKnownSpec : ChangeSpec := { name := "tabsKnown", fn := fun _ => fun
  | [] => { results := [.lit (.bool true)], args := [] }
  | _ => none }
def tabsKnownRow : OpenClaim := { program := "ytkhcckemcamcbaa", sum := "47027837e68a6a3a2f464d3fce963dbf45c4f4f9bd636e831dd6106094ece06b", func := "madrigal/madrigallaw2.TabsKnown", spec := "tabsKnown", apart := false }
def TabsKnownSaid : Prop := tabsKnownRow.holds Try.pinned (OpenSpec.ofChange tabsKnownSpec)

/-- ITS FALSE NEIGHBOUR: 'it returns false'. Refute it at one input. -/
def tabsKnownWrong : ChangeSpec := { name := "tabsKnown", fn := fun _ => fun
  | [] => { results := [.lit (.bool false)], args := [] }
  | _ => none }
def TabsKnownWrongFalsely : Prop := tabsKnownRow.holds Try.pinned (OpenSpec.ofChange tabsKnownWrong)

/-- 'madrigallaw2.TabsSays': WHATEVER THE INPUT: true; the input reads as it did. -/
def tabsSaysSpec : ChangeSpec := { name := "tabsSays", fn := fun _ => fun
  | [d1, d2, d3, d4] => { results := [.lit (.bool true)], args := [d1, d2, d3, d4] }
  | _ => none }
def tabsSaysRow : OpenClaim := { program := "ytkhcckemcamcbaa", sum := "47027837e68a6a3a2f464d3fce963dbf45c4f4f9bd636e831dd6106094ece06b", func := "madrigal/madrigallaw2.TabsSays", spec := "tabsSays", apart := false }
def TabsSaysSaid : Prop := tabsSaysRow.holds Try.pinned (OpenSpec.ofChange tabsSaysSpec)

/-- ITS FALSE NEIGHBOUR: 'it returns false'. Refute it at one input. -/
def tabsSaysWrong : ChangeSpec := { name := "tabsSays", fn := fun _ => fun
  | [d1, d2, d3, d4] => { results := [.lit (.bool false)], args := [d1, d2, d3, d4] }
  | _ => none }
def TabsSaysWrongFalsely : Prop := tabsSaysRow.holds Try.pinned (OpenSpec.ofChange tabsSaysWrong)

/-- 'madrigallaw2.TabsGood': WHATEVER THE INPUT: true; the input reads as it did. -/
def tabsGoodSpec : ChangeSpec := { name := "tabsGood", fn := fun _ => fun
  | [d] => { results := [.lit (.bool true)], args := [d] }
  | _ => none }
def tabsGoodRow : OpenClaim := { program := "ytkhcckemcamcbaa", sum := "47027837e68a6a3a2f464d3fce963dbf45c4f4f9bd636e831dd6106094ece06b", func := "madrigal/madrigallaw2.TabsGood", spec := "tabsGood", apart := false }
def TabsGoodSaid : Prop := tabsGoodRow.holds Try.pinned (OpenSpec.ofChange tabsGoodSpec)

/-- ITS FALSE NEIGHBOUR: 'it returns false'. Refute it at one input. -/
def tabsGoodWrong : ChangeSpec := { name := "tabsGood", fn := fun _ => fun
  | [d] => { results := [.lit (.bool false)], args := [d] }
  | _ => none }
def TabsGoodWrongFalsely : Prop := tabsGoodRow.holds Try.pinned (OpenSpec.ofChange tabsGoodWrong)

/-- 'madrigallaw2.TabsWindows': WHATEVER THE INPUT: true; the input reads as it did. -/
def tabsWindowsSpec : ChangeSpec := { name := "tabsWindows", fn := fun _ => fun
  | [d] => { results := [.lit (.bool true)], args := [d] }
  | _ => none }
def tabsWindowsRow : OpenClaim := { program := "ytkhcckemcamcbaa", sum := "47027837e68a6a3a2f464d3fce963dbf45c4f4f9bd636e831dd6106094ece06b", func := "madrigal/madrigallaw2.TabsWindows", spec := "tabsWindows", apart := false }
def TabsWindowsSaid : Prop := tabsWindowsRow.holds Try.pinned (OpenSpec.ofChange tabsWindowsSpec)

/-- ITS FALSE NEIGHBOUR: 'it returns false'. Refute it at one input. -/
def tabsWindowsWrong : ChangeSpec := { name := "tabsWindows", fn := fun _ => fun
  | [d] => { results := [.lit (.bool false)], args := [d] }
  | _ => none }
def TabsWindowsWrongFalsely : Prop := tabsWindowsRow.holds Try.pinned (OpenSpec.ofChange tabsWindowsWrong)

/-- 'madrigallaw2.TabsBands': WHATEVER THE INPUT: true; the input reads as it did. -/
def tabsBandsSpec : ChangeSpec := { name := "tabsBands", fn := fun _ => fun
  | [d1, d2] => { results := [.lit (.bool true)], args := [d1, d2] }
  | _ => none }
def tabsBandsRow : OpenClaim := { program := "ytkhcckemcamcbaa", sum := "47027837e68a6a3a2f464d3fce963dbf45c4f4f9bd636e831dd6106094ece06b", func := "madrigal/madrigallaw2.TabsBands", spec := "tabsBands", apart := false }
def TabsBandsSaid : Prop := tabsBandsRow.holds Try.pinned (OpenSpec.ofChange tabsBandsSpec)

/-- ITS FALSE NEIGHBOUR: 'it returns false'. Refute it at one input. -/
def tabsBandsWrong : ChangeSpec := { name := "tabsBands", fn := fun _ => fun
  | [d1, d2] => { results := [.lit (.bool false)], args := [d1, d2] }
  | _ => none }
def TabsBandsWrongFalsely : Prop := tabsBandsRow.holds Try.pinned (OpenSpec.ofChange tabsBandsWrong)

/-- 'madrigallaw2.TabsLsf': WHATEVER THE INPUT: true; the input reads as it did. -/
def tabsLsfSpec : ChangeSpec := { name := "tabsLsf", fn := fun _ => fun
  | [d1, d2] => { results := [.lit (.bool true)], args := [d1, d2] }
  | _ => none }
def tabsLsfRow : OpenClaim := { program := "ytkhcckemcamcbaa", sum := "47027837e68a6a3a2f464d3fce963dbf45c4f4f9bd636e831dd6106094ece06b", func := "madrigal/madrigallaw2.TabsLsf", spec := "tabsLsf", apart := false }
def TabsLsfSaid : Prop := tabsLsfRow.holds Try.pinned (OpenSpec.ofChange tabsLsfSpec)

/-- ITS FALSE NEIGHBOUR: 'it returns false'. Refute it at one input. -/
def tabsLsfWrong : ChangeSpec := { name := "tabsLsf", fn := fun _ => fun
  | [d1, d2] => { results := [.lit (.bool false)], args := [d1, d2] }
  | _ => none }
def TabsLsfWrongFalsely : Prop := tabsLsfRow.holds Try.pinned (OpenSpec.ofChange tabsLsfWrong)

/-- 'madrigallaw2.TabsNew': WHATEVER THE INPUT: true; the input reads as it did. -/
def tabsNewSpec : ChangeSpec := { name := "tabsNew", fn := fun _ => fun
  | [d1, d2, d3] => { results := [.lit (.bool true)], args := [d1, d2, d3] }
  | _ => none }
def tabsNewRow : OpenClaim := { program := "ytkhcckemcamcbaa", sum := "47027837e68a6a3a2f464d3fce963dbf45c4f4f9bd636e831dd6106094ece06b", func := "madrigal/madrigallaw2.TabsNew", spec := "tabsNew", apart := false }
def TabsNewSaid : Prop := tabsNewRow.holds Try.pinned (OpenSpec.ofChange tabsNewSpec)

/-- ITS FALSE NEIGHBOUR: 'it returns false'. Refute it at one input. -/
def tabsNewWrong : ChangeSpec := { name := "tabsNew", fn := fun _ => fun
  | [d1, d2, d3] => { results := [.lit (.bool false)], args := [d1, d2, d3] }
  | _ => none }
def TabsNewWrongFalsely : Prop := tabsNewRow.holds Try.pinned (OpenSpec.ofChange tabsNewWrong)

/- THE SECOND FORM. 'bulk': how many values and letters a reading holds, each counted each time it is reached (what is shared counts as often as it is met; a slice's spare places count too). A statement '..UptoSaid' is the law's where the arguments, and the package variables that the reading takes, are together of bulk at most 1048576: NARROWER than '..Said'. Prove '..Said' where nothing that the law and all that it calls make is longer than what came in: it says more and counts as full. Else prove '..UptoSaid'. A law counts once. -/
mutual
def uptoBulk {H : Type} : DataW H → Nat
  | .lit (.string bytes) => bytes.length + 1
  | .lit _ => 1
  | .nil => 1
  | .ptr d => uptoBulk d + 1
  | .slice elems spare => uptoBulkAll elems + uptoBulkAll spare + 1
  | .agg parts => uptoBulkAll parts + 1
  | .iface _ d => uptoBulk d + 1
  | .map entries => uptoBulkEntries entries + 1
  | .held _ => 1
def uptoBulkAll {H : Type} : List (DataW H) → Nat
  | [] => 0
  | d :: r => uptoBulk d + uptoBulkAll r
def uptoBulkEntries {H : Type} : List (Lit × DataW H) → Nat
  | [] => 0
  | x :: r => uptoBulkEntry x + uptoBulkEntries r
def uptoBulkEntry {H : Type} : Lit × DataW H → Nat
  | (.string bytes, d) => bytes.length + uptoBulk d + 1
  | (_, d) => uptoBulk d + 1
 end
def uptoSmall : (H : Type) → List (DataW H) → Bool := fun _ ds => decide (uptoBulkAll ds ≤ 1048576)
def OpenSpec.upto (s : _root_.Go.ChangeSpec) : _root_.Go.OpenSpec := { _root_.Go.OpenSpec.ofChange s with cond := some uptoSmall }

/-- 'madrigallaw2.TabsKnown', WHERE WHAT IT READS IS OF BULK AT MOST 1048576: true; the input reads as it did. -/
def tabsKnownUptoRow : OpenClaim := { program := "ytkhcckemcamcbaa", sum := "47027837e68a6a3a2f464d3fce963dbf45c4f4f9bd636e831dd6106094ece06b", func := "madrigal/madrigallaw2.TabsKnown", spec := "tabsKnown", apart := false, narrowed := true }
def TabsKnownUptoSaid : Prop := tabsKnownUptoRow.holds Try.pinned (OpenSpec.upto tabsKnownSpec)

/-- 'madrigallaw2.TabsSays', WHERE WHAT IT READS IS OF BULK AT MOST 1048576: true; the input reads as it did. -/
def tabsSaysUptoRow : OpenClaim := { program := "ytkhcckemcamcbaa", sum := "47027837e68a6a3a2f464d3fce963dbf45c4f4f9bd636e831dd6106094ece06b", func := "madrigal/madrigallaw2.TabsSays", spec := "tabsSays", apart := false, narrowed := true }
def TabsSaysUptoSaid : Prop := tabsSaysUptoRow.holds Try.pinned (OpenSpec.upto tabsSaysSpec)

/-- 'madrigallaw2.TabsGood', WHERE WHAT IT READS IS OF BULK AT MOST 1048576: true; the input reads as it did. -/
def tabsGoodUptoRow : OpenClaim := { program := "ytkhcckemcamcbaa", sum := "47027837e68a6a3a2f464d3fce963dbf45c4f4f9bd636e831dd6106094ece06b", func := "madrigal/madrigallaw2.TabsGood", spec := "tabsGood", apart := false, narrowed := true }
def TabsGoodUptoSaid : Prop := tabsGoodUptoRow.holds Try.pinned (OpenSpec.upto tabsGoodSpec)

/-- 'madrigallaw2.TabsWindows', WHERE WHAT IT READS IS OF BULK AT MOST 1048576: true; the input reads as it did. -/
def tabsWindowsUptoRow : OpenClaim := { program := "ytkhcckemcamcbaa", sum := "47027837e68a6a3a2f464d3fce963dbf45c4f4f9bd636e831dd6106094ece06b", func := "madrigal/madrigallaw2.TabsWindows", spec := "tabsWindows", apart := false, narrowed := true }
def TabsWindowsUptoSaid : Prop := tabsWindowsUptoRow.holds Try.pinned (OpenSpec.upto tabsWindowsSpec)

/-- 'madrigallaw2.TabsBands', WHERE WHAT IT READS IS OF BULK AT MOST 1048576: true; the input reads as it did. -/
def tabsBandsUptoRow : OpenClaim := { program := "ytkhcckemcamcbaa", sum := "47027837e68a6a3a2f464d3fce963dbf45c4f4f9bd636e831dd6106094ece06b", func := "madrigal/madrigallaw2.TabsBands", spec := "tabsBands", apart := false, narrowed := true }
def TabsBandsUptoSaid : Prop := tabsBandsUptoRow.holds Try.pinned (OpenSpec.upto tabsBandsSpec)

/-- 'madrigallaw2.TabsLsf', WHERE WHAT IT READS IS OF BULK AT MOST 1048576: true; the input reads as it did. -/
def tabsLsfUptoRow : OpenClaim := { program := "ytkhcckemcamcbaa", sum := "47027837e68a6a3a2f464d3fce963dbf45c4f4f9bd636e831dd6106094ece06b", func := "madrigal/madrigallaw2.TabsLsf", spec := "tabsLsf", apart := false, narrowed := true }
def TabsLsfUptoSaid : Prop := tabsLsfUptoRow.holds Try.pinned (OpenSpec.upto tabsLsfSpec)

/-- 'madrigallaw2.TabsNew', WHERE WHAT IT READS IS OF BULK AT MOST 1048576: true; the input reads as it did. -/
def tabsNewUptoRow : OpenClaim := { program := "ytkhcckemcamcbaa", sum := "47027837e68a6a3a2f464d3fce963dbf45c4f4f9bd636e831dd6106094ece06b", func := "madrigal/madrigallaw2.TabsNew", spec := "tabsNew", apart := false, narrowed := true }
def TabsNewUptoSaid : Prop := tabsNewUptoRow.holds Try.pinned (OpenSpec.upto tabsNewSpec)

end Rows
end Go.Proofs.Ytkhcckemcamcbaa
