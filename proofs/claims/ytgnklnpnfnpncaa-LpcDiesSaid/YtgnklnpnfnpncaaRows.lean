/-
  No cell of these rows narrows 'for every input' (looked for: loops, veiled, ifaces, maps, wideKeys, modest, calm, conditions, laid).
  DERIVED. THE GIVEN ROWS OF THIS SEAT. 5 by the template 'for every input the law returns true; each argument reads behind the call as it read before'; 0 by the template 'total and deterministic' (their statements: YtgnklnpnfnpncaaTotals.lean).
  GIVEN WITH THE SEED: the statements are not yours to turn. If you find one false, say at which input.
  Laid BY PROGRAM, IN A SANDBOX (cutbox-rows.mjs): the forced cells as the released guide's own fill.sh prints them over the translation fa7ec8a54d89ca40… (all of the seat's roots in one cut). By AI agents, Wed Nov 11 2026. No macro, syntax, notation, axiom, sorry.
-/
import Derived.Test.YtgnklnpnfnpncaaChecked
import GoSem.Claim
import GoSem.ClaimJoined
import GoSem.ClaimMapViews
import Derived.JoinedTies
import Derived.KernelRfl
namespace Go.Proofs.Ytgnklnpnfnpncaa
/- THE CELL 'sum', in the pinned program and in every row, IS THE sha256 OF THE DUMP (.gsa) THAT YtgnklnpnfnpncaaProg.lean LOADS. Nothing in Lean hashes anything: it is a label: what it is worth is what the hold of that sum in a sandbox is worth. -/
noncomputable def Try.pinned : Pinned := { name := "ytgnklnpnfnpncaa", sum := "fa7ec8a54d89ca40bcee23f0497ddd330c824ef6040ef97b81c94f2572c79c1f", checked := Try.checked }
namespace Rows
def none {H : Type} : Left H := { results := [], args := [] }

/-- 'madrigallaw7.LpcKnown': WHATEVER THE INPUT: true; the input reads as it did. -/
def lpcKnownSpec : ChangeSpec := { name := "lpcKnown", fn := fun _ => fun
  | [] => { results := [.lit (.bool true)], args := [] }
  | _ => none }
def lpcKnownRow : OpenClaim := { program := "ytgnklnpnfnpncaa", sum := "fa7ec8a54d89ca40bcee23f0497ddd330c824ef6040ef97b81c94f2572c79c1f", func := "madrigal/madrigallaw7.LpcKnown", spec := "lpcKnown", apart := false }
def LpcKnownSaid : Prop := lpcKnownRow.holds Try.pinned (OpenSpec.ofChange lpcKnownSpec)

/-- ITS FALSE NEIGHBOUR: 'it returns false'. Refute it at one input. -/
def lpcKnownWrong : ChangeSpec := { name := "lpcKnown", fn := fun _ => fun
  | [] => { results := [.lit (.bool false)], args := [] }
  | _ => none }
def LpcKnownWrongFalsely : Prop := lpcKnownRow.holds Try.pinned (OpenSpec.ofChange lpcKnownWrong)

/-- 'madrigallaw7.LpcDies': WHATEVER THE INPUT: true; the input reads as it did. -/
def lpcDiesSpec : ChangeSpec := { name := "lpcDies", fn := fun _ => fun
  | [d1, d2] => { results := [.lit (.bool true)], args := [d1, d2] }
  | _ => none }
def lpcDiesRow : OpenClaim := { program := "ytgnklnpnfnpncaa", sum := "fa7ec8a54d89ca40bcee23f0497ddd330c824ef6040ef97b81c94f2572c79c1f", func := "madrigal/madrigallaw7.LpcDies", spec := "lpcDies", apart := false }
def LpcDiesSaid : Prop := lpcDiesRow.holds Try.pinned (OpenSpec.ofChange lpcDiesSpec)

/-- ITS FALSE NEIGHBOUR: 'it returns false'. Refute it at one input. -/
def lpcDiesWrong : ChangeSpec := { name := "lpcDies", fn := fun _ => fun
  | [d1, d2] => { results := [.lit (.bool false)], args := [d1, d2] }
  | _ => none }
def LpcDiesWrongFalsely : Prop := lpcDiesRow.holds Try.pinned (OpenSpec.ofChange lpcDiesWrong)

/-- 'madrigallaw7.LpcFlat': WHATEVER THE INPUT: true; the input reads as it did. -/
def lpcFlatSpec : ChangeSpec := { name := "lpcFlat", fn := fun _ => fun
  | [d] => { results := [.lit (.bool true)], args := [d] }
  | _ => none }
def lpcFlatRow : OpenClaim := { program := "ytgnklnpnfnpncaa", sum := "fa7ec8a54d89ca40bcee23f0497ddd330c824ef6040ef97b81c94f2572c79c1f", func := "madrigal/madrigallaw7.LpcFlat", spec := "lpcFlat", apart := false }
def LpcFlatSaid : Prop := lpcFlatRow.holds Try.pinned (OpenSpec.ofChange lpcFlatSpec)

/-- ITS FALSE NEIGHBOUR: 'it returns false'. Refute it at one input. -/
def lpcFlatWrong : ChangeSpec := { name := "lpcFlat", fn := fun _ => fun
  | [d] => { results := [.lit (.bool false)], args := [d] }
  | _ => none }
def LpcFlatWrongFalsely : Prop := lpcFlatRow.holds Try.pinned (OpenSpec.ofChange lpcFlatWrong)

/-- 'madrigallaw7.LpcChirps': WHATEVER THE INPUT: true; the input reads as it did. -/
def lpcChirpsSpec : ChangeSpec := { name := "lpcChirps", fn := fun _ => fun
  | [d1, d2] => { results := [.lit (.bool true)], args := [d1, d2] }
  | _ => none }
def lpcChirpsRow : OpenClaim := { program := "ytgnklnpnfnpncaa", sum := "fa7ec8a54d89ca40bcee23f0497ddd330c824ef6040ef97b81c94f2572c79c1f", func := "madrigal/madrigallaw7.LpcChirps", spec := "lpcChirps", apart := false }
def LpcChirpsSaid : Prop := lpcChirpsRow.holds Try.pinned (OpenSpec.ofChange lpcChirpsSpec)

/-- ITS FALSE NEIGHBOUR: 'it returns false'. Refute it at one input. -/
def lpcChirpsWrong : ChangeSpec := { name := "lpcChirps", fn := fun _ => fun
  | [d1, d2] => { results := [.lit (.bool false)], args := [d1, d2] }
  | _ => none }
def LpcChirpsWrongFalsely : Prop := lpcChirpsRow.holds Try.pinned (OpenSpec.ofChange lpcChirpsWrong)

/-- 'madrigallaw7.LpcOne': WHATEVER THE INPUT: true; the input reads as it did. -/
def lpcOneSpec : ChangeSpec := { name := "lpcOne", fn := fun _ => fun
  | [d] => { results := [.lit (.bool true)], args := [d] }
  | _ => none }
def lpcOneRow : OpenClaim := { program := "ytgnklnpnfnpncaa", sum := "fa7ec8a54d89ca40bcee23f0497ddd330c824ef6040ef97b81c94f2572c79c1f", func := "madrigal/madrigallaw7.LpcOne", spec := "lpcOne", apart := false }
def LpcOneSaid : Prop := lpcOneRow.holds Try.pinned (OpenSpec.ofChange lpcOneSpec)

/-- ITS FALSE NEIGHBOUR: 'it returns false'. Refute it at one input. -/
def lpcOneWrong : ChangeSpec := { name := "lpcOne", fn := fun _ => fun
  | [d] => { results := [.lit (.bool false)], args := [d] }
  | _ => none }
def LpcOneWrongFalsely : Prop := lpcOneRow.holds Try.pinned (OpenSpec.ofChange lpcOneWrong)

/- THE SECOND FORM. 'bulk': how many values and letters a reading holds, each counted each time it is reached (what is shared counts as often as it is met; a slice's spare places count too). A statement '..UptoSaid' is the law's where the arguments, and the package variables that the reading takes, are together of bulk at most 1048576: NARROWER than '..Said'. Prove '..Said' where nothing that the law and all that it calls make is longer than what came in: it says more and counts as full. Else prove '..UptoSaid'. A law counts once. -/
mutual
def uptoBulk {H : Type} : DataW H → Nat
  | .lit (.string bytes) => bytes.length + 1
  | .lit _ => 1
  | .nil => 1
  | .ptr d => uptoBulk d + 1
  | .slice elems spare => uptoBulkAll elems + uptoBulkAll spare + 1
  | .agg parts => uptoBulkAll parts + 1
  | .iface _ d => uptoBulk d + 1
  | .map entries => uptoBulkEntries entries + 1
  | .held _ => 1
def uptoBulkAll {H : Type} : List (DataW H) → Nat
  | [] => 0
  | d :: r => uptoBulk d + uptoBulkAll r
def uptoBulkEntries {H : Type} : List (Lit × DataW H) → Nat
  | [] => 0
  | x :: r => uptoBulkEntry x + uptoBulkEntries r
def uptoBulkEntry {H : Type} : Lit × DataW H → Nat
  | (.string bytes, d) => bytes.length + uptoBulk d + 1
  | (_, d) => uptoBulk d + 1
 end
def uptoSmall : (H : Type) → List (DataW H) → Bool := fun _ ds => decide (uptoBulkAll ds ≤ 1048576)
def OpenSpec.upto (s : _root_.Go.ChangeSpec) : _root_.Go.OpenSpec := { _root_.Go.OpenSpec.ofChange s with cond := some uptoSmall }

/-- 'madrigallaw7.LpcKnown', WHERE WHAT IT READS IS OF BULK AT MOST 1048576: true; the input reads as it did. -/
def lpcKnownUptoRow : OpenClaim := { program := "ytgnklnpnfnpncaa", sum := "fa7ec8a54d89ca40bcee23f0497ddd330c824ef6040ef97b81c94f2572c79c1f", func := "madrigal/madrigallaw7.LpcKnown", spec := "lpcKnown", apart := false, narrowed := true }
def LpcKnownUptoSaid : Prop := lpcKnownUptoRow.holds Try.pinned (OpenSpec.upto lpcKnownSpec)

/-- 'madrigallaw7.LpcDies', WHERE WHAT IT READS IS OF BULK AT MOST 1048576: true; the input reads as it did. -/
def lpcDiesUptoRow : OpenClaim := { program := "ytgnklnpnfnpncaa", sum := "fa7ec8a54d89ca40bcee23f0497ddd330c824ef6040ef97b81c94f2572c79c1f", func := "madrigal/madrigallaw7.LpcDies", spec := "lpcDies", apart := false, narrowed := true }
def LpcDiesUptoSaid : Prop := lpcDiesUptoRow.holds Try.pinned (OpenSpec.upto lpcDiesSpec)

/-- 'madrigallaw7.LpcFlat', WHERE WHAT IT READS IS OF BULK AT MOST 1048576: true; the input reads as it did. -/
def lpcFlatUptoRow : OpenClaim := { program := "ytgnklnpnfnpncaa", sum := "fa7ec8a54d89ca40bcee23f0497ddd330c824ef6040ef97b81c94f2572c79c1f", func := "madrigal/madrigallaw7.LpcFlat", spec := "lpcFlat", apart := false, narrowed := true }
def LpcFlatUptoSaid : Prop := lpcFlatUptoRow.holds Try.pinned (OpenSpec.upto lpcFlatSpec)

/-- 'madrigallaw7.LpcChirps', WHERE WHAT IT READS IS OF BULK AT MOST 1048576: true; the input reads as it did. -/
def lpcChirpsUptoRow : OpenClaim := { program := "ytgnklnpnfnpncaa", sum := "fa7ec8a54d89ca40bcee23f0497ddd330c824ef6040ef97b81c94f2572c79c1f", func := "madrigal/madrigallaw7.LpcChirps", spec := "lpcChirps", apart := false, narrowed := true }
def LpcChirpsUptoSaid : Prop := lpcChirpsUptoRow.holds Try.pinned (OpenSpec.upto lpcChirpsSpec)

/-- 'madrigallaw7.LpcOne', WHERE WHAT IT READS IS OF BULK AT MOST 1048576: true; the input reads as it did. -/
def lpcOneUptoRow : OpenClaim := { program := "ytgnklnpnfnpncaa", sum := "fa7ec8a54d89ca40bcee23f0497ddd330c824ef6040ef97b81c94f2572c79c1f", func := "madrigal/madrigallaw7.LpcOne", spec := "lpcOne", apart := false, narrowed := true }
def LpcOneUptoSaid : Prop := lpcOneUptoRow.holds Try.pinned (OpenSpec.upto lpcOneSpec)

end Rows
end Go.Proofs.Ytgnklnpnfnpncaa
