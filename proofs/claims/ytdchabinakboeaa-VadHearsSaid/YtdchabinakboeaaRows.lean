/-
  No cell of these rows narrows 'for every input' (looked for: loops, veiled, ifaces, maps, wideKeys, modest, calm, conditions, laid).
  DERIVED. THE GIVEN ROWS OF THIS SEAT. 11 by the template 'for every input the law returns true; each argument reads behind the call as it read before'; 0 by the template 'total and deterministic' (their statements: YtdchabinakboeaaTotals.lean).
  GIVEN WITH THE SEED: the statements are not yours to turn. If you find one false, say at which input.
  Laid BY PROGRAM, IN A SANDBOX (cutbox-rows.mjs): the forced cells as the released guide's own fill.sh prints them over the translation 2da643d46ede182b… (all of the seat's roots in one cut). By AI agents, Wed Nov 11 2026. No macro, syntax, notation, axiom, sorry.
-/
import Derived.Test.YtdchabinakboeaaChecked
import GoSem.Claim
import GoSem.ClaimJoined
import GoSem.ClaimMapViews
import Derived.JoinedTies
import Derived.KernelRfl
namespace Go.Proofs.Ytdchabinakboeaa
/- THE CELL 'sum', in the pinned program and in every row, IS THE sha256 OF THE DUMP (.gsa) THAT YtdchabinakboeaaProg.lean LOADS. Nothing in Lean hashes anything: it is a label: what it is worth is what the hold of that sum in a sandbox is worth. -/
noncomputable def Try.pinned : Pinned := { name := "ytdchabinakboeaa", sum := "2da643d46ede182b51e2494041a80e10ca112c0c1c53b7db307ea09f887a0cf2", checked := Try.checked }
namespace Rows
def none {H : Type} : Left H := { results := [], args := [] }

/-- 'madrigallaw13.VadKnown': WHATEVER THE INPUT: true; the input reads as it did. -/
def vadKnownSpec : ChangeSpec := { name := "vadKnown", fn := fun _ => fun
  | [] => { results := [.lit (.bool true)], args := [] }
  | _ => none }
def vadKnownRow : OpenClaim := { program := "ytdchabinakboeaa", sum := "2da643d46ede182b51e2494041a80e10ca112c0c1c53b7db307ea09f887a0cf2", func := "madrigal/madrigallaw13.VadKnown", spec := "vadKnown", unfollowed := true, recurses := true, apart := false }
def VadKnownSaid : Prop := vadKnownRow.holds Try.pinned (OpenSpec.ofChange vadKnownSpec)

/-- ITS FALSE NEIGHBOUR: 'it returns false'. Refute it at one input. -/
def vadKnownWrong : ChangeSpec := { name := "vadKnown", fn := fun _ => fun
  | [] => { results := [.lit (.bool false)], args := [] }
  | _ => none }
def VadKnownWrongFalsely : Prop := vadKnownRow.holds Try.pinned (OpenSpec.ofChange vadKnownWrong)

/-- 'madrigallaw13.VadHears': WHATEVER THE INPUT: true; the input reads as it did. -/
def vadHearsSpec : ChangeSpec := { name := "vadHears", fn := fun _ => fun
  | [d] => { results := [.lit (.bool true)], args := [d] }
  | _ => none }
def vadHearsRow : OpenClaim := { program := "ytdchabinakboeaa", sum := "2da643d46ede182b51e2494041a80e10ca112c0c1c53b7db307ea09f887a0cf2", func := "madrigal/madrigallaw13.VadHears", spec := "vadHears", unfollowed := true, recurses := true, apart := false }
def VadHearsSaid : Prop := vadHearsRow.holds Try.pinned (OpenSpec.ofChange vadHearsSpec)

/-- ITS FALSE NEIGHBOUR: 'it returns false'. Refute it at one input. -/
def vadHearsWrong : ChangeSpec := { name := "vadHears", fn := fun _ => fun
  | [d] => { results := [.lit (.bool false)], args := [d] }
  | _ => none }
def VadHearsWrongFalsely : Prop := vadHearsRow.holds Try.pinned (OpenSpec.ofChange vadHearsWrong)

/-- 'madrigallaw13.VadFades': WHATEVER THE INPUT: true; the input reads as it did. -/
def vadFadesSpec : ChangeSpec := { name := "vadFades", fn := fun _ => fun
  | [d1, d2] => { results := [.lit (.bool true)], args := [d1, d2] }
  | _ => none }
def vadFadesRow : OpenClaim := { program := "ytdchabinakboeaa", sum := "2da643d46ede182b51e2494041a80e10ca112c0c1c53b7db307ea09f887a0cf2", func := "madrigal/madrigallaw13.VadFades", spec := "vadFades", unfollowed := true, recurses := true, apart := false }
def VadFadesSaid : Prop := vadFadesRow.holds Try.pinned (OpenSpec.ofChange vadFadesSpec)

/-- ITS FALSE NEIGHBOUR: 'it returns false'. Refute it at one input. -/
def vadFadesWrong : ChangeSpec := { name := "vadFades", fn := fun _ => fun
  | [d1, d2] => { results := [.lit (.bool false)], args := [d1, d2] }
  | _ => none }
def VadFadesWrongFalsely : Prop := vadFadesRow.holds Try.pinned (OpenSpec.ofChange vadFadesWrong)

/-- 'madrigallaw13.VadLouder': WHATEVER THE INPUT: true; the input reads as it did. -/
def vadLouderSpec : ChangeSpec := { name := "vadLouder", fn := fun _ => fun
  | [d1, d2] => { results := [.lit (.bool true)], args := [d1, d2] }
  | _ => none }
def vadLouderRow : OpenClaim := { program := "ytdchabinakboeaa", sum := "2da643d46ede182b51e2494041a80e10ca112c0c1c53b7db307ea09f887a0cf2", func := "madrigal/madrigallaw13.VadLouder", spec := "vadLouder", unfollowed := true, recurses := true, apart := false }
def VadLouderSaid : Prop := vadLouderRow.holds Try.pinned (OpenSpec.ofChange vadLouderSpec)

/-- ITS FALSE NEIGHBOUR: 'it returns false'. Refute it at one input. -/
def vadLouderWrong : ChangeSpec := { name := "vadLouder", fn := fun _ => fun
  | [d1, d2] => { results := [.lit (.bool false)], args := [d1, d2] }
  | _ => none }
def VadLouderWrongFalsely : Prop := vadLouderRow.holds Try.pinned (OpenSpec.ofChange vadLouderWrong)

/-- 'madrigallaw6.LsfKnown': WHATEVER THE INPUT: true; the input reads as it did. -/
def lsfKnownSpec : ChangeSpec := { name := "lsfKnown", fn := fun _ => fun
  | [] => { results := [.lit (.bool true)], args := [] }
  | _ => none }
def lsfKnownRow : OpenClaim := { program := "ytdchabinakboeaa", sum := "2da643d46ede182b51e2494041a80e10ca112c0c1c53b7db307ea09f887a0cf2", func := "madrigal/madrigallaw6.LsfKnown", spec := "lsfKnown", apart := false }
def LsfKnownSaid : Prop := lsfKnownRow.holds Try.pinned (OpenSpec.ofChange lsfKnownSpec)

/-- ITS FALSE NEIGHBOUR: 'it returns false'. Refute it at one input. -/
def lsfKnownWrong : ChangeSpec := { name := "lsfKnown", fn := fun _ => fun
  | [] => { results := [.lit (.bool false)], args := [] }
  | _ => none }
def LsfKnownWrongFalsely : Prop := lsfKnownRow.holds Try.pinned (OpenSpec.ofChange lsfKnownWrong)

/-- 'madrigallaw6.LsfSays': WHATEVER THE INPUT: true; the input reads as it did. -/
def lsfSaysSpec : ChangeSpec := { name := "lsfSays", fn := fun _ => fun
  | [d1, d2, d3, d4, d5] => { results := [.lit (.bool true)], args := [d1, d2, d3, d4, d5] }
  | _ => none }
def lsfSaysRow : OpenClaim := { program := "ytdchabinakboeaa", sum := "2da643d46ede182b51e2494041a80e10ca112c0c1c53b7db307ea09f887a0cf2", func := "madrigal/madrigallaw6.LsfSays", spec := "lsfSays", apart := false }
def LsfSaysSaid : Prop := lsfSaysRow.holds Try.pinned (OpenSpec.ofChange lsfSaysSpec)

/-- ITS FALSE NEIGHBOUR: 'it returns false'. Refute it at one input. -/
def lsfSaysWrong : ChangeSpec := { name := "lsfSays", fn := fun _ => fun
  | [d1, d2, d3, d4, d5] => { results := [.lit (.bool false)], args := [d1, d2, d3, d4, d5] }
  | _ => none }
def LsfSaysWrongFalsely : Prop := lsfSaysRow.holds Try.pinned (OpenSpec.ofChange lsfSaysWrong)

/-- 'madrigallaw6.LsfRises': WHATEVER THE INPUT: true; the input reads as it did. -/
def lsfRisesSpec : ChangeSpec := { name := "lsfRises", fn := fun _ => fun
  | [d1, d2, d3] => { results := [.lit (.bool true)], args := [d1, d2, d3] }
  | _ => none }
def lsfRisesRow : OpenClaim := { program := "ytdchabinakboeaa", sum := "2da643d46ede182b51e2494041a80e10ca112c0c1c53b7db307ea09f887a0cf2", func := "madrigal/madrigallaw6.LsfRises", spec := "lsfRises", apart := false }
def LsfRisesSaid : Prop := lsfRisesRow.holds Try.pinned (OpenSpec.ofChange lsfRisesSpec)

/-- ITS FALSE NEIGHBOUR: 'it returns false'. Refute it at one input. -/
def lsfRisesWrong : ChangeSpec := { name := "lsfRises", fn := fun _ => fun
  | [d1, d2, d3] => { results := [.lit (.bool false)], args := [d1, d2, d3] }
  | _ => none }
def LsfRisesWrongFalsely : Prop := lsfRisesRow.holds Try.pinned (OpenSpec.ofChange lsfRisesWrong)

/-- 'madrigallaw6.LsfNear': WHATEVER THE INPUT: true; the input reads as it did. -/
def lsfNearSpec : ChangeSpec := { name := "lsfNear", fn := fun _ => fun
  | [d1, d2] => { results := [.lit (.bool true)], args := [d1, d2] }
  | _ => none }
def lsfNearRow : OpenClaim := { program := "ytdchabinakboeaa", sum := "2da643d46ede182b51e2494041a80e10ca112c0c1c53b7db307ea09f887a0cf2", func := "madrigal/madrigallaw6.LsfNear", spec := "lsfNear", apart := false }
def LsfNearSaid : Prop := lsfNearRow.holds Try.pinned (OpenSpec.ofChange lsfNearSpec)

/-- ITS FALSE NEIGHBOUR: 'it returns false'. Refute it at one input. -/
def lsfNearWrong : ChangeSpec := { name := "lsfNear", fn := fun _ => fun
  | [d1, d2] => { results := [.lit (.bool false)], args := [d1, d2] }
  | _ => none }
def LsfNearWrongFalsely : Prop := lsfNearRow.holds Try.pinned (OpenSpec.ofChange lsfNearWrong)

/-- 'madrigallaw6.LsfBetween': WHATEVER THE INPUT: true; the input reads as it did. -/
def lsfBetweenSpec : ChangeSpec := { name := "lsfBetween", fn := fun _ => fun
  | [d1, d2, d3] => { results := [.lit (.bool true)], args := [d1, d2, d3] }
  | _ => none }
def lsfBetweenRow : OpenClaim := { program := "ytdchabinakboeaa", sum := "2da643d46ede182b51e2494041a80e10ca112c0c1c53b7db307ea09f887a0cf2", func := "madrigal/madrigallaw6.LsfBetween", spec := "lsfBetween", apart := false }
def LsfBetweenSaid : Prop := lsfBetweenRow.holds Try.pinned (OpenSpec.ofChange lsfBetweenSpec)

/-- ITS FALSE NEIGHBOUR: 'it returns false'. Refute it at one input. -/
def lsfBetweenWrong : ChangeSpec := { name := "lsfBetween", fn := fun _ => fun
  | [d1, d2, d3] => { results := [.lit (.bool false)], args := [d1, d2, d3] }
  | _ => none }
def LsfBetweenWrongFalsely : Prop := lsfBetweenRow.holds Try.pinned (OpenSpec.ofChange lsfBetweenWrong)

/-- 'madrigallaw6.LsfSteadies': WHATEVER THE INPUT: true; the input reads as it did. -/
def lsfSteadiesSpec : ChangeSpec := { name := "lsfSteadies", fn := fun _ => fun
  | [d] => { results := [.lit (.bool true)], args := [d] }
  | _ => none }
def lsfSteadiesRow : OpenClaim := { program := "ytdchabinakboeaa", sum := "2da643d46ede182b51e2494041a80e10ca112c0c1c53b7db307ea09f887a0cf2", func := "madrigal/madrigallaw6.LsfSteadies", spec := "lsfSteadies", apart := false }
def LsfSteadiesSaid : Prop := lsfSteadiesRow.holds Try.pinned (OpenSpec.ofChange lsfSteadiesSpec)

/-- ITS FALSE NEIGHBOUR: 'it returns false'. Refute it at one input. -/
def lsfSteadiesWrong : ChangeSpec := { name := "lsfSteadies", fn := fun _ => fun
  | [d] => { results := [.lit (.bool false)], args := [d] }
  | _ => none }
def LsfSteadiesWrongFalsely : Prop := lsfSteadiesRow.holds Try.pinned (OpenSpec.ofChange lsfSteadiesWrong)

/-- 'madrigallaw6.LsfOwn': WHATEVER THE INPUT: true; the input reads as it did. -/
def lsfOwnSpec : ChangeSpec := { name := "lsfOwn", fn := fun _ => fun
  | [d1, d2] => { results := [.lit (.bool true)], args := [d1, d2] }
  | _ => none }
def lsfOwnRow : OpenClaim := { program := "ytdchabinakboeaa", sum := "2da643d46ede182b51e2494041a80e10ca112c0c1c53b7db307ea09f887a0cf2", func := "madrigal/madrigallaw6.LsfOwn", spec := "lsfOwn", apart := false }
def LsfOwnSaid : Prop := lsfOwnRow.holds Try.pinned (OpenSpec.ofChange lsfOwnSpec)

/-- ITS FALSE NEIGHBOUR: 'it returns false'. Refute it at one input. -/
def lsfOwnWrong : ChangeSpec := { name := "lsfOwn", fn := fun _ => fun
  | [d1, d2] => { results := [.lit (.bool false)], args := [d1, d2] }
  | _ => none }
def LsfOwnWrongFalsely : Prop := lsfOwnRow.holds Try.pinned (OpenSpec.ofChange lsfOwnWrong)

/- THE SECOND FORM. 'bulk': how many values and letters a reading holds, each counted each time it is reached (what is shared counts as often as it is met; a slice's spare places count too). A statement '..UptoSaid' is the law's where the arguments, and the package variables that the reading takes, are together of bulk at most 1048576: NARROWER than '..Said'. Prove '..Said' where nothing that the law and all that it calls make is longer than what came in: it says more and counts as full. Else prove '..UptoSaid'. A law counts once. -/
mutual
def uptoBulk {H : Type} : DataW H → Nat
  | .lit (.string bytes) => bytes.length + 1
  | .lit _ => 1
  | .nil => 1
  | .ptr d => uptoBulk d + 1
  | .slice elems spare => uptoBulkAll elems + uptoBulkAll spare + 1
  | .agg parts => uptoBulkAll parts + 1
  | .iface _ d => uptoBulk d + 1
  | .map entries => uptoBulkEntries entries + 1
  | .held _ => 1
def uptoBulkAll {H : Type} : List (DataW H) → Nat
  | [] => 0
  | d :: r => uptoBulk d + uptoBulkAll r
def uptoBulkEntries {H : Type} : List (Lit × DataW H) → Nat
  | [] => 0
  | x :: r => uptoBulkEntry x + uptoBulkEntries r
def uptoBulkEntry {H : Type} : Lit × DataW H → Nat
  | (.string bytes, d) => bytes.length + uptoBulk d + 1
  | (_, d) => uptoBulk d + 1
 end
def uptoSmall : (H : Type) → List (DataW H) → Bool := fun _ ds => decide (uptoBulkAll ds ≤ 1048576)
def OpenSpec.upto (s : _root_.Go.ChangeSpec) : _root_.Go.OpenSpec := { _root_.Go.OpenSpec.ofChange s with cond := some uptoSmall }

/-- 'madrigallaw13.VadKnown', WHERE WHAT IT READS IS OF BULK AT MOST 1048576: true; the input reads as it did. -/
def vadKnownUptoRow : OpenClaim := { program := "ytdchabinakboeaa", sum := "2da643d46ede182b51e2494041a80e10ca112c0c1c53b7db307ea09f887a0cf2", func := "madrigal/madrigallaw13.VadKnown", spec := "vadKnown", unfollowed := true, recurses := true, apart := false, narrowed := true }
def VadKnownUptoSaid : Prop := vadKnownUptoRow.holds Try.pinned (OpenSpec.upto vadKnownSpec)

/-- 'madrigallaw13.VadHears', WHERE WHAT IT READS IS OF BULK AT MOST 1048576: true; the input reads as it did. -/
def vadHearsUptoRow : OpenClaim := { program := "ytdchabinakboeaa", sum := "2da643d46ede182b51e2494041a80e10ca112c0c1c53b7db307ea09f887a0cf2", func := "madrigal/madrigallaw13.VadHears", spec := "vadHears", unfollowed := true, recurses := true, apart := false, narrowed := true }
def VadHearsUptoSaid : Prop := vadHearsUptoRow.holds Try.pinned (OpenSpec.upto vadHearsSpec)

/-- 'madrigallaw13.VadFades', WHERE WHAT IT READS IS OF BULK AT MOST 1048576: true; the input reads as it did. -/
def vadFadesUptoRow : OpenClaim := { program := "ytdchabinakboeaa", sum := "2da643d46ede182b51e2494041a80e10ca112c0c1c53b7db307ea09f887a0cf2", func := "madrigal/madrigallaw13.VadFades", spec := "vadFades", unfollowed := true, recurses := true, apart := false, narrowed := true }
def VadFadesUptoSaid : Prop := vadFadesUptoRow.holds Try.pinned (OpenSpec.upto vadFadesSpec)

/-- 'madrigallaw13.VadLouder', WHERE WHAT IT READS IS OF BULK AT MOST 1048576: true; the input reads as it did. -/
def vadLouderUptoRow : OpenClaim := { program := "ytdchabinakboeaa", sum := "2da643d46ede182b51e2494041a80e10ca112c0c1c53b7db307ea09f887a0cf2", func := "madrigal/madrigallaw13.VadLouder", spec := "vadLouder", unfollowed := true, recurses := true, apart := false, narrowed := true }
def VadLouderUptoSaid : Prop := vadLouderUptoRow.holds Try.pinned (OpenSpec.upto vadLouderSpec)

/-- 'madrigallaw6.LsfKnown', WHERE WHAT IT READS IS OF BULK AT MOST 1048576: true; the input reads as it did. -/
def lsfKnownUptoRow : OpenClaim := { program := "ytdchabinakboeaa", sum := "2da643d46ede182b51e2494041a80e10ca112c0c1c53b7db307ea09f887a0cf2", func := "madrigal/madrigallaw6.LsfKnown", spec := "lsfKnown", apart := false, narrowed := true }
def LsfKnownUptoSaid : Prop := lsfKnownUptoRow.holds Try.pinned (OpenSpec.upto lsfKnownSpec)

/-- 'madrigallaw6.LsfSays', WHERE WHAT IT READS IS OF BULK AT MOST 1048576: true; the input reads as it did. -/
def lsfSaysUptoRow : OpenClaim := { program := "ytdchabinakboeaa", sum := "2da643d46ede182b51e2494041a80e10ca112c0c1c53b7db307ea09f887a0cf2", func := "madrigal/madrigallaw6.LsfSays", spec := "lsfSays", apart := false, narrowed := true }
def LsfSaysUptoSaid : Prop := lsfSaysUptoRow.holds Try.pinned (OpenSpec.upto lsfSaysSpec)

/-- 'madrigallaw6.LsfRises', WHERE WHAT IT READS IS OF BULK AT MOST 1048576: true; the input reads as it did. -/
def lsfRisesUptoRow : OpenClaim := { program := "ytdchabinakboeaa", sum := "2da643d46ede182b51e2494041a80e10ca112c0c1c53b7db307ea09f887a0cf2", func := "madrigal/madrigallaw6.LsfRises", spec := "lsfRises", apart := false, narrowed := true }
def LsfRisesUptoSaid : Prop := lsfRisesUptoRow.holds Try.pinned (OpenSpec.upto lsfRisesSpec)

/-- 'madrigallaw6.LsfNear', WHERE WHAT IT READS IS OF BULK AT MOST 1048576: true; the input reads as it did. -/
def lsfNearUptoRow : OpenClaim := { program := "ytdchabinakboeaa", sum := "2da643d46ede182b51e2494041a80e10ca112c0c1c53b7db307ea09f887a0cf2", func := "madrigal/madrigallaw6.LsfNear", spec := "lsfNear", apart := false, narrowed := true }
def LsfNearUptoSaid : Prop := lsfNearUptoRow.holds Try.pinned (OpenSpec.upto lsfNearSpec)

/-- 'madrigallaw6.LsfBetween', WHERE WHAT IT READS IS OF BULK AT MOST 1048576: true; the input reads as it did. -/
def lsfBetweenUptoRow : OpenClaim := { program := "ytdchabinakboeaa", sum := "2da643d46ede182b51e2494041a80e10ca112c0c1c53b7db307ea09f887a0cf2", func := "madrigal/madrigallaw6.LsfBetween", spec := "lsfBetween", apart := false, narrowed := true }
def LsfBetweenUptoSaid : Prop := lsfBetweenUptoRow.holds Try.pinned (OpenSpec.upto lsfBetweenSpec)

/-- 'madrigallaw6.LsfSteadies', WHERE WHAT IT READS IS OF BULK AT MOST 1048576: true; the input reads as it did. -/
def lsfSteadiesUptoRow : OpenClaim := { program := "ytdchabinakboeaa", sum := "2da643d46ede182b51e2494041a80e10ca112c0c1c53b7db307ea09f887a0cf2", func := "madrigal/madrigallaw6.LsfSteadies", spec := "lsfSteadies", apart := false, narrowed := true }
def LsfSteadiesUptoSaid : Prop := lsfSteadiesUptoRow.holds Try.pinned (OpenSpec.upto lsfSteadiesSpec)

/-- 'madrigallaw6.LsfOwn', WHERE WHAT IT READS IS OF BULK AT MOST 1048576: true; the input reads as it did. -/
def lsfOwnUptoRow : OpenClaim := { program := "ytdchabinakboeaa", sum := "2da643d46ede182b51e2494041a80e10ca112c0c1c53b7db307ea09f887a0cf2", func := "madrigal/madrigallaw6.LsfOwn", spec := "lsfOwn", apart := false, narrowed := true }
def LsfOwnUptoSaid : Prop := lsfOwnUptoRow.holds Try.pinned (OpenSpec.upto lsfOwnSpec)

end Rows
end Go.Proofs.Ytdchabinakboeaa
