/-
  No cell of these rows narrows 'for every input' (looked for: loops, veiled, ifaces, maps, wideKeys, modest, calm, conditions, laid).
  DERIVED. THE GIVEN ROWS OF THIS SEAT. 8 by the template 'for every input the law returns true; each argument reads behind the call as it read before'; 0 by the template 'total and deterministic' (their statements: YtkpekdkejcofiaaTotals.lean).
  GIVEN WITH THE SEED: the statements are not yours to turn. If you find one false, say at which input.
  Laid BY PROGRAM, IN A SANDBOX (cutbox-rows.mjs): the forced cells as the released guide's own fill.sh prints them over the translation 0f56bb1472da7118… (all of the seat's roots in one cut). By AI agents, Wed Nov 11 2026. No macro, syntax, notation, axiom, sorry.
-/
import Derived.Test.YtkpekdkejcofiaaChecked
import GoSem.Claim
import GoSem.ClaimJoined
import GoSem.ClaimMapViews
import Derived.JoinedTies
import Derived.KernelRfl
namespace Go.Proofs.Ytkpekdkejcofiaa
/- THE CELL 'sum', in the pinned program and in every row, IS THE sha256 OF THE DUMP (.gsa) THAT YtkpekdkejcofiaaProg.lean LOADS. Nothing in Lean hashes anything: it is a label: what it is worth is what the hold of that sum in a sandbox is worth. -/
noncomputable def Try.pinned : Pinned := { name := "ytkpekdkejcofiaa", sum := "0f56bb1472da71182026f45e0fb431ff0be63d37f683560a25a4987caf770187", checked := Try.checked }
namespace Rows
def none {H : Type} : Left H := { results := [], args := [] }

/-- 'ricochetlaw01.FixWays': WHATEVER THE INPUT: true; the input reads as it did. -/
def fixWaysSpec : ChangeSpec := { name := "fixWays", fn := fun _ => fun
  | [d1, d2, d3] => { results := [.lit (.bool true)], args := [d1, d2, d3] }
  | _ => none }
def fixWaysRow : OpenClaim := { program := "ytkpekdkejcofiaa", sum := "0f56bb1472da71182026f45e0fb431ff0be63d37f683560a25a4987caf770187", func := "ricochet/ricochetlaw01.FixWays", spec := "fixWays", apart := false }
def FixWaysSaid : Prop := fixWaysRow.holds Try.pinned (OpenSpec.ofChange fixWaysSpec)

/-- ITS FALSE NEIGHBOUR: 'it returns false'. Refute it at one input. -/
def fixWaysWrong : ChangeSpec := { name := "fixWays", fn := fun _ => fun
  | [d1, d2, d3] => { results := [.lit (.bool false)], args := [d1, d2, d3] }
  | _ => none }
def FixWaysWrongFalsely : Prop := fixWaysRow.holds Try.pinned (OpenSpec.ofChange fixWaysWrong)

/-- 'ricochetlaw01.FixWhole': WHATEVER THE INPUT: true; the input reads as it did. -/
def fixWholeSpec : ChangeSpec := { name := "fixWhole", fn := fun _ => fun
  | [d1, d2] => { results := [.lit (.bool true)], args := [d1, d2] }
  | _ => none }
def fixWholeRow : OpenClaim := { program := "ytkpekdkejcofiaa", sum := "0f56bb1472da71182026f45e0fb431ff0be63d37f683560a25a4987caf770187", func := "ricochet/ricochetlaw01.FixWhole", spec := "fixWhole", apart := false }
def FixWholeSaid : Prop := fixWholeRow.holds Try.pinned (OpenSpec.ofChange fixWholeSpec)

/-- ITS FALSE NEIGHBOUR: 'it returns false'. Refute it at one input. -/
def fixWholeWrong : ChangeSpec := { name := "fixWhole", fn := fun _ => fun
  | [d1, d2] => { results := [.lit (.bool false)], args := [d1, d2] }
  | _ => none }
def FixWholeWrongFalsely : Prop := fixWholeRow.holds Try.pinned (OpenSpec.ofChange fixWholeWrong)

/-- 'ricochetlaw01.FixRoots': WHATEVER THE INPUT: true; the input reads as it did. -/
def fixRootsSpec : ChangeSpec := { name := "fixRoots", fn := fun _ => fun
  | [d] => { results := [.lit (.bool true)], args := [d] }
  | _ => none }
def fixRootsRow : OpenClaim := { program := "ytkpekdkejcofiaa", sum := "0f56bb1472da71182026f45e0fb431ff0be63d37f683560a25a4987caf770187", func := "ricochet/ricochetlaw01.FixRoots", spec := "fixRoots", apart := false }
def FixRootsSaid : Prop := fixRootsRow.holds Try.pinned (OpenSpec.ofChange fixRootsSpec)

/-- ITS FALSE NEIGHBOUR: 'it returns false'. Refute it at one input. -/
def fixRootsWrong : ChangeSpec := { name := "fixRoots", fn := fun _ => fun
  | [d] => { results := [.lit (.bool false)], args := [d] }
  | _ => none }
def FixRootsWrongFalsely : Prop := fixRootsRow.holds Try.pinned (OpenSpec.ofChange fixRootsWrong)

/-- 'ricochetlaw01.FixMakes': WHATEVER THE INPUT: true; the input reads as it did. -/
def fixMakesSpec : ChangeSpec := { name := "fixMakes", fn := fun _ => fun
  | [d1, d2, d3] => { results := [.lit (.bool true)], args := [d1, d2, d3] }
  | _ => none }
def fixMakesRow : OpenClaim := { program := "ytkpekdkejcofiaa", sum := "0f56bb1472da71182026f45e0fb431ff0be63d37f683560a25a4987caf770187", func := "ricochet/ricochetlaw01.FixMakes", spec := "fixMakes", apart := false }
def FixMakesSaid : Prop := fixMakesRow.holds Try.pinned (OpenSpec.ofChange fixMakesSpec)

/-- ITS FALSE NEIGHBOUR: 'it returns false'. Refute it at one input. -/
def fixMakesWrong : ChangeSpec := { name := "fixMakes", fn := fun _ => fun
  | [d1, d2, d3] => { results := [.lit (.bool false)], args := [d1, d2, d3] }
  | _ => none }
def FixMakesWrongFalsely : Prop := fixMakesRow.holds Try.pinned (OpenSpec.ofChange fixMakesWrong)

/-- 'ricochetlaw01.FixRises': WHATEVER THE INPUT: true; the input reads as it did. -/
def fixRisesSpec : ChangeSpec := { name := "fixRises", fn := fun _ => fun
  | [d1, d2, d3] => { results := [.lit (.bool true)], args := [d1, d2, d3] }
  | _ => none }
def fixRisesRow : OpenClaim := { program := "ytkpekdkejcofiaa", sum := "0f56bb1472da71182026f45e0fb431ff0be63d37f683560a25a4987caf770187", func := "ricochet/ricochetlaw01.FixRises", spec := "fixRises", apart := false }
def FixRisesSaid : Prop := fixRisesRow.holds Try.pinned (OpenSpec.ofChange fixRisesSpec)

/-- ITS FALSE NEIGHBOUR: 'it returns false'. Refute it at one input. -/
def fixRisesWrong : ChangeSpec := { name := "fixRises", fn := fun _ => fun
  | [d1, d2, d3] => { results := [.lit (.bool false)], args := [d1, d2, d3] }
  | _ => none }
def FixRisesWrongFalsely : Prop := fixRisesRow.holds Try.pinned (OpenSpec.ofChange fixRisesWrong)

/-- 'ricochetlaw01.FixDivides': WHATEVER THE INPUT: true; the input reads as it did. -/
def fixDividesSpec : ChangeSpec := { name := "fixDivides", fn := fun _ => fun
  | [d1, d2] => { results := [.lit (.bool true)], args := [d1, d2] }
  | _ => none }
def fixDividesRow : OpenClaim := { program := "ytkpekdkejcofiaa", sum := "0f56bb1472da71182026f45e0fb431ff0be63d37f683560a25a4987caf770187", func := "ricochet/ricochetlaw01.FixDivides", spec := "fixDivides", apart := false }
def FixDividesSaid : Prop := fixDividesRow.holds Try.pinned (OpenSpec.ofChange fixDividesSpec)

/-- ITS FALSE NEIGHBOUR: 'it returns false'. Refute it at one input. -/
def fixDividesWrong : ChangeSpec := { name := "fixDivides", fn := fun _ => fun
  | [d1, d2] => { results := [.lit (.bool false)], args := [d1, d2] }
  | _ => none }
def FixDividesWrongFalsely : Prop := fixDividesRow.holds Try.pinned (OpenSpec.ofChange fixDividesWrong)

/-- 'ricochetlaw01.FixReckons': WHATEVER THE INPUT: true; the input reads as it did. -/
def fixReckonsSpec : ChangeSpec := { name := "fixReckons", fn := fun _ => fun
  | [d1, d2] => { results := [.lit (.bool true)], args := [d1, d2] }
  | _ => none }
def fixReckonsRow : OpenClaim := { program := "ytkpekdkejcofiaa", sum := "0f56bb1472da71182026f45e0fb431ff0be63d37f683560a25a4987caf770187", func := "ricochet/ricochetlaw01.FixReckons", spec := "fixReckons", apart := false }
def FixReckonsSaid : Prop := fixReckonsRow.holds Try.pinned (OpenSpec.ofChange fixReckonsSpec)

/-- ITS FALSE NEIGHBOUR: 'it returns false'. Refute it at one input. -/
def fixReckonsWrong : ChangeSpec := { name := "fixReckons", fn := fun _ => fun
  | [d1, d2] => { results := [.lit (.bool false)], args := [d1, d2] }
  | _ => none }
def FixReckonsWrongFalsely : Prop := fixReckonsRow.holds Try.pinned (OpenSpec.ofChange fixReckonsWrong)

/-- 'ricochetlaw01.FixHolds': WHATEVER THE INPUT: true; the input reads as it did. -/
def fixHoldsSpec : ChangeSpec := { name := "fixHolds", fn := fun _ => fun
  | [d1, d2] => { results := [.lit (.bool true)], args := [d1, d2] }
  | _ => none }
def fixHoldsRow : OpenClaim := { program := "ytkpekdkejcofiaa", sum := "0f56bb1472da71182026f45e0fb431ff0be63d37f683560a25a4987caf770187", func := "ricochet/ricochetlaw01.FixHolds", spec := "fixHolds", apart := false }
def FixHoldsSaid : Prop := fixHoldsRow.holds Try.pinned (OpenSpec.ofChange fixHoldsSpec)

/-- ITS FALSE NEIGHBOUR: 'it returns false'. Refute it at one input. -/
def fixHoldsWrong : ChangeSpec := { name := "fixHolds", fn := fun _ => fun
  | [d1, d2] => { results := [.lit (.bool false)], args := [d1, d2] }
  | _ => none }
def FixHoldsWrongFalsely : Prop := fixHoldsRow.holds Try.pinned (OpenSpec.ofChange fixHoldsWrong)

/- THE SECOND FORM. 'bulk': how many values and letters a reading holds, each counted each time it is reached (what is shared counts as often as it is met; a slice's spare places count too). A statement '..UptoSaid' is the law's where the arguments, and the package variables that the reading takes, are together of bulk at most 1048576: NARROWER than '..Said'. Prove '..Said' where nothing that the law and all that it calls make is longer than what came in: it says more and counts as full. Else prove '..UptoSaid'. A law counts once. -/
mutual
def uptoBulk {H : Type} : DataW H → Nat
  | .lit (.string bytes) => bytes.length + 1
  | .lit _ => 1
  | .nil => 1
  | .ptr d => uptoBulk d + 1
  | .slice elems spare => uptoBulkAll elems + uptoBulkAll spare + 1
  | .agg parts => uptoBulkAll parts + 1
  | .iface _ d => uptoBulk d + 1
  | .map entries => uptoBulkEntries entries + 1
  | .held _ => 1
def uptoBulkAll {H : Type} : List (DataW H) → Nat
  | [] => 0
  | d :: r => uptoBulk d + uptoBulkAll r
def uptoBulkEntries {H : Type} : List (Lit × DataW H) → Nat
  | [] => 0
  | x :: r => uptoBulkEntry x + uptoBulkEntries r
def uptoBulkEntry {H : Type} : Lit × DataW H → Nat
  | (.string bytes, d) => bytes.length + uptoBulk d + 1
  | (_, d) => uptoBulk d + 1
 end
def uptoSmall : (H : Type) → List (DataW H) → Bool := fun _ ds => decide (uptoBulkAll ds ≤ 1048576)
def OpenSpec.upto (s : _root_.Go.ChangeSpec) : _root_.Go.OpenSpec := { _root_.Go.OpenSpec.ofChange s with cond := some uptoSmall }

/-- 'ricochetlaw01.FixWays', WHERE WHAT IT READS IS OF BULK AT MOST 1048576: true; the input reads as it did. -/
def fixWaysUptoRow : OpenClaim := { program := "ytkpekdkejcofiaa", sum := "0f56bb1472da71182026f45e0fb431ff0be63d37f683560a25a4987caf770187", func := "ricochet/ricochetlaw01.FixWays", spec := "fixWays", apart := false, narrowed := true }
def FixWaysUptoSaid : Prop := fixWaysUptoRow.holds Try.pinned (OpenSpec.upto fixWaysSpec)

/-- 'ricochetlaw01.FixWhole', WHERE WHAT IT READS IS OF BULK AT MOST 1048576: true; the input reads as it did. -/
def fixWholeUptoRow : OpenClaim := { program := "ytkpekdkejcofiaa", sum := "0f56bb1472da71182026f45e0fb431ff0be63d37f683560a25a4987caf770187", func := "ricochet/ricochetlaw01.FixWhole", spec := "fixWhole", apart := false, narrowed := true }
def FixWholeUptoSaid : Prop := fixWholeUptoRow.holds Try.pinned (OpenSpec.upto fixWholeSpec)

/-- 'ricochetlaw01.FixRoots', WHERE WHAT IT READS IS OF BULK AT MOST 1048576: true; the input reads as it did. -/
def fixRootsUptoRow : OpenClaim := { program := "ytkpekdkejcofiaa", sum := "0f56bb1472da71182026f45e0fb431ff0be63d37f683560a25a4987caf770187", func := "ricochet/ricochetlaw01.FixRoots", spec := "fixRoots", apart := false, narrowed := true }
def FixRootsUptoSaid : Prop := fixRootsUptoRow.holds Try.pinned (OpenSpec.upto fixRootsSpec)

/-- 'ricochetlaw01.FixMakes', WHERE WHAT IT READS IS OF BULK AT MOST 1048576: true; the input reads as it did. -/
def fixMakesUptoRow : OpenClaim := { program := "ytkpekdkejcofiaa", sum := "0f56bb1472da71182026f45e0fb431ff0be63d37f683560a25a4987caf770187", func := "ricochet/ricochetlaw01.FixMakes", spec := "fixMakes", apart := false, narrowed := true }
def FixMakesUptoSaid : Prop := fixMakesUptoRow.holds Try.pinned (OpenSpec.upto fixMakesSpec)

/-- 'ricochetlaw01.FixRises', WHERE WHAT IT READS IS OF BULK AT MOST 1048576: true; the input reads as it did. -/
def fixRisesUptoRow : OpenClaim := { program := "ytkpekdkejcofiaa", sum := "0f56bb1472da71182026f45e0fb431ff0be63d37f683560a25a4987caf770187", func := "ricochet/ricochetlaw01.FixRises", spec := "fixRises", apart := false, narrowed := true }
def FixRisesUptoSaid : Prop := fixRisesUptoRow.holds Try.pinned (OpenSpec.upto fixRisesSpec)

/-- 'ricochetlaw01.FixDivides', WHERE WHAT IT READS IS OF BULK AT MOST 1048576: true; the input reads as it did. -/
def fixDividesUptoRow : OpenClaim := { program := "ytkpekdkejcofiaa", sum := "0f56bb1472da71182026f45e0fb431ff0be63d37f683560a25a4987caf770187", func := "ricochet/ricochetlaw01.FixDivides", spec := "fixDivides", apart := false, narrowed := true }
def FixDividesUptoSaid : Prop := fixDividesUptoRow.holds Try.pinned (OpenSpec.upto fixDividesSpec)

/-- 'ricochetlaw01.FixReckons', WHERE WHAT IT READS IS OF BULK AT MOST 1048576: true; the input reads as it did. -/
def fixReckonsUptoRow : OpenClaim := { program := "ytkpekdkejcofiaa", sum := "0f56bb1472da71182026f45e0fb431ff0be63d37f683560a25a4987caf770187", func := "ricochet/ricochetlaw01.FixReckons", spec := "fixReckons", apart := false, narrowed := true }
def FixReckonsUptoSaid : Prop := fixReckonsUptoRow.holds Try.pinned (OpenSpec.upto fixReckonsSpec)

/-- 'ricochetlaw01.FixHolds', WHERE WHAT IT READS IS OF BULK AT MOST 1048576: true; the input reads as it did. -/
def fixHoldsUptoRow : OpenClaim := { program := "ytkpekdkejcofiaa", sum := "0f56bb1472da71182026f45e0fb431ff0be63d37f683560a25a4987caf770187", func := "ricochet/ricochetlaw01.FixHolds", spec := "fixHolds", apart := false, narrowed := true }
def FixHoldsUptoSaid : Prop := fixHoldsUptoRow.holds Try.pinned (OpenSpec.upto fixHoldsSpec)

end Rows
end Go.Proofs.Ytkpekdkejcofiaa
