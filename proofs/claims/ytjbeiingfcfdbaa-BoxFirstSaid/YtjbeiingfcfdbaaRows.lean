/-
  No cell of these rows narrows 'for every input' (looked for: loops, veiled, ifaces, maps, wideKeys, modest, calm, conditions, laid).
  DERIVED. THE GIVEN ROWS OF THIS SEAT. 7 by the template 'for every input the law returns true; each argument reads behind the call as it read before'; 0 by the template 'total and deterministic' (their statements: YtjbeiingfcfdbaaTotals.lean).
  GIVEN WITH THE SEED: the statements are not yours to turn. If you find one false, say at which input.
  Laid BY PROGRAM, IN A SANDBOX (cutbox-rows.mjs): the forced cells as the released guide's own fill.sh prints them over the translation 3f5b778c611954c1… (all of the seat's roots in one cut). By AI agents, Wed Nov 11 2026. No macro, syntax, notation, axiom, sorry.
-/
import Derived.Test.YtjbeiingfcfdbaaChecked
import GoSem.Claim
import GoSem.ClaimJoined
import GoSem.ClaimMapViews
import Derived.JoinedTies
import Derived.KernelRfl
namespace Go.Proofs.Ytjbeiingfcfdbaa
/- THE CELL 'sum', in the pinned program and in every row, IS THE sha256 OF THE DUMP (.gsa) THAT YtjbeiingfcfdbaaProg.lean LOADS. Nothing in Lean hashes anything: it is a label: what it is worth is what the hold of that sum in a sandbox is worth. -/
noncomputable def Try.pinned : Pinned := { name := "ytjbeiingfcfdbaa", sum := "3f5b778c611954c1f07cb0b2fc1b82c35f4bb79b385c3d73e898d7a35887fa2a", checked := Try.checked }
namespace Rows
def none {H : Type} : Left H := { results := [], args := [] }

/-- 'ricochetlaw03.BoxOrder': WHATEVER THE INPUT: true; the input reads as it did. -/
def boxOrderSpec : ChangeSpec := { name := "boxOrder", fn := fun _ => fun
  | [d1, d2, d3] => { results := [.lit (.bool true)], args := [d1, d2, d3] }
  | _ => none }
def boxOrderRow : OpenClaim := { program := "ytjbeiingfcfdbaa", sum := "3f5b778c611954c1f07cb0b2fc1b82c35f4bb79b385c3d73e898d7a35887fa2a", func := "ricochet/ricochetlaw03.BoxOrder", spec := "boxOrder", apart := false }
def BoxOrderSaid : Prop := boxOrderRow.holds Try.pinned (OpenSpec.ofChange boxOrderSpec)

/-- ITS FALSE NEIGHBOUR: 'it returns false'. Refute it at one input. -/
def boxOrderWrong : ChangeSpec := { name := "boxOrder", fn := fun _ => fun
  | [d1, d2, d3] => { results := [.lit (.bool false)], args := [d1, d2, d3] }
  | _ => none }
def BoxOrderWrongFalsely : Prop := boxOrderRow.holds Try.pinned (OpenSpec.ofChange boxOrderWrong)

/-- 'ricochetlaw03.BoxTells': WHATEVER THE INPUT: true; the input reads as it did. -/
def boxTellsSpec : ChangeSpec := { name := "boxTells", fn := fun _ => fun
  | [d1, d2, d3] => { results := [.lit (.bool true)], args := [d1, d2, d3] }
  | _ => none }
def boxTellsRow : OpenClaim := { program := "ytjbeiingfcfdbaa", sum := "3f5b778c611954c1f07cb0b2fc1b82c35f4bb79b385c3d73e898d7a35887fa2a", func := "ricochet/ricochetlaw03.BoxTells", spec := "boxTells", apart := false }
def BoxTellsSaid : Prop := boxTellsRow.holds Try.pinned (OpenSpec.ofChange boxTellsSpec)

/-- ITS FALSE NEIGHBOUR: 'it returns false'. Refute it at one input. -/
def boxTellsWrong : ChangeSpec := { name := "boxTells", fn := fun _ => fun
  | [d1, d2, d3] => { results := [.lit (.bool false)], args := [d1, d2, d3] }
  | _ => none }
def BoxTellsWrongFalsely : Prop := boxTellsRow.holds Try.pinned (OpenSpec.ofChange boxTellsWrong)

/-- 'ricochetlaw03.BoxTimes': WHATEVER THE INPUT: true; the input reads as it did. -/
def boxTimesSpec : ChangeSpec := { name := "boxTimes", fn := fun _ => fun
  | [d1, d2, d3] => { results := [.lit (.bool true)], args := [d1, d2, d3] }
  | _ => none }
def boxTimesRow : OpenClaim := { program := "ytjbeiingfcfdbaa", sum := "3f5b778c611954c1f07cb0b2fc1b82c35f4bb79b385c3d73e898d7a35887fa2a", func := "ricochet/ricochetlaw03.BoxTimes", spec := "boxTimes", apart := false }
def BoxTimesSaid : Prop := boxTimesRow.holds Try.pinned (OpenSpec.ofChange boxTimesSpec)

/-- ITS FALSE NEIGHBOUR: 'it returns false'. Refute it at one input. -/
def boxTimesWrong : ChangeSpec := { name := "boxTimes", fn := fun _ => fun
  | [d1, d2, d3] => { results := [.lit (.bool false)], args := [d1, d2, d3] }
  | _ => none }
def BoxTimesWrongFalsely : Prop := boxTimesRow.holds Try.pinned (OpenSpec.ofChange boxTimesWrong)

/-- 'ricochetlaw03.BoxAbout': WHATEVER THE INPUT: true; the input reads as it did. -/
def boxAboutSpec : ChangeSpec := { name := "boxAbout", fn := fun _ => fun
  | [d1, d2, d3] => { results := [.lit (.bool true)], args := [d1, d2, d3] }
  | _ => none }
def boxAboutRow : OpenClaim := { program := "ytjbeiingfcfdbaa", sum := "3f5b778c611954c1f07cb0b2fc1b82c35f4bb79b385c3d73e898d7a35887fa2a", func := "ricochet/ricochetlaw03.BoxAbout", spec := "boxAbout", apart := false }
def BoxAboutSaid : Prop := boxAboutRow.holds Try.pinned (OpenSpec.ofChange boxAboutSpec)

/-- ITS FALSE NEIGHBOUR: 'it returns false'. Refute it at one input. -/
def boxAboutWrong : ChangeSpec := { name := "boxAbout", fn := fun _ => fun
  | [d1, d2, d3] => { results := [.lit (.bool false)], args := [d1, d2, d3] }
  | _ => none }
def BoxAboutWrongFalsely : Prop := boxAboutRow.holds Try.pinned (OpenSpec.ofChange boxAboutWrong)

/-- 'ricochetlaw03.BoxMeets': WHATEVER THE INPUT: true; the input reads as it did. -/
def boxMeetsSpec : ChangeSpec := { name := "boxMeets", fn := fun _ => fun
  | [d1, d2, d3] => { results := [.lit (.bool true)], args := [d1, d2, d3] }
  | _ => none }
def boxMeetsRow : OpenClaim := { program := "ytjbeiingfcfdbaa", sum := "3f5b778c611954c1f07cb0b2fc1b82c35f4bb79b385c3d73e898d7a35887fa2a", func := "ricochet/ricochetlaw03.BoxMeets", spec := "boxMeets", apart := false }
def BoxMeetsSaid : Prop := boxMeetsRow.holds Try.pinned (OpenSpec.ofChange boxMeetsSpec)

/-- ITS FALSE NEIGHBOUR: 'it returns false'. Refute it at one input. -/
def boxMeetsWrong : ChangeSpec := { name := "boxMeets", fn := fun _ => fun
  | [d1, d2, d3] => { results := [.lit (.bool false)], args := [d1, d2, d3] }
  | _ => none }
def BoxMeetsWrongFalsely : Prop := boxMeetsRow.holds Try.pinned (OpenSpec.ofChange boxMeetsWrong)

/-- 'ricochetlaw03.BoxFirst': WHATEVER THE INPUT: true; the input reads as it did. -/
def boxFirstSpec : ChangeSpec := { name := "boxFirst", fn := fun _ => fun
  | [d1, d2, d3] => { results := [.lit (.bool true)], args := [d1, d2, d3] }
  | _ => none }
def boxFirstRow : OpenClaim := { program := "ytjbeiingfcfdbaa", sum := "3f5b778c611954c1f07cb0b2fc1b82c35f4bb79b385c3d73e898d7a35887fa2a", func := "ricochet/ricochetlaw03.BoxFirst", spec := "boxFirst", apart := false }
def BoxFirstSaid : Prop := boxFirstRow.holds Try.pinned (OpenSpec.ofChange boxFirstSpec)

/-- ITS FALSE NEIGHBOUR: 'it returns false'. Refute it at one input. -/
def boxFirstWrong : ChangeSpec := { name := "boxFirst", fn := fun _ => fun
  | [d1, d2, d3] => { results := [.lit (.bool false)], args := [d1, d2, d3] }
  | _ => none }
def BoxFirstWrongFalsely : Prop := boxFirstRow.holds Try.pinned (OpenSpec.ofChange boxFirstWrong)

/-- 'ricochetlaw03.BoxShorter': WHATEVER THE INPUT: true; the input reads as it did. -/
def boxShorterSpec : ChangeSpec := { name := "boxShorter", fn := fun _ => fun
  | [d1, d2, d3] => { results := [.lit (.bool true)], args := [d1, d2, d3] }
  | _ => none }
def boxShorterRow : OpenClaim := { program := "ytjbeiingfcfdbaa", sum := "3f5b778c611954c1f07cb0b2fc1b82c35f4bb79b385c3d73e898d7a35887fa2a", func := "ricochet/ricochetlaw03.BoxShorter", spec := "boxShorter", apart := false }
def BoxShorterSaid : Prop := boxShorterRow.holds Try.pinned (OpenSpec.ofChange boxShorterSpec)

/-- ITS FALSE NEIGHBOUR: 'it returns false'. Refute it at one input. -/
def boxShorterWrong : ChangeSpec := { name := "boxShorter", fn := fun _ => fun
  | [d1, d2, d3] => { results := [.lit (.bool false)], args := [d1, d2, d3] }
  | _ => none }
def BoxShorterWrongFalsely : Prop := boxShorterRow.holds Try.pinned (OpenSpec.ofChange boxShorterWrong)

/- THE SECOND FORM. 'bulk': how many values and letters a reading holds, each counted each time it is reached (what is shared counts as often as it is met; a slice's spare places count too). A statement '..UptoSaid' is the law's where the arguments, and the package variables that the reading takes, are together of bulk at most 1048576: NARROWER than '..Said'. Prove '..Said' where nothing that the law and all that it calls make is longer than what came in: it says more and counts as full. Else prove '..UptoSaid'. A law counts once. -/
mutual
def uptoBulk {H : Type} : DataW H → Nat
  | .lit (.string bytes) => bytes.length + 1
  | .lit _ => 1
  | .nil => 1
  | .ptr d => uptoBulk d + 1
  | .slice elems spare => uptoBulkAll elems + uptoBulkAll spare + 1
  | .agg parts => uptoBulkAll parts + 1
  | .iface _ d => uptoBulk d + 1
  | .map entries => uptoBulkEntries entries + 1
  | .held _ => 1
def uptoBulkAll {H : Type} : List (DataW H) → Nat
  | [] => 0
  | d :: r => uptoBulk d + uptoBulkAll r
def uptoBulkEntries {H : Type} : List (Lit × DataW H) → Nat
  | [] => 0
  | x :: r => uptoBulkEntry x + uptoBulkEntries r
def uptoBulkEntry {H : Type} : Lit × DataW H → Nat
  | (.string bytes, d) => bytes.length + uptoBulk d + 1
  | (_, d) => uptoBulk d + 1
 end
def uptoSmall : (H : Type) → List (DataW H) → Bool := fun _ ds => decide (uptoBulkAll ds ≤ 1048576)
def OpenSpec.upto (s : _root_.Go.ChangeSpec) : _root_.Go.OpenSpec := { _root_.Go.OpenSpec.ofChange s with cond := some uptoSmall }

/-- 'ricochetlaw03.BoxOrder', WHERE WHAT IT READS IS OF BULK AT MOST 1048576: true; the input reads as it did. -/
def boxOrderUptoRow : OpenClaim := { program := "ytjbeiingfcfdbaa", sum := "3f5b778c611954c1f07cb0b2fc1b82c35f4bb79b385c3d73e898d7a35887fa2a", func := "ricochet/ricochetlaw03.BoxOrder", spec := "boxOrder", apart := false, narrowed := true }
def BoxOrderUptoSaid : Prop := boxOrderUptoRow.holds Try.pinned (OpenSpec.upto boxOrderSpec)

/-- 'ricochetlaw03.BoxTells', WHERE WHAT IT READS IS OF BULK AT MOST 1048576: true; the input reads as it did. -/
def boxTellsUptoRow : OpenClaim := { program := "ytjbeiingfcfdbaa", sum := "3f5b778c611954c1f07cb0b2fc1b82c35f4bb79b385c3d73e898d7a35887fa2a", func := "ricochet/ricochetlaw03.BoxTells", spec := "boxTells", apart := false, narrowed := true }
def BoxTellsUptoSaid : Prop := boxTellsUptoRow.holds Try.pinned (OpenSpec.upto boxTellsSpec)

/-- 'ricochetlaw03.BoxTimes', WHERE WHAT IT READS IS OF BULK AT MOST 1048576: true; the input reads as it did. -/
def boxTimesUptoRow : OpenClaim := { program := "ytjbeiingfcfdbaa", sum := "3f5b778c611954c1f07cb0b2fc1b82c35f4bb79b385c3d73e898d7a35887fa2a", func := "ricochet/ricochetlaw03.BoxTimes", spec := "boxTimes", apart := false, narrowed := true }
def BoxTimesUptoSaid : Prop := boxTimesUptoRow.holds Try.pinned (OpenSpec.upto boxTimesSpec)

/-- 'ricochetlaw03.BoxAbout', WHERE WHAT IT READS IS OF BULK AT MOST 1048576: true; the input reads as it did. -/
def boxAboutUptoRow : OpenClaim := { program := "ytjbeiingfcfdbaa", sum := "3f5b778c611954c1f07cb0b2fc1b82c35f4bb79b385c3d73e898d7a35887fa2a", func := "ricochet/ricochetlaw03.BoxAbout", spec := "boxAbout", apart := false, narrowed := true }
def BoxAboutUptoSaid : Prop := boxAboutUptoRow.holds Try.pinned (OpenSpec.upto boxAboutSpec)

/-- 'ricochetlaw03.BoxMeets', WHERE WHAT IT READS IS OF BULK AT MOST 1048576: true; the input reads as it did. -/
def boxMeetsUptoRow : OpenClaim := { program := "ytjbeiingfcfdbaa", sum := "3f5b778c611954c1f07cb0b2fc1b82c35f4bb79b385c3d73e898d7a35887fa2a", func := "ricochet/ricochetlaw03.BoxMeets", spec := "boxMeets", apart := false, narrowed := true }
def BoxMeetsUptoSaid : Prop := boxMeetsUptoRow.holds Try.pinned (OpenSpec.upto boxMeetsSpec)

/-- 'ricochetlaw03.BoxFirst', WHERE WHAT IT READS IS OF BULK AT MOST 1048576: true; the input reads as it did. -/
def boxFirstUptoRow : OpenClaim := { program := "ytjbeiingfcfdbaa", sum := "3f5b778c611954c1f07cb0b2fc1b82c35f4bb79b385c3d73e898d7a35887fa2a", func := "ricochet/ricochetlaw03.BoxFirst", spec := "boxFirst", apart := false, narrowed := true }
def BoxFirstUptoSaid : Prop := boxFirstUptoRow.holds Try.pinned (OpenSpec.upto boxFirstSpec)

/-- 'ricochetlaw03.BoxShorter', WHERE WHAT IT READS IS OF BULK AT MOST 1048576: true; the input reads as it did. -/
def boxShorterUptoRow : OpenClaim := { program := "ytjbeiingfcfdbaa", sum := "3f5b778c611954c1f07cb0b2fc1b82c35f4bb79b385c3d73e898d7a35887fa2a", func := "ricochet/ricochetlaw03.BoxShorter", spec := "boxShorter", apart := false, narrowed := true }
def BoxShorterUptoSaid : Prop := boxShorterUptoRow.holds Try.pinned (OpenSpec.upto boxShorterSpec)

end Rows
end Go.Proofs.Ytjbeiingfcfdbaa
