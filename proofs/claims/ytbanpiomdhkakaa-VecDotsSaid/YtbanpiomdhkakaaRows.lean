/-
  No cell of these rows narrows 'for every input' (looked for: loops, veiled, ifaces, maps, wideKeys, modest, calm, conditions, laid).
  DERIVED. THE GIVEN ROWS OF THIS SEAT. 6 by the template 'for every input the law returns true; each argument reads behind the call as it read before'; 0 by the template 'total and deterministic' (their statements: YtbanpiomdhkakaaTotals.lean).
  GIVEN WITH THE SEED: the statements are not yours to turn. If you find one false, say at which input.
  Laid BY PROGRAM, IN A SANDBOX (cutbox-rows.mjs): the forced cells as the released guide's own fill.sh prints them over the translation ea032acccf1f9637… (all of the seat's roots in one cut). By AI agents, Wed Nov 11 2026. No macro, syntax, notation, axiom, sorry.
-/
import Derived.Test.YtbanpiomdhkakaaChecked
import GoSem.Claim
import GoSem.ClaimJoined
import GoSem.ClaimMapViews
import Derived.JoinedTies
import Derived.KernelRfl
namespace Go.Proofs.Ytbanpiomdhkakaa
/- THE CELL 'sum', in the pinned program and in every row, IS THE sha256 OF THE DUMP (.gsa) THAT YtbanpiomdhkakaaProg.lean LOADS. Nothing in Lean hashes anything: it is a label: what it is worth is what the hold of that sum in a sandbox is worth. -/
noncomputable def Try.pinned : Pinned := { name := "ytbanpiomdhkakaa", sum := "ea032acccf1f9637c34fab9d0c1c203d361df451178d0dfb61088e09a19ca1c3", checked := Try.checked }
namespace Rows
def none {H : Type} : Left H := { results := [], args := [] }

/-- 'ricochetlaw02.VecLong': WHATEVER THE INPUT: true; the input reads as it did. -/
def vecLongSpec : ChangeSpec := { name := "vecLong", fn := fun _ => fun
  | [d] => { results := [.lit (.bool true)], args := [d] }
  | _ => none }
def vecLongRow : OpenClaim := { program := "ytbanpiomdhkakaa", sum := "ea032acccf1f9637c34fab9d0c1c203d361df451178d0dfb61088e09a19ca1c3", func := "ricochet/ricochetlaw02.VecLong", spec := "vecLong", apart := false }
def VecLongSaid : Prop := vecLongRow.holds Try.pinned (OpenSpec.ofChange vecLongSpec)

/-- ITS FALSE NEIGHBOUR: 'it returns false'. Refute it at one input. -/
def vecLongWrong : ChangeSpec := { name := "vecLong", fn := fun _ => fun
  | [d] => { results := [.lit (.bool false)], args := [d] }
  | _ => none }
def VecLongWrongFalsely : Prop := vecLongRow.holds Try.pinned (OpenSpec.ofChange vecLongWrong)

/-- 'ricochetlaw02.VecMeasures': WHATEVER THE INPUT: true; the input reads as it did. -/
def vecMeasuresSpec : ChangeSpec := { name := "vecMeasures", fn := fun _ => fun
  | [d1, d2, d3] => { results := [.lit (.bool true)], args := [d1, d2, d3] }
  | _ => none }
def vecMeasuresRow : OpenClaim := { program := "ytbanpiomdhkakaa", sum := "ea032acccf1f9637c34fab9d0c1c203d361df451178d0dfb61088e09a19ca1c3", func := "ricochet/ricochetlaw02.VecMeasures", spec := "vecMeasures", apart := false }
def VecMeasuresSaid : Prop := vecMeasuresRow.holds Try.pinned (OpenSpec.ofChange vecMeasuresSpec)

/-- ITS FALSE NEIGHBOUR: 'it returns false'. Refute it at one input. -/
def vecMeasuresWrong : ChangeSpec := { name := "vecMeasures", fn := fun _ => fun
  | [d1, d2, d3] => { results := [.lit (.bool false)], args := [d1, d2, d3] }
  | _ => none }
def VecMeasuresWrongFalsely : Prop := vecMeasuresRow.holds Try.pinned (OpenSpec.ofChange vecMeasuresWrong)

/-- 'ricochetlaw02.VecWays': WHATEVER THE INPUT: true; the input reads as it did. -/
def vecWaysSpec : ChangeSpec := { name := "vecWays", fn := fun _ => fun
  | [d1, d2, d3] => { results := [.lit (.bool true)], args := [d1, d2, d3] }
  | _ => none }
def vecWaysRow : OpenClaim := { program := "ytbanpiomdhkakaa", sum := "ea032acccf1f9637c34fab9d0c1c203d361df451178d0dfb61088e09a19ca1c3", func := "ricochet/ricochetlaw02.VecWays", spec := "vecWays", apart := false }
def VecWaysSaid : Prop := vecWaysRow.holds Try.pinned (OpenSpec.ofChange vecWaysSpec)

/-- ITS FALSE NEIGHBOUR: 'it returns false'. Refute it at one input. -/
def vecWaysWrong : ChangeSpec := { name := "vecWays", fn := fun _ => fun
  | [d1, d2, d3] => { results := [.lit (.bool false)], args := [d1, d2, d3] }
  | _ => none }
def VecWaysWrongFalsely : Prop := vecWaysRow.holds Try.pinned (OpenSpec.ofChange vecWaysWrong)

/-- 'ricochetlaw02.VecDots': WHATEVER THE INPUT: true; the input reads as it did. -/
def vecDotsSpec : ChangeSpec := { name := "vecDots", fn := fun _ => fun
  | [d1, d2] => { results := [.lit (.bool true)], args := [d1, d2] }
  | _ => none }
def vecDotsRow : OpenClaim := { program := "ytbanpiomdhkakaa", sum := "ea032acccf1f9637c34fab9d0c1c203d361df451178d0dfb61088e09a19ca1c3", func := "ricochet/ricochetlaw02.VecDots", spec := "vecDots", apart := false }
def VecDotsSaid : Prop := vecDotsRow.holds Try.pinned (OpenSpec.ofChange vecDotsSpec)

/-- ITS FALSE NEIGHBOUR: 'it returns false'. Refute it at one input. -/
def vecDotsWrong : ChangeSpec := { name := "vecDots", fn := fun _ => fun
  | [d1, d2] => { results := [.lit (.bool false)], args := [d1, d2] }
  | _ => none }
def VecDotsWrongFalsely : Prop := vecDotsRow.holds Try.pinned (OpenSpec.ofChange vecDotsWrong)

/-- 'ricochetlaw02.VecReckons': WHATEVER THE INPUT: true; the input reads as it did. -/
def vecReckonsSpec : ChangeSpec := { name := "vecReckons", fn := fun _ => fun
  | [d1, d2, d3] => { results := [.lit (.bool true)], args := [d1, d2, d3] }
  | _ => none }
def vecReckonsRow : OpenClaim := { program := "ytbanpiomdhkakaa", sum := "ea032acccf1f9637c34fab9d0c1c203d361df451178d0dfb61088e09a19ca1c3", func := "ricochet/ricochetlaw02.VecReckons", spec := "vecReckons", apart := false }
def VecReckonsSaid : Prop := vecReckonsRow.holds Try.pinned (OpenSpec.ofChange vecReckonsSpec)

/-- ITS FALSE NEIGHBOUR: 'it returns false'. Refute it at one input. -/
def vecReckonsWrong : ChangeSpec := { name := "vecReckons", fn := fun _ => fun
  | [d1, d2, d3] => { results := [.lit (.bool false)], args := [d1, d2, d3] }
  | _ => none }
def VecReckonsWrongFalsely : Prop := vecReckonsRow.holds Try.pinned (OpenSpec.ofChange vecReckonsWrong)

/-- 'ricochetlaw02.VecBack': WHATEVER THE INPUT: true; the input reads as it did. -/
def vecBackSpec : ChangeSpec := { name := "vecBack", fn := fun _ => fun
  | [d1, d2] => { results := [.lit (.bool true)], args := [d1, d2] }
  | _ => none }
def vecBackRow : OpenClaim := { program := "ytbanpiomdhkakaa", sum := "ea032acccf1f9637c34fab9d0c1c203d361df451178d0dfb61088e09a19ca1c3", func := "ricochet/ricochetlaw02.VecBack", spec := "vecBack", apart := false }
def VecBackSaid : Prop := vecBackRow.holds Try.pinned (OpenSpec.ofChange vecBackSpec)

/-- ITS FALSE NEIGHBOUR: 'it returns false'. Refute it at one input. -/
def vecBackWrong : ChangeSpec := { name := "vecBack", fn := fun _ => fun
  | [d1, d2] => { results := [.lit (.bool false)], args := [d1, d2] }
  | _ => none }
def VecBackWrongFalsely : Prop := vecBackRow.holds Try.pinned (OpenSpec.ofChange vecBackWrong)

/- THE SECOND FORM. 'bulk': how many values and letters a reading holds, each counted each time it is reached (what is shared counts as often as it is met; a slice's spare places count too). A statement '..UptoSaid' is the law's where the arguments, and the package variables that the reading takes, are together of bulk at most 1048576: NARROWER than '..Said'. Prove '..Said' where nothing that the law and all that it calls make is longer than what came in: it says more and counts as full. Else prove '..UptoSaid'. A law counts once. -/
mutual
def uptoBulk {H : Type} : DataW H → Nat
  | .lit (.string bytes) => bytes.length + 1
  | .lit _ => 1
  | .nil => 1
  | .ptr d => uptoBulk d + 1
  | .slice elems spare => uptoBulkAll elems + uptoBulkAll spare + 1
  | .agg parts => uptoBulkAll parts + 1
  | .iface _ d => uptoBulk d + 1
  | .map entries => uptoBulkEntries entries + 1
  | .held _ => 1
def uptoBulkAll {H : Type} : List (DataW H) → Nat
  | [] => 0
  | d :: r => uptoBulk d + uptoBulkAll r
def uptoBulkEntries {H : Type} : List (Lit × DataW H) → Nat
  | [] => 0
  | x :: r => uptoBulkEntry x + uptoBulkEntries r
def uptoBulkEntry {H : Type} : Lit × DataW H → Nat
  | (.string bytes, d) => bytes.length + uptoBulk d + 1
  | (_, d) => uptoBulk d + 1
 end
def uptoSmall : (H : Type) → List (DataW H) → Bool := fun _ ds => decide (uptoBulkAll ds ≤ 1048576)
def OpenSpec.upto (s : _root_.Go.ChangeSpec) : _root_.Go.OpenSpec := { _root_.Go.OpenSpec.ofChange s with cond := some uptoSmall }

/-- 'ricochetlaw02.VecLong', WHERE WHAT IT READS IS OF BULK AT MOST 1048576: true; the input reads as it did. -/
def vecLongUptoRow : OpenClaim := { program := "ytbanpiomdhkakaa", sum := "ea032acccf1f9637c34fab9d0c1c203d361df451178d0dfb61088e09a19ca1c3", func := "ricochet/ricochetlaw02.VecLong", spec := "vecLong", apart := false, narrowed := true }
def VecLongUptoSaid : Prop := vecLongUptoRow.holds Try.pinned (OpenSpec.upto vecLongSpec)

/-- 'ricochetlaw02.VecMeasures', WHERE WHAT IT READS IS OF BULK AT MOST 1048576: true; the input reads as it did. -/
def vecMeasuresUptoRow : OpenClaim := { program := "ytbanpiomdhkakaa", sum := "ea032acccf1f9637c34fab9d0c1c203d361df451178d0dfb61088e09a19ca1c3", func := "ricochet/ricochetlaw02.VecMeasures", spec := "vecMeasures", apart := false, narrowed := true }
def VecMeasuresUptoSaid : Prop := vecMeasuresUptoRow.holds Try.pinned (OpenSpec.upto vecMeasuresSpec)

/-- 'ricochetlaw02.VecWays', WHERE WHAT IT READS IS OF BULK AT MOST 1048576: true; the input reads as it did. -/
def vecWaysUptoRow : OpenClaim := { program := "ytbanpiomdhkakaa", sum := "ea032acccf1f9637c34fab9d0c1c203d361df451178d0dfb61088e09a19ca1c3", func := "ricochet/ricochetlaw02.VecWays", spec := "vecWays", apart := false, narrowed := true }
def VecWaysUptoSaid : Prop := vecWaysUptoRow.holds Try.pinned (OpenSpec.upto vecWaysSpec)

/-- 'ricochetlaw02.VecDots', WHERE WHAT IT READS IS OF BULK AT MOST 1048576: true; the input reads as it did. -/
def vecDotsUptoRow : OpenClaim := { program := "ytbanpiomdhkakaa", sum := "ea032acccf1f9637c34fab9d0c1c203d361df451178d0dfb61088e09a19ca1c3", func := "ricochet/ricochetlaw02.VecDots", spec := "vecDots", apart := false, narrowed := true }
def VecDotsUptoSaid : Prop := vecDotsUptoRow.holds Try.pinned (OpenSpec.upto vecDotsSpec)

/-- 'ricochetlaw02.VecReckons', WHERE WHAT IT READS IS OF BULK AT MOST 1048576: true; the input reads as it did. -/
def vecReckonsUptoRow : OpenClaim := { program := "ytbanpiomdhkakaa", sum := "ea032acccf1f9637c34fab9d0c1c203d361df451178d0dfb61088e09a19ca1c3", func := "ricochet/ricochetlaw02.VecReckons", spec := "vecReckons", apart := false, narrowed := true }
def VecReckonsUptoSaid : Prop := vecReckonsUptoRow.holds Try.pinned (OpenSpec.upto vecReckonsSpec)

/-- 'ricochetlaw02.VecBack', WHERE WHAT IT READS IS OF BULK AT MOST 1048576: true; the input reads as it did. -/
def vecBackUptoRow : OpenClaim := { program := "ytbanpiomdhkakaa", sum := "ea032acccf1f9637c34fab9d0c1c203d361df451178d0dfb61088e09a19ca1c3", func := "ricochet/ricochetlaw02.VecBack", spec := "vecBack", apart := false, narrowed := true }
def VecBackUptoSaid : Prop := vecBackUptoRow.holds Try.pinned (OpenSpec.upto vecBackSpec)

end Rows
end Go.Proofs.Ytbanpiomdhkakaa
