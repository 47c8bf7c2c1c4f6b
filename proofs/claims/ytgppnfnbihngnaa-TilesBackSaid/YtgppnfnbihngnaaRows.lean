/-
  No cell of these rows narrows 'for every input' (looked for: loops, veiled, ifaces, maps, wideKeys, modest, calm, conditions, laid).
  DERIVED. THE GIVEN ROWS OF THIS SEAT. 7 by the template 'for every input the law returns true; each argument reads behind the call as it read before'; 0 by the template 'total and deterministic' (their statements: YtgppnfnbihngnaaTotals.lean).
  GIVEN WITH THE SEED: the statements are not yours to turn. If you find one false, say at which input.
  Laid BY PROGRAM, IN A SANDBOX (cutbox-rows.mjs): the forced cells as the released guide's own fill.sh prints them over the translation 5346481f331bcf1f… (all of the seat's roots in one cut). By AI agents, Wed Nov 11 2026. No macro, syntax, notation, axiom, sorry.
-/
import Derived.Test.YtgppnfnbihngnaaChecked
import GoSem.Claim
import GoSem.ClaimJoined
import GoSem.ClaimMapViews
import Derived.JoinedTies
import Derived.KernelRfl
namespace Go.Proofs.Ytgppnfnbihngnaa
/- THE CELL 'sum', in the pinned program and in every row, IS THE sha256 OF THE DUMP (.gsa) THAT YtgppnfnbihngnaaProg.lean LOADS. Nothing in Lean hashes anything: it is a label: what it is worth is what the hold of that sum in a sandbox is worth. -/
noncomputable def Try.pinned : Pinned := { name := "ytgppnfnbihngnaa", sum := "5346481f331bcf1f6bb19dac61a09b41a246210184a26b430ac4c66ae91bb5d8", checked := Try.checked }
namespace Rows
def none {H : Type} : Left H := { results := [], args := [] }

/-- 'ricochetlaw11.TilesReads': WHATEVER THE INPUT: true; the input reads as it did. -/
def tilesReadsSpec : ChangeSpec := { name := "tilesReads", fn := fun _ => fun
  | [d] => { results := [.lit (.bool true)], args := [d] }
  | _ => none }
def tilesReadsRow : OpenClaim := { program := "ytgppnfnbihngnaa", sum := "5346481f331bcf1f6bb19dac61a09b41a246210184a26b430ac4c66ae91bb5d8", func := "ricochet/ricochetlaw11.TilesReads", spec := "tilesReads", apart := false }
def TilesReadsSaid : Prop := tilesReadsRow.holds Try.pinned (OpenSpec.ofChange tilesReadsSpec)

/-- ITS FALSE NEIGHBOUR: 'it returns false'. Refute it at one input. -/
def tilesReadsWrong : ChangeSpec := { name := "tilesReads", fn := fun _ => fun
  | [d] => { results := [.lit (.bool false)], args := [d] }
  | _ => none }
def TilesReadsWrongFalsely : Prop := tilesReadsRow.holds Try.pinned (OpenSpec.ofChange tilesReadsWrong)

/-- 'ricochetlaw11.TilesCuts': WHATEVER THE INPUT: true; the input reads as it did. -/
def tilesCutsSpec : ChangeSpec := { name := "tilesCuts", fn := fun _ => fun
  | [d1, d2] => { results := [.lit (.bool true)], args := [d1, d2] }
  | _ => none }
def tilesCutsRow : OpenClaim := { program := "ytgppnfnbihngnaa", sum := "5346481f331bcf1f6bb19dac61a09b41a246210184a26b430ac4c66ae91bb5d8", func := "ricochet/ricochetlaw11.TilesCuts", spec := "tilesCuts", apart := false }
def TilesCutsSaid : Prop := tilesCutsRow.holds Try.pinned (OpenSpec.ofChange tilesCutsSpec)

/-- ITS FALSE NEIGHBOUR: 'it returns false'. Refute it at one input. -/
def tilesCutsWrong : ChangeSpec := { name := "tilesCuts", fn := fun _ => fun
  | [d1, d2] => { results := [.lit (.bool false)], args := [d1, d2] }
  | _ => none }
def TilesCutsWrongFalsely : Prop := tilesCutsRow.holds Try.pinned (OpenSpec.ofChange tilesCutsWrong)

/-- 'ricochetlaw11.TilesFree': WHATEVER THE INPUT: true; the input reads as it did. -/
def tilesFreeSpec : ChangeSpec := { name := "tilesFree", fn := fun _ => fun
  | [d1, d2] => { results := [.lit (.bool true)], args := [d1, d2] }
  | _ => none }
def tilesFreeRow : OpenClaim := { program := "ytgppnfnbihngnaa", sum := "5346481f331bcf1f6bb19dac61a09b41a246210184a26b430ac4c66ae91bb5d8", func := "ricochet/ricochetlaw11.TilesFree", spec := "tilesFree", unfollowed := true, recurses := true, apart := false }
def TilesFreeSaid : Prop := tilesFreeRow.holds Try.pinned (OpenSpec.ofChange tilesFreeSpec)

/-- ITS FALSE NEIGHBOUR: 'it returns false'. Refute it at one input. -/
def tilesFreeWrong : ChangeSpec := { name := "tilesFree", fn := fun _ => fun
  | [d1, d2] => { results := [.lit (.bool false)], args := [d1, d2] }
  | _ => none }
def TilesFreeWrongFalsely : Prop := tilesFreeRow.holds Try.pinned (OpenSpec.ofChange tilesFreeWrong)

/-- 'ricochetlaw11.TilesLess': WHATEVER THE INPUT: true; the input reads as it did. -/
def tilesLessSpec : ChangeSpec := { name := "tilesLess", fn := fun _ => fun
  | [d1, d2, d3] => { results := [.lit (.bool true)], args := [d1, d2, d3] }
  | _ => none }
def tilesLessRow : OpenClaim := { program := "ytgppnfnbihngnaa", sum := "5346481f331bcf1f6bb19dac61a09b41a246210184a26b430ac4c66ae91bb5d8", func := "ricochet/ricochetlaw11.TilesLess", spec := "tilesLess", unfollowed := true, recurses := true, apart := false }
def TilesLessSaid : Prop := tilesLessRow.holds Try.pinned (OpenSpec.ofChange tilesLessSpec)

/-- ITS FALSE NEIGHBOUR: 'it returns false'. Refute it at one input. -/
def tilesLessWrong : ChangeSpec := { name := "tilesLess", fn := fun _ => fun
  | [d1, d2, d3] => { results := [.lit (.bool false)], args := [d1, d2, d3] }
  | _ => none }
def TilesLessWrongFalsely : Prop := tilesLessRow.holds Try.pinned (OpenSpec.ofChange tilesLessWrong)

/-- 'ricochetlaw11.TilesTiles': WHATEVER THE INPUT: true; the input reads as it did. -/
def tilesTilesSpec : ChangeSpec := { name := "tilesTiles", fn := fun _ => fun
  | [d1, d2, d3] => { results := [.lit (.bool true)], args := [d1, d2, d3] }
  | _ => none }
def tilesTilesRow : OpenClaim := { program := "ytgppnfnbihngnaa", sum := "5346481f331bcf1f6bb19dac61a09b41a246210184a26b430ac4c66ae91bb5d8", func := "ricochet/ricochetlaw11.TilesTiles", spec := "tilesTiles", unfollowed := true, recurses := true, apart := false }
def TilesTilesSaid : Prop := tilesTilesRow.holds Try.pinned (OpenSpec.ofChange tilesTilesSpec)

/-- ITS FALSE NEIGHBOUR: 'it returns false'. Refute it at one input. -/
def tilesTilesWrong : ChangeSpec := { name := "tilesTiles", fn := fun _ => fun
  | [d1, d2, d3] => { results := [.lit (.bool false)], args := [d1, d2, d3] }
  | _ => none }
def TilesTilesWrongFalsely : Prop := tilesTilesRow.holds Try.pinned (OpenSpec.ofChange tilesTilesWrong)

/-- 'ricochetlaw11.TilesBack': WHATEVER THE INPUT: true; the input reads as it did. -/
def tilesBackSpec : ChangeSpec := { name := "tilesBack", fn := fun _ => fun
  | [d1, d2] => { results := [.lit (.bool true)], args := [d1, d2] }
  | _ => none }
def tilesBackRow : OpenClaim := { program := "ytgppnfnbihngnaa", sum := "5346481f331bcf1f6bb19dac61a09b41a246210184a26b430ac4c66ae91bb5d8", func := "ricochet/ricochetlaw11.TilesBack", spec := "tilesBack", inPlace := ["internal/abi.NoEscape"], unfollowed := true, recurses := true, apart := false }
def TilesBackSaid : Prop := tilesBackRow.holds Try.pinned (OpenSpec.ofChange tilesBackSpec)

/-- ITS FALSE NEIGHBOUR: 'it returns false'. Refute it at one input. -/
def tilesBackWrong : ChangeSpec := { name := "tilesBack", fn := fun _ => fun
  | [d1, d2] => { results := [.lit (.bool false)], args := [d1, d2] }
  | _ => none }
def TilesBackWrongFalsely : Prop := tilesBackRow.holds Try.pinned (OpenSpec.ofChange tilesBackWrong)

/-- 'ricochetlaw11.TilesTells': WHATEVER THE INPUT: true; the input reads as it did. -/
def tilesTellsSpec : ChangeSpec := { name := "tilesTells", fn := fun _ => fun
  | [d1, d2, d3] => { results := [.lit (.bool true)], args := [d1, d2, d3] }
  | _ => none }
def tilesTellsRow : OpenClaim := { program := "ytgppnfnbihngnaa", sum := "5346481f331bcf1f6bb19dac61a09b41a246210184a26b430ac4c66ae91bb5d8", func := "ricochet/ricochetlaw11.TilesTells", spec := "tilesTells", inPlace := ["internal/abi.NoEscape"], unfollowed := true, recurses := true, apart := false }
def TilesTellsSaid : Prop := tilesTellsRow.holds Try.pinned (OpenSpec.ofChange tilesTellsSpec)

/-- ITS FALSE NEIGHBOUR: 'it returns false'. Refute it at one input. -/
def tilesTellsWrong : ChangeSpec := { name := "tilesTells", fn := fun _ => fun
  | [d1, d2, d3] => { results := [.lit (.bool false)], args := [d1, d2, d3] }
  | _ => none }
def TilesTellsWrongFalsely : Prop := tilesTellsRow.holds Try.pinned (OpenSpec.ofChange tilesTellsWrong)

/- THE SECOND FORM. 'bulk': how many values and letters a reading holds, each counted each time it is reached (what is shared counts as often as it is met; a slice's spare places count too). A statement '..UptoSaid' is the law's where the arguments, and the package variables that the reading takes, are together of bulk at most 1048576: NARROWER than '..Said'. Prove '..Said' where nothing that the law and all that it calls make is longer than what came in: it says more and counts as full. Else prove '..UptoSaid'. A law counts once. -/
mutual
def uptoBulk {H : Type} : DataW H → Nat
  | .lit (.string bytes) => bytes.length + 1
  | .lit _ => 1
  | .nil => 1
  | .ptr d => uptoBulk d + 1
  | .slice elems spare => uptoBulkAll elems + uptoBulkAll spare + 1
  | .agg parts => uptoBulkAll parts + 1
  | .iface _ d => uptoBulk d + 1
  | .map entries => uptoBulkEntries entries + 1
  | .held _ => 1
def uptoBulkAll {H : Type} : List (DataW H) → Nat
  | [] => 0
  | d :: r => uptoBulk d + uptoBulkAll r
def uptoBulkEntries {H : Type} : List (Lit × DataW H) → Nat
  | [] => 0
  | x :: r => uptoBulkEntry x + uptoBulkEntries r
def uptoBulkEntry {H : Type} : Lit × DataW H → Nat
  | (.string bytes, d) => bytes.length + uptoBulk d + 1
  | (_, d) => uptoBulk d + 1
 end
def uptoSmall : (H : Type) → List (DataW H) → Bool := fun _ ds => decide (uptoBulkAll ds ≤ 1048576)
def OpenSpec.upto (s : _root_.Go.ChangeSpec) : _root_.Go.OpenSpec := { _root_.Go.OpenSpec.ofChange s with cond := some uptoSmall }

/-- 'ricochetlaw11.TilesReads', WHERE WHAT IT READS IS OF BULK AT MOST 1048576: true; the input reads as it did. -/
def tilesReadsUptoRow : OpenClaim := { program := "ytgppnfnbihngnaa", sum := "5346481f331bcf1f6bb19dac61a09b41a246210184a26b430ac4c66ae91bb5d8", func := "ricochet/ricochetlaw11.TilesReads", spec := "tilesReads", apart := false, narrowed := true }
def TilesReadsUptoSaid : Prop := tilesReadsUptoRow.holds Try.pinned (OpenSpec.upto tilesReadsSpec)

/-- 'ricochetlaw11.TilesCuts', WHERE WHAT IT READS IS OF BULK AT MOST 1048576: true; the input reads as it did. -/
def tilesCutsUptoRow : OpenClaim := { program := "ytgppnfnbihngnaa", sum := "5346481f331bcf1f6bb19dac61a09b41a246210184a26b430ac4c66ae91bb5d8", func := "ricochet/ricochetlaw11.TilesCuts", spec := "tilesCuts", apart := false, narrowed := true }
def TilesCutsUptoSaid : Prop := tilesCutsUptoRow.holds Try.pinned (OpenSpec.upto tilesCutsSpec)

/-- 'ricochetlaw11.TilesFree', WHERE WHAT IT READS IS OF BULK AT MOST 1048576: true; the input reads as it did. -/
def tilesFreeUptoRow : OpenClaim := { program := "ytgppnfnbihngnaa", sum := "5346481f331bcf1f6bb19dac61a09b41a246210184a26b430ac4c66ae91bb5d8", func := "ricochet/ricochetlaw11.TilesFree", spec := "tilesFree", unfollowed := true, recurses := true, apart := false, narrowed := true }
def TilesFreeUptoSaid : Prop := tilesFreeUptoRow.holds Try.pinned (OpenSpec.upto tilesFreeSpec)

/-- 'ricochetlaw11.TilesLess', WHERE WHAT IT READS IS OF BULK AT MOST 1048576: true; the input reads as it did. -/
def tilesLessUptoRow : OpenClaim := { program := "ytgppnfnbihngnaa", sum := "5346481f331bcf1f6bb19dac61a09b41a246210184a26b430ac4c66ae91bb5d8", func := "ricochet/ricochetlaw11.TilesLess", spec := "tilesLess", unfollowed := true, recurses := true, apart := false, narrowed := true }
def TilesLessUptoSaid : Prop := tilesLessUptoRow.holds Try.pinned (OpenSpec.upto tilesLessSpec)

/-- 'ricochetlaw11.TilesTiles', WHERE WHAT IT READS IS OF BULK AT MOST 1048576: true; the input reads as it did. -/
def tilesTilesUptoRow : OpenClaim := { program := "ytgppnfnbihngnaa", sum := "5346481f331bcf1f6bb19dac61a09b41a246210184a26b430ac4c66ae91bb5d8", func := "ricochet/ricochetlaw11.TilesTiles", spec := "tilesTiles", unfollowed := true, recurses := true, apart := false, narrowed := true }
def TilesTilesUptoSaid : Prop := tilesTilesUptoRow.holds Try.pinned (OpenSpec.upto tilesTilesSpec)

/-- 'ricochetlaw11.TilesBack', WHERE WHAT IT READS IS OF BULK AT MOST 1048576: true; the input reads as it did. -/
def tilesBackUptoRow : OpenClaim := { program := "ytgppnfnbihngnaa", sum := "5346481f331bcf1f6bb19dac61a09b41a246210184a26b430ac4c66ae91bb5d8", func := "ricochet/ricochetlaw11.TilesBack", spec := "tilesBack", inPlace := ["internal/abi.NoEscape"], unfollowed := true, recurses := true, apart := false, narrowed := true }
def TilesBackUptoSaid : Prop := tilesBackUptoRow.holds Try.pinned (OpenSpec.upto tilesBackSpec)

/-- 'ricochetlaw11.TilesTells', WHERE WHAT IT READS IS OF BULK AT MOST 1048576: true; the input reads as it did. -/
def tilesTellsUptoRow : OpenClaim := { program := "ytgppnfnbihngnaa", sum := "5346481f331bcf1f6bb19dac61a09b41a246210184a26b430ac4c66ae91bb5d8", func := "ricochet/ricochetlaw11.TilesTells", spec := "tilesTells", inPlace := ["internal/abi.NoEscape"], unfollowed := true, recurses := true, apart := false, narrowed := true }
def TilesTellsUptoSaid : Prop := tilesTellsUptoRow.holds Try.pinned (OpenSpec.upto tilesTellsSpec)

end Rows
end Go.Proofs.Ytgppnfnbihngnaa
