/-
  No cell of these rows narrows 'for every input' (looked for: loops, veiled, ifaces, maps, wideKeys, modest, calm, conditions, laid).
  DERIVED. THE GIVEN ROWS OF THIS SEAT. 5 by the template 'for every input the law returns true; each argument reads behind the call as it read before'; 0 by the template 'total and deterministic' (their statements: YtcbmkhogmdkpdaaTotals.lean).
  GIVEN WITH THE SEED: the statements are not yours to turn. If you find one false, say at which input.
  Laid BY PROGRAM, IN A SANDBOX (cutbox-rows.mjs): the forced cells as the released guide's own fill.sh prints them over the translation 5a33d82d6e5317fb… (all of the seat's roots in one cut). By AI agents, Wed Nov 11 2026. No macro, syntax, notation, axiom, sorry.
-/
import Derived.Test.YtcbmkhogmdkpdaaChecked
import GoSem.Claim
import GoSem.ClaimJoined
import GoSem.ClaimMapViews
import Derived.JoinedTies
import Derived.KernelRfl
namespace Go.Proofs.Ytcbmkhogmdkpdaa
/- THE CELL 'sum', in the pinned program and in every row, IS THE sha256 OF THE DUMP (.gsa) THAT YtcbmkhogmdkpdaaProg.lean LOADS. Nothing in Lean hashes anything: it is a label: what it is worth is what the hold of that sum in a sandbox is worth. -/
noncomputable def Try.pinned : Pinned := { name := "ytcbmkhogmdkpdaa", sum := "5a33d82d6e5317fb6e8ab8ccd0278cde571832506a524e70200eef51ac4a485f", checked := Try.checked }
namespace Rows
def none {H : Type} : Left H := { results := [], args := [] }

/-- 'ricochetlaw20.RewindShoots': WHATEVER THE INPUT: true; the input reads as it did. -/
def rewindShootsSpec : ChangeSpec := { name := "rewindShoots", fn := fun _ => fun
  | [d1, d2, d3] => { results := [.lit (.bool true)], args := [d1, d2, d3] }
  | _ => none }
def rewindShootsRow : OpenClaim := { program := "ytcbmkhogmdkpdaa", sum := "5a33d82d6e5317fb6e8ab8ccd0278cde571832506a524e70200eef51ac4a485f", func := "ricochet/ricochetlaw20.RewindShoots", spec := "rewindShoots", unfollowed := true, recurses := true, apart := false }
def RewindShootsSaid : Prop := rewindShootsRow.holds Try.pinned (OpenSpec.ofChange rewindShootsSpec)

/-- ITS FALSE NEIGHBOUR: 'it returns false'. Refute it at one input. -/
def rewindShootsWrong : ChangeSpec := { name := "rewindShoots", fn := fun _ => fun
  | [d1, d2, d3] => { results := [.lit (.bool false)], args := [d1, d2, d3] }
  | _ => none }
def RewindShootsWrongFalsely : Prop := rewindShootsRow.holds Try.pinned (OpenSpec.ofChange rewindShootsWrong)

/-- 'ricochetlaw20.RewindStays': WHATEVER THE INPUT: true; the input reads as it did. -/
def rewindStaysSpec : ChangeSpec := { name := "rewindStays", fn := fun _ => fun
  | [d1, d2, d3] => { results := [.lit (.bool true)], args := [d1, d2, d3] }
  | _ => none }
def rewindStaysRow : OpenClaim := { program := "ytcbmkhogmdkpdaa", sum := "5a33d82d6e5317fb6e8ab8ccd0278cde571832506a524e70200eef51ac4a485f", func := "ricochet/ricochetlaw20.RewindStays", spec := "rewindStays", unfollowed := true, recurses := true, apart := false }
def RewindStaysSaid : Prop := rewindStaysRow.holds Try.pinned (OpenSpec.ofChange rewindStaysSpec)

/-- ITS FALSE NEIGHBOUR: 'it returns false'. Refute it at one input. -/
def rewindStaysWrong : ChangeSpec := { name := "rewindStays", fn := fun _ => fun
  | [d1, d2, d3] => { results := [.lit (.bool false)], args := [d1, d2, d3] }
  | _ => none }
def RewindStaysWrongFalsely : Prop := rewindStaysRow.holds Try.pinned (OpenSpec.ofChange rewindStaysWrong)

/-- 'ricochetlaw20.RewindMeets': WHATEVER THE INPUT: true; the input reads as it did. -/
def rewindMeetsSpec : ChangeSpec := { name := "rewindMeets", fn := fun _ => fun
  | [d1, d2, d3] => { results := [.lit (.bool true)], args := [d1, d2, d3] }
  | _ => none }
def rewindMeetsRow : OpenClaim := { program := "ytcbmkhogmdkpdaa", sum := "5a33d82d6e5317fb6e8ab8ccd0278cde571832506a524e70200eef51ac4a485f", func := "ricochet/ricochetlaw20.RewindMeets", spec := "rewindMeets", unfollowed := true, recurses := true, apart := false }
def RewindMeetsSaid : Prop := rewindMeetsRow.holds Try.pinned (OpenSpec.ofChange rewindMeetsSpec)

/-- ITS FALSE NEIGHBOUR: 'it returns false'. Refute it at one input. -/
def rewindMeetsWrong : ChangeSpec := { name := "rewindMeets", fn := fun _ => fun
  | [d1, d2, d3] => { results := [.lit (.bool false)], args := [d1, d2, d3] }
  | _ => none }
def RewindMeetsWrongFalsely : Prop := rewindMeetsRow.holds Try.pinned (OpenSpec.ofChange rewindMeetsWrong)

/-- 'ricochetlaw20.RewindNone': WHATEVER THE INPUT: true; the input reads as it did. -/
def rewindNoneSpec : ChangeSpec := { name := "rewindNone", fn := fun _ => fun
  | [d1, d2, d3] => { results := [.lit (.bool true)], args := [d1, d2, d3] }
  | _ => none }
def rewindNoneRow : OpenClaim := { program := "ytcbmkhogmdkpdaa", sum := "5a33d82d6e5317fb6e8ab8ccd0278cde571832506a524e70200eef51ac4a485f", func := "ricochet/ricochetlaw20.RewindNone", spec := "rewindNone", unfollowed := true, recurses := true, apart := false }
def RewindNoneSaid : Prop := rewindNoneRow.holds Try.pinned (OpenSpec.ofChange rewindNoneSpec)

/-- ITS FALSE NEIGHBOUR: 'it returns false'. Refute it at one input. -/
def rewindNoneWrong : ChangeSpec := { name := "rewindNone", fn := fun _ => fun
  | [d1, d2, d3] => { results := [.lit (.bool false)], args := [d1, d2, d3] }
  | _ => none }
def RewindNoneWrongFalsely : Prop := rewindNoneRow.holds Try.pinned (OpenSpec.ofChange rewindNoneWrong)

/-- 'ricochetlaw20.RewindLast': WHATEVER THE INPUT: true; the input reads as it did. -/
def rewindLastSpec : ChangeSpec := { name := "rewindLast", fn := fun _ => fun
  | [d1, d2, d3] => { results := [.lit (.bool true)], args := [d1, d2, d3] }
  | _ => none }
def rewindLastRow : OpenClaim := { program := "ytcbmkhogmdkpdaa", sum := "5a33d82d6e5317fb6e8ab8ccd0278cde571832506a524e70200eef51ac4a485f", func := "ricochet/ricochetlaw20.RewindLast", spec := "rewindLast", unfollowed := true, recurses := true, apart := false }
def RewindLastSaid : Prop := rewindLastRow.holds Try.pinned (OpenSpec.ofChange rewindLastSpec)

/-- ITS FALSE NEIGHBOUR: 'it returns false'. Refute it at one input. -/
def rewindLastWrong : ChangeSpec := { name := "rewindLast", fn := fun _ => fun
  | [d1, d2, d3] => { results := [.lit (.bool false)], args := [d1, d2, d3] }
  | _ => none }
def RewindLastWrongFalsely : Prop := rewindLastRow.holds Try.pinned (OpenSpec.ofChange rewindLastWrong)

/- THE SECOND FORM. 'bulk': how many values and letters a reading holds, each counted each time it is reached (what is shared counts as often as it is met; a slice's spare places count too). A statement '..UptoSaid' is the law's where the arguments, and the package variables that the reading takes, are together of bulk at most 1048576: NARROWER than '..Said'. Prove '..Said' where nothing that the law and all that it calls make is longer than what came in: it says more and counts as full. Else prove '..UptoSaid'. A law counts once. -/
mutual
def uptoBulk {H : Type} : DataW H → Nat
  | .lit (.string bytes) => bytes.length + 1
  | .lit _ => 1
  | .nil => 1
  | .ptr d => uptoBulk d + 1
  | .slice elems spare => uptoBulkAll elems + uptoBulkAll spare + 1
  | .agg parts => uptoBulkAll parts + 1
  | .iface _ d => uptoBulk d + 1
  | .map entries => uptoBulkEntries entries + 1
  | .held _ => 1
def uptoBulkAll {H : Type} : List (DataW H) → Nat
  | [] => 0
  | d :: r => uptoBulk d + uptoBulkAll r
def uptoBulkEntries {H : Type} : List (Lit × DataW H) → Nat
  | [] => 0
  | x :: r => uptoBulkEntry x + uptoBulkEntries r
def uptoBulkEntry {H : Type} : Lit × DataW H → Nat
  | (.string bytes, d) => bytes.length + uptoBulk d + 1
  | (_, d) => uptoBulk d + 1
 end
def uptoSmall : (H : Type) → List (DataW H) → Bool := fun _ ds => decide (uptoBulkAll ds ≤ 1048576)
def OpenSpec.upto (s : _root_.Go.ChangeSpec) : _root_.Go.OpenSpec := { _root_.Go.OpenSpec.ofChange s with cond := some uptoSmall }

/-- 'ricochetlaw20.RewindShoots', WHERE WHAT IT READS IS OF BULK AT MOST 1048576: true; the input reads as it did. -/
def rewindShootsUptoRow : OpenClaim := { program := "ytcbmkhogmdkpdaa", sum := "5a33d82d6e5317fb6e8ab8ccd0278cde571832506a524e70200eef51ac4a485f", func := "ricochet/ricochetlaw20.RewindShoots", spec := "rewindShoots", unfollowed := true, recurses := true, apart := false, narrowed := true }
def RewindShootsUptoSaid : Prop := rewindShootsUptoRow.holds Try.pinned (OpenSpec.upto rewindShootsSpec)

/-- 'ricochetlaw20.RewindStays', WHERE WHAT IT READS IS OF BULK AT MOST 1048576: true; the input reads as it did. -/
def rewindStaysUptoRow : OpenClaim := { program := "ytcbmkhogmdkpdaa", sum := "5a33d82d6e5317fb6e8ab8ccd0278cde571832506a524e70200eef51ac4a485f", func := "ricochet/ricochetlaw20.RewindStays", spec := "rewindStays", unfollowed := true, recurses := true, apart := false, narrowed := true }
def RewindStaysUptoSaid : Prop := rewindStaysUptoRow.holds Try.pinned (OpenSpec.upto rewindStaysSpec)

/-- 'ricochetlaw20.RewindMeets', WHERE WHAT IT READS IS OF BULK AT MOST 1048576: true; the input reads as it did. -/
def rewindMeetsUptoRow : OpenClaim := { program := "ytcbmkhogmdkpdaa", sum := "5a33d82d6e5317fb6e8ab8ccd0278cde571832506a524e70200eef51ac4a485f", func := "ricochet/ricochetlaw20.RewindMeets", spec := "rewindMeets", unfollowed := true, recurses := true, apart := false, narrowed := true }
def RewindMeetsUptoSaid : Prop := rewindMeetsUptoRow.holds Try.pinned (OpenSpec.upto rewindMeetsSpec)

/-- 'ricochetlaw20.RewindNone', WHERE WHAT IT READS IS OF BULK AT MOST 1048576: true; the input reads as it did. -/
def rewindNoneUptoRow : OpenClaim := { program := "ytcbmkhogmdkpdaa", sum := "5a33d82d6e5317fb6e8ab8ccd0278cde571832506a524e70200eef51ac4a485f", func := "ricochet/ricochetlaw20.RewindNone", spec := "rewindNone", unfollowed := true, recurses := true, apart := false, narrowed := true }
def RewindNoneUptoSaid : Prop := rewindNoneUptoRow.holds Try.pinned (OpenSpec.upto rewindNoneSpec)

/-- 'ricochetlaw20.RewindLast', WHERE WHAT IT READS IS OF BULK AT MOST 1048576: true; the input reads as it did. -/
def rewindLastUptoRow : OpenClaim := { program := "ytcbmkhogmdkpdaa", sum := "5a33d82d6e5317fb6e8ab8ccd0278cde571832506a524e70200eef51ac4a485f", func := "ricochet/ricochetlaw20.RewindLast", spec := "rewindLast", unfollowed := true, recurses := true, apart := false, narrowed := true }
def RewindLastUptoSaid : Prop := rewindLastUptoRow.holds Try.pinned (OpenSpec.upto rewindLastSpec)

end Rows
end Go.Proofs.Ytcbmkhogmdkpdaa
