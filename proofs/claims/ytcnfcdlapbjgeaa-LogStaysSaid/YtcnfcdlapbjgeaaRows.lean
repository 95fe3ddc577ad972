/-
  No cell of these rows narrows 'for every input' (looked for: loops, veiled, ifaces, maps, wideKeys, modest, calm, conditions, laid).
  DERIVED. THE GIVEN ROWS OF THIS SEAT. 5 by the template 'for every input the law returns true; each argument reads behind the call as it read before'; 0 by the template 'total and deterministic' (their statements: YtcnfcdlapbjgeaaTotals.lean).
  GIVEN WITH THE SEED: the statements are not yours to turn. If you find one false, say at which input.
  Laid BY PROGRAM, IN A SANDBOX (cutbox-rows.mjs): the forced cells as the released guide's own fill.sh prints them over the translation 30ce392f5580e1e1… (all of the seat's roots in one cut). By AI agents, Wed Nov 11 2026. No macro, syntax, notation, axiom, sorry.
-/
import Derived.Test.YtcnfcdlapbjgeaaChecked
import GoSem.Claim
import GoSem.ClaimJoined
import GoSem.ClaimMapViews
import Derived.JoinedTies
import Derived.KernelRfl
namespace Go.Proofs.Ytcnfcdlapbjgeaa
/- THE CELL 'sum', in the pinned program and in every row, IS THE sha256 OF THE DUMP (.gsa) THAT YtcnfcdlapbjgeaaProg.lean LOADS. Nothing in Lean hashes anything: it is a label: what it is worth is what the hold of that sum in a sandbox is worth. -/
noncomputable def Try.pinned : Pinned := { name := "ytcnfcdlapbjgeaa", sum := "30ce392f5580e1e1b9ca12f430141f241e07f3a8f3e6c9fa9049498c8a5d2244", checked := Try.checked }
namespace Rows
def none {H : Type} : Left H := { results := [], args := [] }

/-- 'pollardlaw08.LogTwo': WHATEVER THE INPUT: true; the input reads as it did. -/
def logTwoSpec : ChangeSpec := { name := "logTwo", fn := fun _ => fun
  | [d1, d2, d3] => { results := [.lit (.bool true)], args := [d1, d2, d3] }
  | _ => none }
def logTwoRow : OpenClaim := { program := "ytcnfcdlapbjgeaa", sum := "30ce392f5580e1e1b9ca12f430141f241e07f3a8f3e6c9fa9049498c8a5d2244", func := "pollard/pollardlaw08.LogTwo", spec := "logTwo", unfollowed := true, recurses := true, apart := false }
def LogTwoSaid : Prop := logTwoRow.holds Try.pinned (OpenSpec.ofChange logTwoSpec)

/-- ITS FALSE NEIGHBOUR: 'it returns false'. Refute it at one input. -/
def logTwoWrong : ChangeSpec := { name := "logTwo", fn := fun _ => fun
  | [d1, d2, d3] => { results := [.lit (.bool false)], args := [d1, d2, d3] }
  | _ => none }
def LogTwoWrongFalsely : Prop := logTwoRow.holds Try.pinned (OpenSpec.ofChange logTwoWrong)

/-- 'pollardlaw08.LogMoves': WHATEVER THE INPUT: true; the input reads as it did. -/
def logMovesSpec : ChangeSpec := { name := "logMoves", fn := fun _ => fun
  | [d1, d2] => { results := [.lit (.bool true)], args := [d1, d2] }
  | _ => none }
def logMovesRow : OpenClaim := { program := "ytcnfcdlapbjgeaa", sum := "30ce392f5580e1e1b9ca12f430141f241e07f3a8f3e6c9fa9049498c8a5d2244", func := "pollard/pollardlaw08.LogMoves", spec := "logMoves", unfollowed := true, recurses := true, apart := false }
def LogMovesSaid : Prop := logMovesRow.holds Try.pinned (OpenSpec.ofChange logMovesSpec)

/-- ITS FALSE NEIGHBOUR: 'it returns false'. Refute it at one input. -/
def logMovesWrong : ChangeSpec := { name := "logMoves", fn := fun _ => fun
  | [d1, d2] => { results := [.lit (.bool false)], args := [d1, d2] }
  | _ => none }
def LogMovesWrongFalsely : Prop := logMovesRow.holds Try.pinned (OpenSpec.ofChange logMovesWrong)

/-- 'pollardlaw08.LogPlaces': WHATEVER THE INPUT: true; the input reads as it did. -/
def logPlacesSpec : ChangeSpec := { name := "logPlaces", fn := fun _ => fun
  | [d1, d2] => { results := [.lit (.bool true)], args := [d1, d2] }
  | _ => none }
def logPlacesRow : OpenClaim := { program := "ytcnfcdlapbjgeaa", sum := "30ce392f5580e1e1b9ca12f430141f241e07f3a8f3e6c9fa9049498c8a5d2244", func := "pollard/pollardlaw08.LogPlaces", spec := "logPlaces", unfollowed := true, recurses := true, apart := false }
def LogPlacesSaid : Prop := logPlacesRow.holds Try.pinned (OpenSpec.ofChange logPlacesSpec)

/-- ITS FALSE NEIGHBOUR: 'it returns false'. Refute it at one input. -/
def logPlacesWrong : ChangeSpec := { name := "logPlaces", fn := fun _ => fun
  | [d1, d2] => { results := [.lit (.bool false)], args := [d1, d2] }
  | _ => none }
def LogPlacesWrongFalsely : Prop := logPlacesRow.holds Try.pinned (OpenSpec.ofChange logPlacesWrong)

/-- 'pollardlaw08.LogStays': WHATEVER THE INPUT: true; the input reads as it did. -/
def logStaysSpec : ChangeSpec := { name := "logStays", fn := fun _ => fun
  | [d1, d2, d3, d4] => { results := [.lit (.bool true)], args := [d1, d2, d3, d4] }
  | _ => none }
def logStaysRow : OpenClaim := { program := "ytcnfcdlapbjgeaa", sum := "30ce392f5580e1e1b9ca12f430141f241e07f3a8f3e6c9fa9049498c8a5d2244", func := "pollard/pollardlaw08.LogStays", spec := "logStays", unfollowed := true, recurses := true, apart := false }
def LogStaysSaid : Prop := logStaysRow.holds Try.pinned (OpenSpec.ofChange logStaysSpec)

/-- ITS FALSE NEIGHBOUR: 'it returns false'. Refute it at one input. -/
def logStaysWrong : ChangeSpec := { name := "logStays", fn := fun _ => fun
  | [d1, d2, d3, d4] => { results := [.lit (.bool false)], args := [d1, d2, d3, d4] }
  | _ => none }
def LogStaysWrongFalsely : Prop := logStaysRow.holds Try.pinned (OpenSpec.ofChange logStaysWrong)

/-- 'pollardlaw08.LogEras': WHATEVER THE INPUT: true; the input reads as it did. -/
def logErasSpec : ChangeSpec := { name := "logEras", fn := fun _ => fun
  | [d1, d2, d3, d4] => { results := [.lit (.bool true)], args := [d1, d2, d3, d4] }
  | _ => none }
def logErasRow : OpenClaim := { program := "ytcnfcdlapbjgeaa", sum := "30ce392f5580e1e1b9ca12f430141f241e07f3a8f3e6c9fa9049498c8a5d2244", func := "pollard/pollardlaw08.LogEras", spec := "logEras", unfollowed := true, recurses := true, apart := false }
def LogErasSaid : Prop := logErasRow.holds Try.pinned (OpenSpec.ofChange logErasSpec)

/-- ITS FALSE NEIGHBOUR: 'it returns false'. Refute it at one input. -/
def logErasWrong : ChangeSpec := { name := "logEras", fn := fun _ => fun
  | [d1, d2, d3, d4] => { results := [.lit (.bool false)], args := [d1, d2, d3, d4] }
  | _ => none }
def LogErasWrongFalsely : Prop := logErasRow.holds Try.pinned (OpenSpec.ofChange logErasWrong)

/- THE SECOND FORM. 'bulk': how many values and letters a reading holds, each counted each time it is reached (what is shared counts as often as it is met; a slice's spare places count too). A statement '..UptoSaid' is the law's where the arguments, and the package variables that the reading takes, are together of bulk at most 1048576: NARROWER than '..Said'. Prove '..Said' where nothing that the law and all that it calls make is longer than what came in: it says more and counts as full. Else prove '..UptoSaid'. A law counts once. -/
mutual
def uptoBulk {H : Type} : DataW H → Nat
  | .lit (.string bytes) => bytes.length + 1
  | .lit _ => 1
  | .nil => 1
  | .ptr d => uptoBulk d + 1
  | .slice elems spare => uptoBulkAll elems + uptoBulkAll spare + 1
  | .agg parts => uptoBulkAll parts + 1
  | .iface _ d => uptoBulk d + 1
  | .map entries => uptoBulkEntries entries + 1
  | .held _ => 1
def uptoBulkAll {H : Type} : List (DataW H) → Nat
  | [] => 0
  | d :: r => uptoBulk d + uptoBulkAll r
def uptoBulkEntries {H : Type} : List (Lit × DataW H) → Nat
  | [] => 0
  | x :: r => uptoBulkEntry x + uptoBulkEntries r
def uptoBulkEntry {H : Type} : Lit × DataW H → Nat
  | (.string bytes, d) => bytes.length + uptoBulk d + 1
  | (_, d) => uptoBulk d + 1
 end
def uptoSmall : (H : Type) → List (DataW H) → Bool := fun _ ds => decide (uptoBulkAll ds ≤ 1048576)
def OpenSpec.upto (s : _root_.Go.ChangeSpec) : _root_.Go.OpenSpec := { _root_.Go.OpenSpec.ofChange s with cond := some uptoSmall }

/-- 'pollardlaw08.LogTwo', WHERE WHAT IT READS IS OF BULK AT MOST 1048576: true; the input reads as it did. -/
def logTwoUptoRow : OpenClaim := { program := "ytcnfcdlapbjgeaa", sum := "30ce392f5580e1e1b9ca12f430141f241e07f3a8f3e6c9fa9049498c8a5d2244", func := "pollard/pollardlaw08.LogTwo", spec := "logTwo", unfollowed := true, recurses := true, apart := false, narrowed := true }
def LogTwoUptoSaid : Prop := logTwoUptoRow.holds Try.pinned (OpenSpec.upto logTwoSpec)

/-- 'pollardlaw08.LogMoves', WHERE WHAT IT READS IS OF BULK AT MOST 1048576: true; the input reads as it did. -/
def logMovesUptoRow : OpenClaim := { program := "ytcnfcdlapbjgeaa", sum := "30ce392f5580e1e1b9ca12f430141f241e07f3a8f3e6c9fa9049498c8a5d2244", func := "pollard/pollardlaw08.LogMoves", spec := "logMoves", unfollowed := true, recurses := true, apart := false, narrowed := true }
def LogMovesUptoSaid : Prop := logMovesUptoRow.holds Try.pinned (OpenSpec.upto logMovesSpec)

/-- 'pollardlaw08.LogPlaces', WHERE WHAT IT READS IS OF BULK AT MOST 1048576: true; the input reads as it did. -/
def logPlacesUptoRow : OpenClaim := { program := "ytcnfcdlapbjgeaa", sum := "30ce392f5580e1e1b9ca12f430141f241e07f3a8f3e6c9fa9049498c8a5d2244", func := "pollard/pollardlaw08.LogPlaces", spec := "logPlaces", unfollowed := true, recurses := true, apart := false, narrowed := true }
def LogPlacesUptoSaid : Prop := logPlacesUptoRow.holds Try.pinned (OpenSpec.upto logPlacesSpec)

/-- 'pollardlaw08.LogStays', WHERE WHAT IT READS IS OF BULK AT MOST 1048576: true; the input reads as it did. -/
def logStaysUptoRow : OpenClaim := { program := "ytcnfcdlapbjgeaa", sum := "30ce392f5580e1e1b9ca12f430141f241e07f3a8f3e6c9fa9049498c8a5d2244", func := "pollard/pollardlaw08.LogStays", spec := "logStays", unfollowed := true, recurses := true, apart := false, narrowed := true }
def LogStaysUptoSaid : Prop := logStaysUptoRow.holds Try.pinned (OpenSpec.upto logStaysSpec)

/-- 'pollardlaw08.LogEras', WHERE WHAT IT READS IS OF BULK AT MOST 1048576: true; the input reads as it did. -/
def logErasUptoRow : OpenClaim := { program := "ytcnfcdlapbjgeaa", sum := "30ce392f5580e1e1b9ca12f430141f241e07f3a8f3e6c9fa9049498c8a5d2244", func := "pollard/pollardlaw08.LogEras", spec := "logEras", unfollowed := true, recurses := true, apart := false, narrowed := true }
def LogErasUptoSaid : Prop := logErasUptoRow.holds Try.pinned (OpenSpec.upto logErasSpec)

end Rows
end Go.Proofs.Ytcnfcdlapbjgeaa
