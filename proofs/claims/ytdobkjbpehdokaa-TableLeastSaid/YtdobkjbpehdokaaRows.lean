/-
  No cell of these rows narrows 'for every input' (looked for: loops, veiled, ifaces, maps, wideKeys, modest, calm, conditions, laid).
  DERIVED. THE GIVEN ROWS OF THIS SEAT. 8 by the template 'for every input the law returns true; each argument reads behind the call as it read before'; 0 by the template 'total and deterministic' (their statements: YtdobkjbpehdokaaTotals.lean).
  GIVEN WITH THE SEED: the statements are not yours to turn. If you find one false, say at which input.
  Laid BY PROGRAM, IN A SANDBOX (cutbox-rows.mjs): the forced cells as the released guide's own fill.sh prints them over the translation 1f34580ab88bc631… (all of the seat's roots in one cut). By AI agents, Wed Nov 11 2026. No macro, syntax, notation, axiom, sorry.
-/
import Derived.Test.YtdobkjbpehdokaaChecked
import GoSem.Claim
import GoSem.ClaimJoined
import GoSem.ClaimMapViews
import Derived.JoinedTies
import Derived.KernelRfl
namespace Go.Proofs.Ytdobkjbpehdokaa
/- THE CELL 'sum', in the pinned program and in every row, IS THE sha256 OF THE DUMP (.gsa) THAT YtdobkjbpehdokaaProg.lean LOADS. Nothing in Lean hashes anything: it is a label: what it is worth is what the hold of that sum in a sandbox is worth. -/
noncomputable def Try.pinned : Pinned := { name := "ytdobkjbpehdokaa", sum := "1f34580ab88bc6316ae7c7821de02993a38c492aa96989374137d87a5a837ce4", checked := Try.checked }
namespace Rows
def none {H : Type} : Left H := { results := [], args := [] }

/-- 'pollardlaw05.LoomMoves': WHATEVER THE INPUT: true; the input reads as it did. -/
def loomMovesSpec : ChangeSpec := { name := "loomMoves", fn := fun _ => fun
  | [d1, d2, d3] => { results := [.lit (.bool true)], args := [d1, d2, d3] }
  | _ => none }
def loomMovesRow : OpenClaim := { program := "ytdobkjbpehdokaa", sum := "1f34580ab88bc6316ae7c7821de02993a38c492aa96989374137d87a5a837ce4", func := "pollard/pollardlaw05.LoomMoves", spec := "loomMoves", inPlace := ["sync/atomic.StoreInt64", "sync/atomic.CompareAndSwapInt64", "sync/atomic.AddInt64", "sync/atomic.LoadInt64"], unfollowed := true, recurses := true, apart := false }
def LoomMovesSaid : Prop := loomMovesRow.holds Try.pinned (OpenSpec.ofChange loomMovesSpec)

/-- ITS FALSE NEIGHBOUR: 'it returns false'. Refute it at one input. -/
def loomMovesWrong : ChangeSpec := { name := "loomMoves", fn := fun _ => fun
  | [d1, d2, d3] => { results := [.lit (.bool false)], args := [d1, d2, d3] }
  | _ => none }
def LoomMovesWrongFalsely : Prop := loomMovesRow.holds Try.pinned (OpenSpec.ofChange loomMovesWrong)

/-- 'pollardlaw05.LoomDoes': WHATEVER THE INPUT: true; the input reads as it did. -/
def loomDoesSpec : ChangeSpec := { name := "loomDoes", fn := fun _ => fun
  | [d1, d2, d3, d4] => { results := [.lit (.bool true)], args := [d1, d2, d3, d4] }
  | _ => none }
def loomDoesRow : OpenClaim := { program := "ytdobkjbpehdokaa", sum := "1f34580ab88bc6316ae7c7821de02993a38c492aa96989374137d87a5a837ce4", func := "pollard/pollardlaw05.LoomDoes", spec := "loomDoes", inPlace := ["sync/atomic.StoreInt64", "sync/atomic.CompareAndSwapInt64", "sync/atomic.AddInt64", "sync/atomic.LoadInt64"], unfollowed := true, recurses := true, apart := false }
def LoomDoesSaid : Prop := loomDoesRow.holds Try.pinned (OpenSpec.ofChange loomDoesSpec)

/-- ITS FALSE NEIGHBOUR: 'it returns false'. Refute it at one input. -/
def loomDoesWrong : ChangeSpec := { name := "loomDoes", fn := fun _ => fun
  | [d1, d2, d3, d4] => { results := [.lit (.bool false)], args := [d1, d2, d3, d4] }
  | _ => none }
def LoomDoesWrongFalsely : Prop := loomDoesRow.holds Try.pinned (OpenSpec.ofChange loomDoesWrong)

/-- 'pollardlaw05.LoomTurns': WHATEVER THE INPUT: true; the input reads as it did. -/
def loomTurnsSpec : ChangeSpec := { name := "loomTurns", fn := fun _ => fun
  | [d1, d2] => { results := [.lit (.bool true)], args := [d1, d2] }
  | _ => none }
def loomTurnsRow : OpenClaim := { program := "ytdobkjbpehdokaa", sum := "1f34580ab88bc6316ae7c7821de02993a38c492aa96989374137d87a5a837ce4", func := "pollard/pollardlaw05.LoomTurns", spec := "loomTurns", inPlace := ["sync/atomic.StoreInt64", "sync/atomic.CompareAndSwapInt64", "sync/atomic.AddInt64", "sync/atomic.LoadInt64"], unfollowed := true, recurses := true, apart := false }
def LoomTurnsSaid : Prop := loomTurnsRow.holds Try.pinned (OpenSpec.ofChange loomTurnsSpec)

/-- ITS FALSE NEIGHBOUR: 'it returns false'. Refute it at one input. -/
def loomTurnsWrong : ChangeSpec := { name := "loomTurns", fn := fun _ => fun
  | [d1, d2] => { results := [.lit (.bool false)], args := [d1, d2] }
  | _ => none }
def LoomTurnsWrongFalsely : Prop := loomTurnsRow.holds Try.pinned (OpenSpec.ofChange loomTurnsWrong)

/-- 'pollardlaw05.LoomAlike': WHATEVER THE INPUT: true; the input reads as it did. -/
def loomAlikeSpec : ChangeSpec := { name := "loomAlike", fn := fun _ => fun
  | [d1, d2, d3] => { results := [.lit (.bool true)], args := [d1, d2, d3] }
  | _ => none }
def loomAlikeRow : OpenClaim := { program := "ytdobkjbpehdokaa", sum := "1f34580ab88bc6316ae7c7821de02993a38c492aa96989374137d87a5a837ce4", func := "pollard/pollardlaw05.LoomAlike", spec := "loomAlike", inPlace := ["sync/atomic.StoreInt64", "sync/atomic.CompareAndSwapInt64", "sync/atomic.AddInt64", "sync/atomic.LoadInt64"], unfollowed := true, recurses := true, apart := false }
def LoomAlikeSaid : Prop := loomAlikeRow.holds Try.pinned (OpenSpec.ofChange loomAlikeSpec)

/-- ITS FALSE NEIGHBOUR: 'it returns false'. Refute it at one input. -/
def loomAlikeWrong : ChangeSpec := { name := "loomAlike", fn := fun _ => fun
  | [d1, d2, d3] => { results := [.lit (.bool false)], args := [d1, d2, d3] }
  | _ => none }
def LoomAlikeWrongFalsely : Prop := loomAlikeRow.holds Try.pinned (OpenSpec.ofChange loomAlikeWrong)

/-- 'pollardlaw05.LoomKeeps': WHATEVER THE INPUT: true; the input reads as it did. -/
def loomKeepsSpec : ChangeSpec := { name := "loomKeeps", fn := fun _ => fun
  | [d1, d2, d3] => { results := [.lit (.bool true)], args := [d1, d2, d3] }
  | _ => none }
def loomKeepsRow : OpenClaim := { program := "ytdobkjbpehdokaa", sum := "1f34580ab88bc6316ae7c7821de02993a38c492aa96989374137d87a5a837ce4", func := "pollard/pollardlaw05.LoomKeeps", spec := "loomKeeps", inPlace := ["sync/atomic.StoreInt64", "sync/atomic.CompareAndSwapInt64", "sync/atomic.AddInt64", "sync/atomic.LoadInt64"], unfollowed := true, recurses := true, apart := false }
def LoomKeepsSaid : Prop := loomKeepsRow.holds Try.pinned (OpenSpec.ofChange loomKeepsSpec)

/-- ITS FALSE NEIGHBOUR: 'it returns false'. Refute it at one input. -/
def loomKeepsWrong : ChangeSpec := { name := "loomKeeps", fn := fun _ => fun
  | [d1, d2, d3] => { results := [.lit (.bool false)], args := [d1, d2, d3] }
  | _ => none }
def LoomKeepsWrongFalsely : Prop := loomKeepsRow.holds Try.pinned (OpenSpec.ofChange loomKeepsWrong)

/-- 'pollardlaw09.TableOne': WHATEVER THE INPUT: true; the input reads as it did. -/
def tableOneSpec : ChangeSpec := { name := "tableOne", fn := fun _ => fun
  | [d1, d2, d3] => { results := [.lit (.bool true)], args := [d1, d2, d3] }
  | _ => none }
def tableOneRow : OpenClaim := { program := "ytdobkjbpehdokaa", sum := "1f34580ab88bc6316ae7c7821de02993a38c492aa96989374137d87a5a837ce4", func := "pollard/pollardlaw09.TableOne", spec := "tableOne", inPlace := ["sync/atomic.StoreInt64", "sync/atomic.LoadPointer", "sync/atomic.StorePointer", "sync/atomic.CompareAndSwapPointer", "sync/atomic.CompareAndSwapInt64", "sync/atomic.AddInt64", "sync/atomic.LoadInt64"], apart := false }
def TableOneSaid : Prop := tableOneRow.holds Try.pinned (OpenSpec.ofChange tableOneSpec)

/-- ITS FALSE NEIGHBOUR: 'it returns false'. Refute it at one input. -/
def tableOneWrong : ChangeSpec := { name := "tableOne", fn := fun _ => fun
  | [d1, d2, d3] => { results := [.lit (.bool false)], args := [d1, d2, d3] }
  | _ => none }
def TableOneWrongFalsely : Prop := tableOneRow.holds Try.pinned (OpenSpec.ofChange tableOneWrong)

/-- 'pollardlaw09.TableTokens': WHATEVER THE INPUT: true; the input reads as it did. -/
def tableTokensSpec : ChangeSpec := { name := "tableTokens", fn := fun _ => fun
  | [d] => { results := [.lit (.bool true)], args := [d] }
  | _ => none }
def tableTokensRow : OpenClaim := { program := "ytdobkjbpehdokaa", sum := "1f34580ab88bc6316ae7c7821de02993a38c492aa96989374137d87a5a837ce4", func := "pollard/pollardlaw09.TableTokens", spec := "tableTokens", inPlace := ["sync/atomic.StoreInt64", "sync/atomic.LoadPointer", "sync/atomic.StorePointer", "sync/atomic.CompareAndSwapPointer", "sync/atomic.CompareAndSwapInt64", "sync/atomic.AddInt64", "sync/atomic.LoadInt64"], apart := false }
def TableTokensSaid : Prop := tableTokensRow.holds Try.pinned (OpenSpec.ofChange tableTokensSpec)

/-- ITS FALSE NEIGHBOUR: 'it returns false'. Refute it at one input. -/
def tableTokensWrong : ChangeSpec := { name := "tableTokens", fn := fun _ => fun
  | [d] => { results := [.lit (.bool false)], args := [d] }
  | _ => none }
def TableTokensWrongFalsely : Prop := tableTokensRow.holds Try.pinned (OpenSpec.ofChange tableTokensWrong)

/-- 'pollardlaw09.TableLeast': WHATEVER THE INPUT: true; the input reads as it did. -/
def tableLeastSpec : ChangeSpec := { name := "tableLeast", fn := fun _ => fun
  | [d] => { results := [.lit (.bool true)], args := [d] }
  | _ => none }
def tableLeastRow : OpenClaim := { program := "ytdobkjbpehdokaa", sum := "1f34580ab88bc6316ae7c7821de02993a38c492aa96989374137d87a5a837ce4", func := "pollard/pollardlaw09.TableLeast", spec := "tableLeast", inPlace := ["sync/atomic.StoreInt64", "sync/atomic.LoadPointer", "sync/atomic.StorePointer", "sync/atomic.CompareAndSwapPointer", "sync/atomic.CompareAndSwapInt64", "sync/atomic.AddInt64", "sync/atomic.LoadInt64"], apart := false }
def TableLeastSaid : Prop := tableLeastRow.holds Try.pinned (OpenSpec.ofChange tableLeastSpec)

/-- ITS FALSE NEIGHBOUR: 'it returns false'. Refute it at one input. -/
def tableLeastWrong : ChangeSpec := { name := "tableLeast", fn := fun _ => fun
  | [d] => { results := [.lit (.bool false)], args := [d] }
  | _ => none }
def TableLeastWrongFalsely : Prop := tableLeastRow.holds Try.pinned (OpenSpec.ofChange tableLeastWrong)

/- THE SECOND FORM. 'bulk': how many values and letters a reading holds, each counted each time it is reached (what is shared counts as often as it is met; a slice's spare places count too). A statement '..UptoSaid' is the law's where the arguments, and the package variables that the reading takes, are together of bulk at most 1048576: NARROWER than '..Said'. Prove '..Said' where nothing that the law and all that it calls make is longer than what came in: it says more and counts as full. Else prove '..UptoSaid'. A law counts once. -/
mutual
def uptoBulk {H : Type} : DataW H → Nat
  | .lit (.string bytes) => bytes.length + 1
  | .lit _ => 1
  | .nil => 1
  | .ptr d => uptoBulk d + 1
  | .slice elems spare => uptoBulkAll elems + uptoBulkAll spare + 1
  | .agg parts => uptoBulkAll parts + 1
  | .iface _ d => uptoBulk d + 1
  | .map entries => uptoBulkEntries entries + 1
  | .held _ => 1
def uptoBulkAll {H : Type} : List (DataW H) → Nat
  | [] => 0
  | d :: r => uptoBulk d + uptoBulkAll r
def uptoBulkEntries {H : Type} : List (Lit × DataW H) → Nat
  | [] => 0
  | x :: r => uptoBulkEntry x + uptoBulkEntries r
def uptoBulkEntry {H : Type} : Lit × DataW H → Nat
  | (.string bytes, d) => bytes.length + uptoBulk d + 1
  | (_, d) => uptoBulk d + 1
 end
def uptoSmall : (H : Type) → List (DataW H) → Bool := fun _ ds => decide (uptoBulkAll ds ≤ 1048576)
def OpenSpec.upto (s : _root_.Go.ChangeSpec) : _root_.Go.OpenSpec := { _root_.Go.OpenSpec.ofChange s with cond := some uptoSmall }

/-- 'pollardlaw05.LoomMoves', WHERE WHAT IT READS IS OF BULK AT MOST 1048576: true; the input reads as it did. -/
def loomMovesUptoRow : OpenClaim := { program := "ytdobkjbpehdokaa", sum := "1f34580ab88bc6316ae7c7821de02993a38c492aa96989374137d87a5a837ce4", func := "pollard/pollardlaw05.LoomMoves", spec := "loomMoves", inPlace := ["sync/atomic.StoreInt64", "sync/atomic.CompareAndSwapInt64", "sync/atomic.AddInt64", "sync/atomic.LoadInt64"], unfollowed := true, recurses := true, apart := false, narrowed := true }
def LoomMovesUptoSaid : Prop := loomMovesUptoRow.holds Try.pinned (OpenSpec.upto loomMovesSpec)

/-- 'pollardlaw05.LoomDoes', WHERE WHAT IT READS IS OF BULK AT MOST 1048576: true; the input reads as it did. -/
def loomDoesUptoRow : OpenClaim := { program := "ytdobkjbpehdokaa", sum := "1f34580ab88bc6316ae7c7821de02993a38c492aa96989374137d87a5a837ce4", func := "pollard/pollardlaw05.LoomDoes", spec := "loomDoes", inPlace := ["sync/atomic.StoreInt64", "sync/atomic.CompareAndSwapInt64", "sync/atomic.AddInt64", "sync/atomic.LoadInt64"], unfollowed := true, recurses := true, apart := false, narrowed := true }
def LoomDoesUptoSaid : Prop := loomDoesUptoRow.holds Try.pinned (OpenSpec.upto loomDoesSpec)

/-- 'pollardlaw05.LoomTurns', WHERE WHAT IT READS IS OF BULK AT MOST 1048576: true; the input reads as it did. -/
def loomTurnsUptoRow : OpenClaim := { program := "ytdobkjbpehdokaa", sum := "1f34580ab88bc6316ae7c7821de02993a38c492aa96989374137d87a5a837ce4", func := "pollard/pollardlaw05.LoomTurns", spec := "loomTurns", inPlace := ["sync/atomic.StoreInt64", "sync/atomic.CompareAndSwapInt64", "sync/atomic.AddInt64", "sync/atomic.LoadInt64"], unfollowed := true, recurses := true, apart := false, narrowed := true }
def LoomTurnsUptoSaid : Prop := loomTurnsUptoRow.holds Try.pinned (OpenSpec.upto loomTurnsSpec)

/-- 'pollardlaw05.LoomAlike', WHERE WHAT IT READS IS OF BULK AT MOST 1048576: true; the input reads as it did. -/
def loomAlikeUptoRow : OpenClaim := { program := "ytdobkjbpehdokaa", sum := "1f34580ab88bc6316ae7c7821de02993a38c492aa96989374137d87a5a837ce4", func := "pollard/pollardlaw05.LoomAlike", spec := "loomAlike", inPlace := ["sync/atomic.StoreInt64", "sync/atomic.CompareAndSwapInt64", "sync/atomic.AddInt64", "sync/atomic.LoadInt64"], unfollowed := true, recurses := true, apart := false, narrowed := true }
def LoomAlikeUptoSaid : Prop := loomAlikeUptoRow.holds Try.pinned (OpenSpec.upto loomAlikeSpec)

/-- 'pollardlaw05.LoomKeeps', WHERE WHAT IT READS IS OF BULK AT MOST 1048576: true; the input reads as it did. -/
def loomKeepsUptoRow : OpenClaim := { program := "ytdobkjbpehdokaa", sum := "1f34580ab88bc6316ae7c7821de02993a38c492aa96989374137d87a5a837ce4", func := "pollard/pollardlaw05.LoomKeeps", spec := "loomKeeps", inPlace := ["sync/atomic.StoreInt64", "sync/atomic.CompareAndSwapInt64", "sync/atomic.AddInt64", "sync/atomic.LoadInt64"], unfollowed := true, recurses := true, apart := false, narrowed := true }
def LoomKeepsUptoSaid : Prop := loomKeepsUptoRow.holds Try.pinned (OpenSpec.upto loomKeepsSpec)

/-- 'pollardlaw09.TableOne', WHERE WHAT IT READS IS OF BULK AT MOST 1048576: true; the input reads as it did. -/
def tableOneUptoRow : OpenClaim := { program := "ytdobkjbpehdokaa", sum := "1f34580ab88bc6316ae7c7821de02993a38c492aa96989374137d87a5a837ce4", func := "pollard/pollardlaw09.TableOne", spec := "tableOne", inPlace := ["sync/atomic.StoreInt64", "sync/atomic.LoadPointer", "sync/atomic.StorePointer", "sync/atomic.CompareAndSwapPointer", "sync/atomic.CompareAndSwapInt64", "sync/atomic.AddInt64", "sync/atomic.LoadInt64"], apart := false, narrowed := true }
def TableOneUptoSaid : Prop := tableOneUptoRow.holds Try.pinned (OpenSpec.upto tableOneSpec)

/-- 'pollardlaw09.TableTokens', WHERE WHAT IT READS IS OF BULK AT MOST 1048576: true; the input reads as it did. -/
def tableTokensUptoRow : OpenClaim := { program := "ytdobkjbpehdokaa", sum := "1f34580ab88bc6316ae7c7821de02993a38c492aa96989374137d87a5a837ce4", func := "pollard/pollardlaw09.TableTokens", spec := "tableTokens", inPlace := ["sync/atomic.StoreInt64", "sync/atomic.LoadPointer", "sync/atomic.StorePointer", "sync/atomic.CompareAndSwapPointer", "sync/atomic.CompareAndSwapInt64", "sync/atomic.AddInt64", "sync/atomic.LoadInt64"], apart := false, narrowed := true }
def TableTokensUptoSaid : Prop := tableTokensUptoRow.holds Try.pinned (OpenSpec.upto tableTokensSpec)

/-- 'pollardlaw09.TableLeast', WHERE WHAT IT READS IS OF BULK AT MOST 1048576: true; the input reads as it did. -/
def tableLeastUptoRow : OpenClaim := { program := "ytdobkjbpehdokaa", sum := "1f34580ab88bc6316ae7c7821de02993a38c492aa96989374137d87a5a837ce4", func := "pollard/pollardlaw09.TableLeast", spec := "tableLeast", inPlace := ["sync/atomic.StoreInt64", "sync/atomic.LoadPointer", "sync/atomic.StorePointer", "sync/atomic.CompareAndSwapPointer", "sync/atomic.CompareAndSwapInt64", "sync/atomic.AddInt64", "sync/atomic.LoadInt64"], apart := false, narrowed := true }
def TableLeastUptoSaid : Prop := tableLeastUptoRow.holds Try.pinned (OpenSpec.upto tableLeastSpec)

end Rows
end Go.Proofs.Ytdobkjbpehdokaa
