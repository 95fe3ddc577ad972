/-
  No cell of these rows narrows 'for every input' (looked for: loops, veiled, ifaces, maps, wideKeys, modest, calm, conditions, laid).
  DERIVED. THE GIVEN ROWS OF THIS SEAT. 8 by the template 'for every input the law returns true; each argument reads behind the call as it read before'; 0 by the template 'total and deterministic' (their statements: YtoplcafnmghifaaTotals.lean).
  GIVEN WITH THE SEED: the statements are not yours to turn. If you find one false, say at which input.
  Laid BY PROGRAM, IN A SANDBOX (cutbox-rows.mjs): the forced cells as the released guide's own fill.sh prints them over the translation b34fc4f6cde5d28a… (all of the seat's roots in one cut). By AI agents, Wed Nov 11 2026. No macro, syntax, notation, axiom, sorry.
-/
import Derived.Test.YtoplcafnmghifaaChecked
import GoSem.Claim
import GoSem.ClaimJoined
import GoSem.ClaimMapViews
import Derived.JoinedTies
import Derived.KernelRfl
namespace Go.Proofs.Ytoplcafnmghifaa
/- THE CELL 'sum', in the pinned program and in every row, IS THE sha256 OF THE DUMP (.gsa) THAT YtoplcafnmghifaaProg.lean LOADS. Nothing in Lean hashes anything: it is a label: what it is worth is what the hold of that sum in a sandbox is worth. -/
noncomputable def Try.pinned : Pinned := { name := "ytoplcafnmghifaa", sum := "b34fc4f6cde5d28a05da4c54b0130fcee08e9f84c02678284d4b433e1161387f", checked := Try.checked }
namespace Rows
def none {H : Type} : Left H := { results := [], args := [] }

/-- 'pollardlaw04.CellAdds': WHATEVER THE INPUT: true; the input reads as it did. -/
def cellAddsSpec : ChangeSpec := { name := "cellAdds", fn := fun _ => fun
  | [d1, d2, d3] => { results := [.lit (.bool true)], args := [d1, d2, d3] }
  | _ => none }
def cellAddsRow : OpenClaim := { program := "ytoplcafnmghifaa", sum := "b34fc4f6cde5d28a05da4c54b0130fcee08e9f84c02678284d4b433e1161387f", func := "pollard/pollardlaw04.CellAdds", spec := "cellAdds", inPlace := ["sync/atomic.StoreInt64", "sync/atomic.AddInt64", "sync/atomic.LoadInt64", "sync/atomic.CompareAndSwapInt64"], apart := false }
def CellAddsSaid : Prop := cellAddsRow.holds Try.pinned (OpenSpec.ofChange cellAddsSpec)

/-- ITS FALSE NEIGHBOUR: 'it returns false'. Refute it at one input. -/
def cellAddsWrong : ChangeSpec := { name := "cellAdds", fn := fun _ => fun
  | [d1, d2, d3] => { results := [.lit (.bool false)], args := [d1, d2, d3] }
  | _ => none }
def CellAddsWrongFalsely : Prop := cellAddsRow.holds Try.pinned (OpenSpec.ofChange cellAddsWrong)

/-- 'pollardlaw04.CellDoes': WHATEVER THE INPUT: true; the input reads as it did. -/
def cellDoesSpec : ChangeSpec := { name := "cellDoes", fn := fun _ => fun
  | [d1, d2] => { results := [.lit (.bool true)], args := [d1, d2] }
  | _ => none }
def cellDoesRow : OpenClaim := { program := "ytoplcafnmghifaa", sum := "b34fc4f6cde5d28a05da4c54b0130fcee08e9f84c02678284d4b433e1161387f", func := "pollard/pollardlaw04.CellDoes", spec := "cellDoes", inPlace := ["sync/atomic.StoreInt64", "sync/atomic.AddInt64", "sync/atomic.LoadInt64", "sync/atomic.CompareAndSwapInt64"], apart := false }
def CellDoesSaid : Prop := cellDoesRow.holds Try.pinned (OpenSpec.ofChange cellDoesSpec)

/-- ITS FALSE NEIGHBOUR: 'it returns false'. Refute it at one input. -/
def cellDoesWrong : ChangeSpec := { name := "cellDoes", fn := fun _ => fun
  | [d1, d2] => { results := [.lit (.bool false)], args := [d1, d2] }
  | _ => none }
def CellDoesWrongFalsely : Prop := cellDoesRow.holds Try.pinned (OpenSpec.ofChange cellDoesWrong)

/-- 'pollardlaw04.CellCounts': WHATEVER THE INPUT: true; the input reads as it did. -/
def cellCountsSpec : ChangeSpec := { name := "cellCounts", fn := fun _ => fun
  | [d1, d2] => { results := [.lit (.bool true)], args := [d1, d2] }
  | _ => none }
def cellCountsRow : OpenClaim := { program := "ytoplcafnmghifaa", sum := "b34fc4f6cde5d28a05da4c54b0130fcee08e9f84c02678284d4b433e1161387f", func := "pollard/pollardlaw04.CellCounts", spec := "cellCounts", inPlace := ["sync/atomic.StoreInt64", "sync/atomic.AddInt64", "sync/atomic.LoadInt64", "sync/atomic.CompareAndSwapInt64"], apart := false }
def CellCountsSaid : Prop := cellCountsRow.holds Try.pinned (OpenSpec.ofChange cellCountsSpec)

/-- ITS FALSE NEIGHBOUR: 'it returns false'. Refute it at one input. -/
def cellCountsWrong : ChangeSpec := { name := "cellCounts", fn := fun _ => fun
  | [d1, d2] => { results := [.lit (.bool false)], args := [d1, d2] }
  | _ => none }
def CellCountsWrongFalsely : Prop := cellCountsRow.holds Try.pinned (OpenSpec.ofChange cellCountsWrong)

/-- 'pollardlaw03.DiskTorn': WHATEVER THE INPUT: true; the input reads as it did. -/
def diskTornSpec : ChangeSpec := { name := "diskTorn", fn := fun _ => fun
  | [d1, d2, d3] => { results := [.lit (.bool true)], args := [d1, d2, d3] }
  | _ => none }
def diskTornRow : OpenClaim := { program := "ytoplcafnmghifaa", sum := "b34fc4f6cde5d28a05da4c54b0130fcee08e9f84c02678284d4b433e1161387f", func := "pollard/pollardlaw03.DiskTorn", spec := "diskTorn", apart := false }
def DiskTornSaid : Prop := diskTornRow.holds Try.pinned (OpenSpec.ofChange diskTornSpec)

/-- ITS FALSE NEIGHBOUR: 'it returns false'. Refute it at one input. -/
def diskTornWrong : ChangeSpec := { name := "diskTorn", fn := fun _ => fun
  | [d1, d2, d3] => { results := [.lit (.bool false)], args := [d1, d2, d3] }
  | _ => none }
def DiskTornWrongFalsely : Prop := diskTornRow.holds Try.pinned (OpenSpec.ofChange diskTornWrong)

/-- 'pollardlaw03.DiskStays': WHATEVER THE INPUT: true; the input reads as it did. -/
def diskStaysSpec : ChangeSpec := { name := "diskStays", fn := fun _ => fun
  | [d1, d2, d3, d4, d5] => { results := [.lit (.bool true)], args := [d1, d2, d3, d4, d5] }
  | _ => none }
def diskStaysRow : OpenClaim := { program := "ytoplcafnmghifaa", sum := "b34fc4f6cde5d28a05da4c54b0130fcee08e9f84c02678284d4b433e1161387f", func := "pollard/pollardlaw03.DiskStays", spec := "diskStays", apart := false }
def DiskStaysSaid : Prop := diskStaysRow.holds Try.pinned (OpenSpec.ofChange diskStaysSpec)

/-- ITS FALSE NEIGHBOUR: 'it returns false'. Refute it at one input. -/
def diskStaysWrong : ChangeSpec := { name := "diskStays", fn := fun _ => fun
  | [d1, d2, d3, d4, d5] => { results := [.lit (.bool false)], args := [d1, d2, d3, d4, d5] }
  | _ => none }
def DiskStaysWrongFalsely : Prop := diskStaysRow.holds Try.pinned (OpenSpec.ofChange diskStaysWrong)

/-- 'pollardlaw03.DiskDoes': WHATEVER THE INPUT: true; the input reads as it did. -/
def diskDoesSpec : ChangeSpec := { name := "diskDoes", fn := fun _ => fun
  | [d1, d2] => { results := [.lit (.bool true)], args := [d1, d2] }
  | _ => none }
def diskDoesRow : OpenClaim := { program := "ytoplcafnmghifaa", sum := "b34fc4f6cde5d28a05da4c54b0130fcee08e9f84c02678284d4b433e1161387f", func := "pollard/pollardlaw03.DiskDoes", spec := "diskDoes", apart := false }
def DiskDoesSaid : Prop := diskDoesRow.holds Try.pinned (OpenSpec.ofChange diskDoesSpec)

/-- ITS FALSE NEIGHBOUR: 'it returns false'. Refute it at one input. -/
def diskDoesWrong : ChangeSpec := { name := "diskDoes", fn := fun _ => fun
  | [d1, d2] => { results := [.lit (.bool false)], args := [d1, d2] }
  | _ => none }
def DiskDoesWrongFalsely : Prop := diskDoesRow.holds Try.pinned (OpenSpec.ofChange diskDoesWrong)

/-- 'pollardlaw03.DiskCut': WHATEVER THE INPUT: true; the input reads as it did. -/
def diskCutSpec : ChangeSpec := { name := "diskCut", fn := fun _ => fun
  | [d1, d2, d3] => { results := [.lit (.bool true)], args := [d1, d2, d3] }
  | _ => none }
def diskCutRow : OpenClaim := { program := "ytoplcafnmghifaa", sum := "b34fc4f6cde5d28a05da4c54b0130fcee08e9f84c02678284d4b433e1161387f", func := "pollard/pollardlaw03.DiskCut", spec := "diskCut", apart := false }
def DiskCutSaid : Prop := diskCutRow.holds Try.pinned (OpenSpec.ofChange diskCutSpec)

/-- ITS FALSE NEIGHBOUR: 'it returns false'. Refute it at one input. -/
def diskCutWrong : ChangeSpec := { name := "diskCut", fn := fun _ => fun
  | [d1, d2, d3] => { results := [.lit (.bool false)], args := [d1, d2, d3] }
  | _ => none }
def DiskCutWrongFalsely : Prop := diskCutRow.holds Try.pinned (OpenSpec.ofChange diskCutWrong)

/-- 'pollardlaw03.DiskAlike': WHATEVER THE INPUT: true; the input reads as it did. -/
def diskAlikeSpec : ChangeSpec := { name := "diskAlike", fn := fun _ => fun
  | [d] => { results := [.lit (.bool true)], args := [d] }
  | _ => none }
def diskAlikeRow : OpenClaim := { program := "ytoplcafnmghifaa", sum := "b34fc4f6cde5d28a05da4c54b0130fcee08e9f84c02678284d4b433e1161387f", func := "pollard/pollardlaw03.DiskAlike", spec := "diskAlike", apart := false }
def DiskAlikeSaid : Prop := diskAlikeRow.holds Try.pinned (OpenSpec.ofChange diskAlikeSpec)

/-- ITS FALSE NEIGHBOUR: 'it returns false'. Refute it at one input. -/
def diskAlikeWrong : ChangeSpec := { name := "diskAlike", fn := fun _ => fun
  | [d] => { results := [.lit (.bool false)], args := [d] }
  | _ => none }
def DiskAlikeWrongFalsely : Prop := diskAlikeRow.holds Try.pinned (OpenSpec.ofChange diskAlikeWrong)

/- THE SECOND FORM. 'bulk': how many values and letters a reading holds, each counted each time it is reached (what is shared counts as often as it is met; a slice's spare places count too). A statement '..UptoSaid' is the law's where the arguments, and the package variables that the reading takes, are together of bulk at most 1048576: NARROWER than '..Said'. Prove '..Said' where nothing that the law and all that it calls make is longer than what came in: it says more and counts as full. Else prove '..UptoSaid'. A law counts once. -/
mutual
def uptoBulk {H : Type} : DataW H → Nat
  | .lit (.string bytes) => bytes.length + 1
  | .lit _ => 1
  | .nil => 1
  | .ptr d => uptoBulk d + 1
  | .slice elems spare => uptoBulkAll elems + uptoBulkAll spare + 1
  | .agg parts => uptoBulkAll parts + 1
  | .iface _ d => uptoBulk d + 1
  | .map entries => uptoBulkEntries entries + 1
  | .held _ => 1
def uptoBulkAll {H : Type} : List (DataW H) → Nat
  | [] => 0
  | d :: r => uptoBulk d + uptoBulkAll r
def uptoBulkEntries {H : Type} : List (Lit × DataW H) → Nat
  | [] => 0
  | x :: r => uptoBulkEntry x + uptoBulkEntries r
def uptoBulkEntry {H : Type} : Lit × DataW H → Nat
  | (.string bytes, d) => bytes.length + uptoBulk d + 1
  | (_, d) => uptoBulk d + 1
 end
def uptoSmall : (H : Type) → List (DataW H) → Bool := fun _ ds => decide (uptoBulkAll ds ≤ 1048576)
def OpenSpec.upto (s : _root_.Go.ChangeSpec) : _root_.Go.OpenSpec := { _root_.Go.OpenSpec.ofChange s with cond := some uptoSmall }

/-- 'pollardlaw04.CellAdds', WHERE WHAT IT READS IS OF BULK AT MOST 1048576: true; the input reads as it did. -/
def cellAddsUptoRow : OpenClaim := { program := "ytoplcafnmghifaa", sum := "b34fc4f6cde5d28a05da4c54b0130fcee08e9f84c02678284d4b433e1161387f", func := "pollard/pollardlaw04.CellAdds", spec := "cellAdds", inPlace := ["sync/atomic.StoreInt64", "sync/atomic.AddInt64", "sync/atomic.LoadInt64", "sync/atomic.CompareAndSwapInt64"], apart := false, narrowed := true }
def CellAddsUptoSaid : Prop := cellAddsUptoRow.holds Try.pinned (OpenSpec.upto cellAddsSpec)

/-- 'pollardlaw04.CellDoes', WHERE WHAT IT READS IS OF BULK AT MOST 1048576: true; the input reads as it did. -/
def cellDoesUptoRow : OpenClaim := { program := "ytoplcafnmghifaa", sum := "b34fc4f6cde5d28a05da4c54b0130fcee08e9f84c02678284d4b433e1161387f", func := "pollard/pollardlaw04.CellDoes", spec := "cellDoes", inPlace := ["sync/atomic.StoreInt64", "sync/atomic.AddInt64", "sync/atomic.LoadInt64", "sync/atomic.CompareAndSwapInt64"], apart := false, narrowed := true }
def CellDoesUptoSaid : Prop := cellDoesUptoRow.holds Try.pinned (OpenSpec.upto cellDoesSpec)

/-- 'pollardlaw04.CellCounts', WHERE WHAT IT READS IS OF BULK AT MOST 1048576: true; the input reads as it did. -/
def cellCountsUptoRow : OpenClaim := { program := "ytoplcafnmghifaa", sum := "b34fc4f6cde5d28a05da4c54b0130fcee08e9f84c02678284d4b433e1161387f", func := "pollard/pollardlaw04.CellCounts", spec := "cellCounts", inPlace := ["sync/atomic.StoreInt64", "sync/atomic.AddInt64", "sync/atomic.LoadInt64", "sync/atomic.CompareAndSwapInt64"], apart := false, narrowed := true }
def CellCountsUptoSaid : Prop := cellCountsUptoRow.holds Try.pinned (OpenSpec.upto cellCountsSpec)

/-- 'pollardlaw03.DiskTorn', WHERE WHAT IT READS IS OF BULK AT MOST 1048576: true; the input reads as it did. -/
def diskTornUptoRow : OpenClaim := { program := "ytoplcafnmghifaa", sum := "b34fc4f6cde5d28a05da4c54b0130fcee08e9f84c02678284d4b433e1161387f", func := "pollard/pollardlaw03.DiskTorn", spec := "diskTorn", apart := false, narrowed := true }
def DiskTornUptoSaid : Prop := diskTornUptoRow.holds Try.pinned (OpenSpec.upto diskTornSpec)

/-- 'pollardlaw03.DiskStays', WHERE WHAT IT READS IS OF BULK AT MOST 1048576: true; the input reads as it did. -/
def diskStaysUptoRow : OpenClaim := { program := "ytoplcafnmghifaa", sum := "b34fc4f6cde5d28a05da4c54b0130fcee08e9f84c02678284d4b433e1161387f", func := "pollard/pollardlaw03.DiskStays", spec := "diskStays", apart := false, narrowed := true }
def DiskStaysUptoSaid : Prop := diskStaysUptoRow.holds Try.pinned (OpenSpec.upto diskStaysSpec)

/-- 'pollardlaw03.DiskDoes', WHERE WHAT IT READS IS OF BULK AT MOST 1048576: true; the input reads as it did. -/
def diskDoesUptoRow : OpenClaim := { program := "ytoplcafnmghifaa", sum := "b34fc4f6cde5d28a05da4c54b0130fcee08e9f84c02678284d4b433e1161387f", func := "pollard/pollardlaw03.DiskDoes", spec := "diskDoes", apart := false, narrowed := true }
def DiskDoesUptoSaid : Prop := diskDoesUptoRow.holds Try.pinned (OpenSpec.upto diskDoesSpec)

/-- 'pollardlaw03.DiskCut', WHERE WHAT IT READS IS OF BULK AT MOST 1048576: true; the input reads as it did. -/
def diskCutUptoRow : OpenClaim := { program := "ytoplcafnmghifaa", sum := "b34fc4f6cde5d28a05da4c54b0130fcee08e9f84c02678284d4b433e1161387f", func := "pollard/pollardlaw03.DiskCut", spec := "diskCut", apart := false, narrowed := true }
def DiskCutUptoSaid : Prop := diskCutUptoRow.holds Try.pinned (OpenSpec.upto diskCutSpec)

/-- 'pollardlaw03.DiskAlike', WHERE WHAT IT READS IS OF BULK AT MOST 1048576: true; the input reads as it did. -/
def diskAlikeUptoRow : OpenClaim := { program := "ytoplcafnmghifaa", sum := "b34fc4f6cde5d28a05da4c54b0130fcee08e9f84c02678284d4b433e1161387f", func := "pollard/pollardlaw03.DiskAlike", spec := "diskAlike", apart := false, narrowed := true }
def DiskAlikeUptoSaid : Prop := diskAlikeUptoRow.holds Try.pinned (OpenSpec.upto diskAlikeSpec)

end Rows
end Go.Proofs.Ytoplcafnmghifaa
