/-
  No cell of these rows narrows 'for every input' (looked for: loops, veiled, ifaces, maps, wideKeys, modest, calm, conditions, laid).
  DERIVED. THE GIVEN ROWS OF THIS SEAT. 5 by the template 'for every input the law returns true; each argument reads behind the call as it read before'; 0 by the template 'total and deterministic' (their statements: YtbgkfndnbngnmaaTotals.lean).
  GIVEN WITH THE SEED: the statements are not yours to turn. If you find one false, say at which input.
  Laid BY PROGRAM, IN A SANDBOX (cutbox-rows.mjs): the forced cells as the released guide's own fill.sh prints them over the translation bf96c64087399160… (all of the seat's roots in one cut). By AI agents, Wed Nov 11 2026. No macro, syntax, notation, axiom, sorry.
-/
import Derived.Test.YtbgkfndnbngnmaaChecked
import GoSem.Claim
import GoSem.ClaimJoined
import GoSem.ClaimMapViews
import Derived.JoinedTies
import Derived.KernelRfl
namespace Go.Proofs.Ytbgkfndnbngnmaa
/- THE CELL 'sum', in the pinned program and in every row, IS THE sha256 OF THE DUMP (.gsa) THAT YtbgkfndnbngnmaaProg.lean LOADS. Nothing in Lean hashes anything: it is a label: what it is worth is what the hold of that sum in a sandbox is worth. -/
noncomputable def Try.pinned : Pinned := { name := "ytbgkfndnbngnmaa", sum := "bf96c640873991604d9921248d42a386b98743b78f817dd3330d5c7805913afb", checked := Try.checked }
namespace Rows
def none {H : Type} : Left H := { results := [], args := [] }

/-- 'pollardlaw07.SegParts': WHATEVER THE INPUT: true; the input reads as it did. -/
def segPartsSpec : ChangeSpec := { name := "segParts", fn := fun _ => fun
  | [d1, d2, d3, d4, d5] => { results := [.lit (.bool true)], args := [d1, d2, d3, d4, d5] }
  | _ => none }
def segPartsRow : OpenClaim := { program := "ytbgkfndnbngnmaa", sum := "bf96c640873991604d9921248d42a386b98743b78f817dd3330d5c7805913afb", func := "pollard/pollardlaw07.SegParts", spec := "segParts", unfollowed := true, recurses := true, apart := false }
def SegPartsSaid : Prop := segPartsRow.holds Try.pinned (OpenSpec.ofChange segPartsSpec)

/-- ITS FALSE NEIGHBOUR: 'it returns false'. Refute it at one input. -/
def segPartsWrong : ChangeSpec := { name := "segParts", fn := fun _ => fun
  | [d1, d2, d3, d4, d5] => { results := [.lit (.bool false)], args := [d1, d2, d3, d4, d5] }
  | _ => none }
def SegPartsWrongFalsely : Prop := segPartsRow.holds Try.pinned (OpenSpec.ofChange segPartsWrong)

/-- 'pollardlaw07.SegForms': WHATEVER THE INPUT: true; the input reads as it did. -/
def segFormsSpec : ChangeSpec := { name := "segForms", fn := fun _ => fun
  | [d1, d2] => { results := [.lit (.bool true)], args := [d1, d2] }
  | _ => none }
def segFormsRow : OpenClaim := { program := "ytbgkfndnbngnmaa", sum := "bf96c640873991604d9921248d42a386b98743b78f817dd3330d5c7805913afb", func := "pollard/pollardlaw07.SegForms", spec := "segForms", unfollowed := true, recurses := true, apart := false }
def SegFormsSaid : Prop := segFormsRow.holds Try.pinned (OpenSpec.ofChange segFormsSpec)

/-- ITS FALSE NEIGHBOUR: 'it returns false'. Refute it at one input. -/
def segFormsWrong : ChangeSpec := { name := "segForms", fn := fun _ => fun
  | [d1, d2] => { results := [.lit (.bool false)], args := [d1, d2] }
  | _ => none }
def SegFormsWrongFalsely : Prop := segFormsRow.holds Try.pinned (OpenSpec.ofChange segFormsWrong)

/-- 'pollardlaw07.SegBack': WHATEVER THE INPUT: true; the input reads as it did. -/
def segBackSpec : ChangeSpec := { name := "segBack", fn := fun _ => fun
  | [d1, d2, d3, d4, d5] => { results := [.lit (.bool true)], args := [d1, d2, d3, d4, d5] }
  | _ => none }
def segBackRow : OpenClaim := { program := "ytbgkfndnbngnmaa", sum := "bf96c640873991604d9921248d42a386b98743b78f817dd3330d5c7805913afb", func := "pollard/pollardlaw07.SegBack", spec := "segBack", unfollowed := true, recurses := true, apart := false }
def SegBackSaid : Prop := segBackRow.holds Try.pinned (OpenSpec.ofChange segBackSpec)

/-- ITS FALSE NEIGHBOUR: 'it returns false'. Refute it at one input. -/
def segBackWrong : ChangeSpec := { name := "segBack", fn := fun _ => fun
  | [d1, d2, d3, d4, d5] => { results := [.lit (.bool false)], args := [d1, d2, d3, d4, d5] }
  | _ => none }
def SegBackWrongFalsely : Prop := segBackRow.holds Try.pinned (OpenSpec.ofChange segBackWrong)

/-- 'pollardlaw07.SegFlips': WHATEVER THE INPUT: true; the input reads as it did. -/
def segFlipsSpec : ChangeSpec := { name := "segFlips", fn := fun _ => fun
  | [d1, d2, d3] => { results := [.lit (.bool true)], args := [d1, d2, d3] }
  | _ => none }
def segFlipsRow : OpenClaim := { program := "ytbgkfndnbngnmaa", sum := "bf96c640873991604d9921248d42a386b98743b78f817dd3330d5c7805913afb", func := "pollard/pollardlaw07.SegFlips", spec := "segFlips", unfollowed := true, recurses := true, apart := false }
def SegFlipsSaid : Prop := segFlipsRow.holds Try.pinned (OpenSpec.ofChange segFlipsSpec)

/-- ITS FALSE NEIGHBOUR: 'it returns false'. Refute it at one input. -/
def segFlipsWrong : ChangeSpec := { name := "segFlips", fn := fun _ => fun
  | [d1, d2, d3] => { results := [.lit (.bool false)], args := [d1, d2, d3] }
  | _ => none }
def SegFlipsWrongFalsely : Prop := segFlipsRow.holds Try.pinned (OpenSpec.ofChange segFlipsWrong)

/-- 'pollardlaw07.SegWraps': WHATEVER THE INPUT: true; the input reads as it did. -/
def segWrapsSpec : ChangeSpec := { name := "segWraps", fn := fun _ => fun
  | [d1, d2, d3] => { results := [.lit (.bool true)], args := [d1, d2, d3] }
  | _ => none }
def segWrapsRow : OpenClaim := { program := "ytbgkfndnbngnmaa", sum := "bf96c640873991604d9921248d42a386b98743b78f817dd3330d5c7805913afb", func := "pollard/pollardlaw07.SegWraps", spec := "segWraps", unfollowed := true, recurses := true, apart := false }
def SegWrapsSaid : Prop := segWrapsRow.holds Try.pinned (OpenSpec.ofChange segWrapsSpec)

/-- ITS FALSE NEIGHBOUR: 'it returns false'. Refute it at one input. -/
def segWrapsWrong : ChangeSpec := { name := "segWraps", fn := fun _ => fun
  | [d1, d2, d3] => { results := [.lit (.bool false)], args := [d1, d2, d3] }
  | _ => none }
def SegWrapsWrongFalsely : Prop := segWrapsRow.holds Try.pinned (OpenSpec.ofChange segWrapsWrong)

/- THE SECOND FORM. 'bulk': how many values and letters a reading holds, each counted each time it is reached (what is shared counts as often as it is met; a slice's spare places count too). A statement '..UptoSaid' is the law's where the arguments, and the package variables that the reading takes, are together of bulk at most 1048576: NARROWER than '..Said'. Prove '..Said' where nothing that the law and all that it calls make is longer than what came in: it says more and counts as full. Else prove '..UptoSaid'. A law counts once. -/
mutual
def uptoBulk {H : Type} : DataW H → Nat
  | .lit (.string bytes) => bytes.length + 1
  | .lit _ => 1
  | .nil => 1
  | .ptr d => uptoBulk d + 1
  | .slice elems spare => uptoBulkAll elems + uptoBulkAll spare + 1
  | .agg parts => uptoBulkAll parts + 1
  | .iface _ d => uptoBulk d + 1
  | .map entries => uptoBulkEntries entries + 1
  | .held _ => 1
def uptoBulkAll {H : Type} : List (DataW H) → Nat
  | [] => 0
  | d :: r => uptoBulk d + uptoBulkAll r
def uptoBulkEntries {H : Type} : List (Lit × DataW H) → Nat
  | [] => 0
  | x :: r => uptoBulkEntry x + uptoBulkEntries r
def uptoBulkEntry {H : Type} : Lit × DataW H → Nat
  | (.string bytes, d) => bytes.length + uptoBulk d + 1
  | (_, d) => uptoBulk d + 1
 end
def uptoSmall : (H : Type) → List (DataW H) → Bool := fun _ ds => decide (uptoBulkAll ds ≤ 1048576)
def OpenSpec.upto (s : _root_.Go.ChangeSpec) : _root_.Go.OpenSpec := { _root_.Go.OpenSpec.ofChange s with cond := some uptoSmall }

/-- 'pollardlaw07.SegParts', WHERE WHAT IT READS IS OF BULK AT MOST 1048576: true; the input reads as it did. -/
def segPartsUptoRow : OpenClaim := { program := "ytbgkfndnbngnmaa", sum := "bf96c640873991604d9921248d42a386b98743b78f817dd3330d5c7805913afb", func := "pollard/pollardlaw07.SegParts", spec := "segParts", unfollowed := true, recurses := true, apart := false, narrowed := true }
def SegPartsUptoSaid : Prop := segPartsUptoRow.holds Try.pinned (OpenSpec.upto segPartsSpec)

/-- 'pollardlaw07.SegForms', WHERE WHAT IT READS IS OF BULK AT MOST 1048576: true; the input reads as it did. -/
def segFormsUptoRow : OpenClaim := { program := "ytbgkfndnbngnmaa", sum := "bf96c640873991604d9921248d42a386b98743b78f817dd3330d5c7805913afb", func := "pollard/pollardlaw07.SegForms", spec := "segForms", unfollowed := true, recurses := true, apart := false, narrowed := true }
def SegFormsUptoSaid : Prop := segFormsUptoRow.holds Try.pinned (OpenSpec.upto segFormsSpec)

/-- 'pollardlaw07.SegBack', WHERE WHAT IT READS IS OF BULK AT MOST 1048576: true; the input reads as it did. -/
def segBackUptoRow : OpenClaim := { program := "ytbgkfndnbngnmaa", sum := "bf96c640873991604d9921248d42a386b98743b78f817dd3330d5c7805913afb", func := "pollard/pollardlaw07.SegBack", spec := "segBack", unfollowed := true, recurses := true, apart := false, narrowed := true }
def SegBackUptoSaid : Prop := segBackUptoRow.holds Try.pinned (OpenSpec.upto segBackSpec)

/-- 'pollardlaw07.SegFlips', WHERE WHAT IT READS IS OF BULK AT MOST 1048576: true; the input reads as it did. -/
def segFlipsUptoRow : OpenClaim := { program := "ytbgkfndnbngnmaa", sum := "bf96c640873991604d9921248d42a386b98743b78f817dd3330d5c7805913afb", func := "pollard/pollardlaw07.SegFlips", spec := "segFlips", unfollowed := true, recurses := true, apart := false, narrowed := true }
def SegFlipsUptoSaid : Prop := segFlipsUptoRow.holds Try.pinned (OpenSpec.upto segFlipsSpec)

/-- 'pollardlaw07.SegWraps', WHERE WHAT IT READS IS OF BULK AT MOST 1048576: true; the input reads as it did. -/
def segWrapsUptoRow : OpenClaim := { program := "ytbgkfndnbngnmaa", sum := "bf96c640873991604d9921248d42a386b98743b78f817dd3330d5c7805913afb", func := "pollard/pollardlaw07.SegWraps", spec := "segWraps", unfollowed := true, recurses := true, apart := false, narrowed := true }
def SegWrapsUptoSaid : Prop := segWrapsUptoRow.holds Try.pinned (OpenSpec.upto segWrapsSpec)

end Rows
end Go.Proofs.Ytbgkfndnbngnmaa
