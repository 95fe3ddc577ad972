/-
  No cell of these rows narrows 'for every input' (looked for: loops, veiled, ifaces, maps, wideKeys, modest, calm, conditions, laid).
  DERIVED. THE GIVEN ROWS OF THIS SEAT. 6 by the template 'for every input the law returns true; each argument reads behind the call as it read before'; 0 by the template 'total and deterministic' (their statements: YtilgaelpbgfnnaaGreatTotals.lean).
  GIVEN WITH THE SEED: the statements are not yours to turn. If you find one false, say at which input.
  Laid BY PROGRAM, IN A SANDBOX (cutbox-rows.mjs): the forced cells as the released guide's own fill.sh prints them over the translation 26e2ec2e9e8179b8… (all of the seat's roots in one cut). By AI agents, Wed Nov 11 2026. No macro, syntax, notation, axiom, sorry.
-/
import Derived.Test.YtilgaelpbgfnnaaGreatChecked
import GoSem.Claim
import GoSem.ClaimJoined
import GoSem.ClaimMapViews
import Derived.JoinedTies
import Derived.KernelRfl
namespace Go.Proofs.YtilgaelpbgfnnaaGreat
/- THE CELL 'sum', in the pinned program and in every row, IS THE sha256 OF THE DUMP (.gsa) THAT YtilgaelpbgfnnaaGreatProg.lean LOADS. Nothing in Lean hashes anything: it is a label: what it is worth is what the hold of that sum in a sandbox is worth. -/
noncomputable def Tryz.pinned : Pinned := { name := "ytilgaelpbgfnnaagreat", sum := "26e2ec2e9e8179b8c35d7d1602a36ed4a6f7ac5f6e0a4c87e4b78326dc2e454f", checked := Tryz.checked }
namespace Rows
def none {H : Type} : Left H := { results := [], args := [] }

/-- 'pollardlaw12.TxnApart': WHATEVER THE INPUT: true; the input reads as it did. -/
def txnApartSpec : ChangeSpec := { name := "txnApart", fn := fun _ => fun
  | [d1, d2] => { results := [.lit (.bool true)], args := [d1, d2] }
  | _ => none }
def txnApartRow : OpenClaim := { program := "ytilgaelpbgfnnaagreat", sum := "26e2ec2e9e8179b8c35d7d1602a36ed4a6f7ac5f6e0a4c87e4b78326dc2e454f", func := "pollard/pollardlaw12.TxnApart", spec := "txnApart", inPlace := ["sync/atomic.StoreInt64", "sync/atomic.LoadPointer", "sync/atomic.StorePointer", "sync/atomic.CompareAndSwapPointer", "sync/atomic.CompareAndSwapInt64", "sync/atomic.AddInt64", "sync/atomic.LoadInt64"], unfollowed := true, recurses := true, apart := false }
def TxnApartSaid : Prop := txnApartRow.holds Tryz.pinned (OpenSpec.ofChange txnApartSpec)

/-- ITS FALSE NEIGHBOUR: 'it returns false'. Refute it at one input. -/
def txnApartWrong : ChangeSpec := { name := "txnApart", fn := fun _ => fun
  | [d1, d2] => { results := [.lit (.bool false)], args := [d1, d2] }
  | _ => none }
def TxnApartWrongFalsely : Prop := txnApartRow.holds Tryz.pinned (OpenSpec.ofChange txnApartWrong)

/-- 'pollardlaw12.TxnOne': WHATEVER THE INPUT: true; the input reads as it did. -/
def txnOneSpec : ChangeSpec := { name := "txnOne", fn := fun _ => fun
  | [d1, d2, d3] => { results := [.lit (.bool true)], args := [d1, d2, d3] }
  | _ => none }
def txnOneRow : OpenClaim := { program := "ytilgaelpbgfnnaagreat", sum := "26e2ec2e9e8179b8c35d7d1602a36ed4a6f7ac5f6e0a4c87e4b78326dc2e454f", func := "pollard/pollardlaw12.TxnOne", spec := "txnOne", inPlace := ["sync/atomic.StoreInt64", "sync/atomic.LoadPointer", "sync/atomic.StorePointer", "sync/atomic.CompareAndSwapPointer", "sync/atomic.CompareAndSwapInt64", "sync/atomic.AddInt64", "sync/atomic.LoadInt64"], unfollowed := true, recurses := true, apart := false }
def TxnOneSaid : Prop := txnOneRow.holds Tryz.pinned (OpenSpec.ofChange txnOneSpec)

/-- ITS FALSE NEIGHBOUR: 'it returns false'. Refute it at one input. -/
def txnOneWrong : ChangeSpec := { name := "txnOne", fn := fun _ => fun
  | [d1, d2, d3] => { results := [.lit (.bool false)], args := [d1, d2, d3] }
  | _ => none }
def TxnOneWrongFalsely : Prop := txnOneRow.holds Tryz.pinned (OpenSpec.ofChange txnOneWrong)

/-- 'pollardlaw12.TxnBehind': WHATEVER THE INPUT: true; the input reads as it did. -/
def txnBehindSpec : ChangeSpec := { name := "txnBehind", fn := fun _ => fun
  | [d1, d2, d3] => { results := [.lit (.bool true)], args := [d1, d2, d3] }
  | _ => none }
def txnBehindRow : OpenClaim := { program := "ytilgaelpbgfnnaagreat", sum := "26e2ec2e9e8179b8c35d7d1602a36ed4a6f7ac5f6e0a4c87e4b78326dc2e454f", func := "pollard/pollardlaw12.TxnBehind", spec := "txnBehind", inPlace := ["sync/atomic.StoreInt64", "sync/atomic.LoadPointer", "sync/atomic.StorePointer", "sync/atomic.CompareAndSwapPointer", "sync/atomic.CompareAndSwapInt64", "sync/atomic.AddInt64", "sync/atomic.LoadInt64"], unfollowed := true, recurses := true, apart := false }
def TxnBehindSaid : Prop := txnBehindRow.holds Tryz.pinned (OpenSpec.ofChange txnBehindSpec)

/-- ITS FALSE NEIGHBOUR: 'it returns false'. Refute it at one input. -/
def txnBehindWrong : ChangeSpec := { name := "txnBehind", fn := fun _ => fun
  | [d1, d2, d3] => { results := [.lit (.bool false)], args := [d1, d2, d3] }
  | _ => none }
def TxnBehindWrongFalsely : Prop := txnBehindRow.holds Tryz.pinned (OpenSpec.ofChange txnBehindWrong)

/-- 'pollardlaw12.TxnForms': WHATEVER THE INPUT: true; the input reads as it did. -/
def txnFormsSpec : ChangeSpec := { name := "txnForms", fn := fun _ => fun
  | [d1, d2, d3, d4] => { results := [.lit (.bool true)], args := [d1, d2, d3, d4] }
  | _ => none }
def txnFormsRow : OpenClaim := { program := "ytilgaelpbgfnnaagreat", sum := "26e2ec2e9e8179b8c35d7d1602a36ed4a6f7ac5f6e0a4c87e4b78326dc2e454f", func := "pollard/pollardlaw12.TxnForms", spec := "txnForms", inPlace := ["sync/atomic.StoreInt64", "sync/atomic.LoadPointer", "sync/atomic.StorePointer", "sync/atomic.CompareAndSwapPointer", "sync/atomic.CompareAndSwapInt64", "sync/atomic.AddInt64", "sync/atomic.LoadInt64"], unfollowed := true, recurses := true, apart := false }
def TxnFormsSaid : Prop := txnFormsRow.holds Tryz.pinned (OpenSpec.ofChange txnFormsSpec)

/-- ITS FALSE NEIGHBOUR: 'it returns false'. Refute it at one input. -/
def txnFormsWrong : ChangeSpec := { name := "txnForms", fn := fun _ => fun
  | [d1, d2, d3, d4] => { results := [.lit (.bool false)], args := [d1, d2, d3, d4] }
  | _ => none }
def TxnFormsWrongFalsely : Prop := txnFormsRow.holds Tryz.pinned (OpenSpec.ofChange txnFormsWrong)

/-- 'pollardlaw12.TxnBack': WHATEVER THE INPUT: true; the input reads as it did. -/
def txnBackSpec : ChangeSpec := { name := "txnBack", fn := fun _ => fun
  | [d1, d2, d3, d4] => { results := [.lit (.bool true)], args := [d1, d2, d3, d4] }
  | _ => none }
def txnBackRow : OpenClaim := { program := "ytilgaelpbgfnnaagreat", sum := "26e2ec2e9e8179b8c35d7d1602a36ed4a6f7ac5f6e0a4c87e4b78326dc2e454f", func := "pollard/pollardlaw12.TxnBack", spec := "txnBack", inPlace := ["sync/atomic.StoreInt64", "sync/atomic.LoadPointer", "sync/atomic.StorePointer", "sync/atomic.CompareAndSwapPointer", "sync/atomic.CompareAndSwapInt64", "sync/atomic.AddInt64", "sync/atomic.LoadInt64"], unfollowed := true, recurses := true, apart := false }
def TxnBackSaid : Prop := txnBackRow.holds Tryz.pinned (OpenSpec.ofChange txnBackSpec)

/-- ITS FALSE NEIGHBOUR: 'it returns false'. Refute it at one input. -/
def txnBackWrong : ChangeSpec := { name := "txnBack", fn := fun _ => fun
  | [d1, d2, d3, d4] => { results := [.lit (.bool false)], args := [d1, d2, d3, d4] }
  | _ => none }
def TxnBackWrongFalsely : Prop := txnBackRow.holds Tryz.pinned (OpenSpec.ofChange txnBackWrong)

/-- 'pollardlaw12.TxnDoes': WHATEVER THE INPUT: true; the input reads as it did. -/
def txnDoesSpec : ChangeSpec := { name := "txnDoes", fn := fun _ => fun
  | [d1, d2] => { results := [.lit (.bool true)], args := [d1, d2] }
  | _ => none }
def txnDoesRow : OpenClaim := { program := "ytilgaelpbgfnnaagreat", sum := "26e2ec2e9e8179b8c35d7d1602a36ed4a6f7ac5f6e0a4c87e4b78326dc2e454f", func := "pollard/pollardlaw12.TxnDoes", spec := "txnDoes", inPlace := ["sync/atomic.StoreInt64", "sync/atomic.LoadPointer", "sync/atomic.StorePointer", "sync/atomic.CompareAndSwapPointer", "sync/atomic.CompareAndSwapInt64", "sync/atomic.AddInt64", "sync/atomic.LoadInt64"], unfollowed := true, recurses := true, apart := false }
def TxnDoesSaid : Prop := txnDoesRow.holds Tryz.pinned (OpenSpec.ofChange txnDoesSpec)

/-- ITS FALSE NEIGHBOUR: 'it returns false'. Refute it at one input. -/
def txnDoesWrong : ChangeSpec := { name := "txnDoes", fn := fun _ => fun
  | [d1, d2] => { results := [.lit (.bool false)], args := [d1, d2] }
  | _ => none }
def TxnDoesWrongFalsely : Prop := txnDoesRow.holds Tryz.pinned (OpenSpec.ofChange txnDoesWrong)

/- THE SECOND FORM. 'bulk': how many values and letters a reading holds, each counted each time it is reached (what is shared counts as often as it is met; a slice's spare places count too). A statement '..UptoSaid' is the law's where the arguments, and the package variables that the reading takes, are together of bulk at most 1048576: NARROWER than '..Said'. Prove '..Said' where nothing that the law and all that it calls make is longer than what came in: it says more and counts as full. Else prove '..UptoSaid'. A law counts once. -/
mutual
def uptoBulk {H : Type} : DataW H → Nat
  | .lit (.string bytes) => bytes.length + 1
  | .lit _ => 1
  | .nil => 1
  | .ptr d => uptoBulk d + 1
  | .slice elems spare => uptoBulkAll elems + uptoBulkAll spare + 1
  | .agg parts => uptoBulkAll parts + 1
  | .iface _ d => uptoBulk d + 1
  | .map entries => uptoBulkEntries entries + 1
  | .held _ => 1
def uptoBulkAll {H : Type} : List (DataW H) → Nat
  | [] => 0
  | d :: r => uptoBulk d + uptoBulkAll r
def uptoBulkEntries {H : Type} : List (Lit × DataW H) → Nat
  | [] => 0
  | x :: r => uptoBulkEntry x + uptoBulkEntries r
def uptoBulkEntry {H : Type} : Lit × DataW H → Nat
  | (.string bytes, d) => bytes.length + uptoBulk d + 1
  | (_, d) => uptoBulk d + 1
 end
def uptoSmall : (H : Type) → List (DataW H) → Bool := fun _ ds => decide (uptoBulkAll ds ≤ 1048576)
def OpenSpec.upto (s : _root_.Go.ChangeSpec) : _root_.Go.OpenSpec := { _root_.Go.OpenSpec.ofChange s with cond := some uptoSmall }

/-- 'pollardlaw12.TxnApart', WHERE WHAT IT READS IS OF BULK AT MOST 1048576: true; the input reads as it did. -/
def txnApartUptoRow : OpenClaim := { program := "ytilgaelpbgfnnaagreat", sum := "26e2ec2e9e8179b8c35d7d1602a36ed4a6f7ac5f6e0a4c87e4b78326dc2e454f", func := "pollard/pollardlaw12.TxnApart", spec := "txnApart", inPlace := ["sync/atomic.StoreInt64", "sync/atomic.LoadPointer", "sync/atomic.StorePointer", "sync/atomic.CompareAndSwapPointer", "sync/atomic.CompareAndSwapInt64", "sync/atomic.AddInt64", "sync/atomic.LoadInt64"], unfollowed := true, recurses := true, apart := false, narrowed := true }
def TxnApartUptoSaid : Prop := txnApartUptoRow.holds Tryz.pinned (OpenSpec.upto txnApartSpec)

/-- 'pollardlaw12.TxnOne', WHERE WHAT IT READS IS OF BULK AT MOST 1048576: true; the input reads as it did. -/
def txnOneUptoRow : OpenClaim := { program := "ytilgaelpbgfnnaagreat", sum := "26e2ec2e9e8179b8c35d7d1602a36ed4a6f7ac5f6e0a4c87e4b78326dc2e454f", func := "pollard/pollardlaw12.TxnOne", spec := "txnOne", inPlace := ["sync/atomic.StoreInt64", "sync/atomic.LoadPointer", "sync/atomic.StorePointer", "sync/atomic.CompareAndSwapPointer", "sync/atomic.CompareAndSwapInt64", "sync/atomic.AddInt64", "sync/atomic.LoadInt64"], unfollowed := true, recurses := true, apart := false, narrowed := true }
def TxnOneUptoSaid : Prop := txnOneUptoRow.holds Tryz.pinned (OpenSpec.upto txnOneSpec)

/-- 'pollardlaw12.TxnBehind', WHERE WHAT IT READS IS OF BULK AT MOST 1048576: true; the input reads as it did. -/
def txnBehindUptoRow : OpenClaim := { program := "ytilgaelpbgfnnaagreat", sum := "26e2ec2e9e8179b8c35d7d1602a36ed4a6f7ac5f6e0a4c87e4b78326dc2e454f", func := "pollard/pollardlaw12.TxnBehind", spec := "txnBehind", inPlace := ["sync/atomic.StoreInt64", "sync/atomic.LoadPointer", "sync/atomic.StorePointer", "sync/atomic.CompareAndSwapPointer", "sync/atomic.CompareAndSwapInt64", "sync/atomic.AddInt64", "sync/atomic.LoadInt64"], unfollowed := true, recurses := true, apart := false, narrowed := true }
def TxnBehindUptoSaid : Prop := txnBehindUptoRow.holds Tryz.pinned (OpenSpec.upto txnBehindSpec)

/-- 'pollardlaw12.TxnForms', WHERE WHAT IT READS IS OF BULK AT MOST 1048576: true; the input reads as it did. -/
def txnFormsUptoRow : OpenClaim := { program := "ytilgaelpbgfnnaagreat", sum := "26e2ec2e9e8179b8c35d7d1602a36ed4a6f7ac5f6e0a4c87e4b78326dc2e454f", func := "pollard/pollardlaw12.TxnForms", spec := "txnForms", inPlace := ["sync/atomic.StoreInt64", "sync/atomic.LoadPointer", "sync/atomic.StorePointer", "sync/atomic.CompareAndSwapPointer", "sync/atomic.CompareAndSwapInt64", "sync/atomic.AddInt64", "sync/atomic.LoadInt64"], unfollowed := true, recurses := true, apart := false, narrowed := true }
def TxnFormsUptoSaid : Prop := txnFormsUptoRow.holds Tryz.pinned (OpenSpec.upto txnFormsSpec)

/-- 'pollardlaw12.TxnBack', WHERE WHAT IT READS IS OF BULK AT MOST 1048576: true; the input reads as it did. -/
def txnBackUptoRow : OpenClaim := { program := "ytilgaelpbgfnnaagreat", sum := "26e2ec2e9e8179b8c35d7d1602a36ed4a6f7ac5f6e0a4c87e4b78326dc2e454f", func := "pollard/pollardlaw12.TxnBack", spec := "txnBack", inPlace := ["sync/atomic.StoreInt64", "sync/atomic.LoadPointer", "sync/atomic.StorePointer", "sync/atomic.CompareAndSwapPointer", "sync/atomic.CompareAndSwapInt64", "sync/atomic.AddInt64", "sync/atomic.LoadInt64"], unfollowed := true, recurses := true, apart := false, narrowed := true }
def TxnBackUptoSaid : Prop := txnBackUptoRow.holds Tryz.pinned (OpenSpec.upto txnBackSpec)

/-- 'pollardlaw12.TxnDoes', WHERE WHAT IT READS IS OF BULK AT MOST 1048576: true; the input reads as it did. -/
def txnDoesUptoRow : OpenClaim := { program := "ytilgaelpbgfnnaagreat", sum := "26e2ec2e9e8179b8c35d7d1602a36ed4a6f7ac5f6e0a4c87e4b78326dc2e454f", func := "pollard/pollardlaw12.TxnDoes", spec := "txnDoes", inPlace := ["sync/atomic.StoreInt64", "sync/atomic.LoadPointer", "sync/atomic.StorePointer", "sync/atomic.CompareAndSwapPointer", "sync/atomic.CompareAndSwapInt64", "sync/atomic.AddInt64", "sync/atomic.LoadInt64"], unfollowed := true, recurses := true, apart := false, narrowed := true }
def TxnDoesUptoSaid : Prop := txnDoesUptoRow.holds Tryz.pinned (OpenSpec.upto txnDoesSpec)

end Rows
end Go.Proofs.YtilgaelpbgfnnaaGreat
