/-
  No cell of these rows narrows 'for every input' (looked for: loops, veiled, ifaces, maps, wideKeys, modest, calm, conditions, laid).
  DERIVED. THE GIVEN ROWS OF THIS SEAT. 5 by the template 'for every input the law returns true; each argument reads behind the call as it read before'; 0 by the template 'total and deterministic' (their statements: YtelkknmnnmmoaaaTotals.lean).
  GIVEN WITH THE SEED: the statements are not yours to turn. If you find one false, say at which input.
  Laid BY PROGRAM, IN A SANDBOX (cutbox-rows.mjs): the forced cells as the released guide's own fill.sh prints them over the translation 5aeed7bbde429cdb… (all of the seat's roots in one cut). By AI agents, Wed Nov 11 2026. No macro, syntax, notation, axiom, sorry.
-/
import Derived.Test.YtelkknmnnmmoaaaChecked
import GoSem.Claim
import GoSem.ClaimJoined
import GoSem.ClaimMapViews
import Derived.JoinedTies
import Derived.KernelRfl
namespace Go.Proofs.Ytelkknmnnmmoaaa
/- THE CELL 'sum', in the pinned program and in every row, IS THE sha256 OF THE DUMP (.gsa) THAT YtelkknmnnmmoaaaProg.lean LOADS. Nothing in Lean hashes anything: it is a label: what it is worth is what the hold of that sum in a sandbox is worth. -/
noncomputable def Try.pinned : Pinned := { name := "ytelkknmnnmmoaaa", sum := "5aeed7bbde429cdb14254c1655189c8590384122be795ce0bb1b8894c4198ec1", checked := Try.checked }
namespace Rows
def none {H : Type} : Left H := { results := [], args := [] }

/-- 'pollardlaw16.SuperForms': WHATEVER THE INPUT: true; the input reads as it did. -/
def superFormsSpec : ChangeSpec := { name := "superForms", fn := fun _ => fun
  | [d1, d2] => { results := [.lit (.bool true)], args := [d1, d2] }
  | _ => none }
def superFormsRow : OpenClaim := { program := "ytelkknmnnmmoaaa", sum := "5aeed7bbde429cdb14254c1655189c8590384122be795ce0bb1b8894c4198ec1", func := "pollard/pollardlaw16.SuperForms", spec := "superForms", unfollowed := true, recurses := true, apart := false }
def SuperFormsSaid : Prop := superFormsRow.holds Try.pinned (OpenSpec.ofChange superFormsSpec)

/-- ITS FALSE NEIGHBOUR: 'it returns false'. Refute it at one input. -/
def superFormsWrong : ChangeSpec := { name := "superForms", fn := fun _ => fun
  | [d1, d2] => { results := [.lit (.bool false)], args := [d1, d2] }
  | _ => none }
def SuperFormsWrongFalsely : Prop := superFormsRow.holds Try.pinned (OpenSpec.ofChange superFormsWrong)

/-- 'pollardlaw16.SuperApart': WHATEVER THE INPUT: true; the input reads as it did. -/
def superApartSpec : ChangeSpec := { name := "superApart", fn := fun _ => fun
  | [d1, d2] => { results := [.lit (.bool true)], args := [d1, d2] }
  | _ => none }
def superApartRow : OpenClaim := { program := "ytelkknmnnmmoaaa", sum := "5aeed7bbde429cdb14254c1655189c8590384122be795ce0bb1b8894c4198ec1", func := "pollard/pollardlaw16.SuperApart", spec := "superApart", unfollowed := true, recurses := true, apart := false }
def SuperApartSaid : Prop := superApartRow.holds Try.pinned (OpenSpec.ofChange superApartSpec)

/-- ITS FALSE NEIGHBOUR: 'it returns false'. Refute it at one input. -/
def superApartWrong : ChangeSpec := { name := "superApart", fn := fun _ => fun
  | [d1, d2] => { results := [.lit (.bool false)], args := [d1, d2] }
  | _ => none }
def SuperApartWrongFalsely : Prop := superApartRow.holds Try.pinned (OpenSpec.ofChange superApartWrong)

/-- 'pollardlaw16.SuperNewer': WHATEVER THE INPUT: true; the input reads as it did. -/
def superNewerSpec : ChangeSpec := { name := "superNewer", fn := fun _ => fun
  | [d1, d2] => { results := [.lit (.bool true)], args := [d1, d2] }
  | _ => none }
def superNewerRow : OpenClaim := { program := "ytelkknmnnmmoaaa", sum := "5aeed7bbde429cdb14254c1655189c8590384122be795ce0bb1b8894c4198ec1", func := "pollard/pollardlaw16.SuperNewer", spec := "superNewer", unfollowed := true, recurses := true, apart := false }
def SuperNewerSaid : Prop := superNewerRow.holds Try.pinned (OpenSpec.ofChange superNewerSpec)

/-- ITS FALSE NEIGHBOUR: 'it returns false'. Refute it at one input. -/
def superNewerWrong : ChangeSpec := { name := "superNewer", fn := fun _ => fun
  | [d1, d2] => { results := [.lit (.bool false)], args := [d1, d2] }
  | _ => none }
def SuperNewerWrongFalsely : Prop := superNewerRow.holds Try.pinned (OpenSpec.ofChange superNewerWrong)

/-- 'pollardlaw16.SuperTorn': WHATEVER THE INPUT: true; the input reads as it did. -/
def superTornSpec : ChangeSpec := { name := "superTorn", fn := fun _ => fun
  | [d] => { results := [.lit (.bool true)], args := [d] }
  | _ => none }
def superTornRow : OpenClaim := { program := "ytelkknmnnmmoaaa", sum := "5aeed7bbde429cdb14254c1655189c8590384122be795ce0bb1b8894c4198ec1", func := "pollard/pollardlaw16.SuperTorn", spec := "superTorn", unfollowed := true, recurses := true, apart := false }
def SuperTornSaid : Prop := superTornRow.holds Try.pinned (OpenSpec.ofChange superTornSpec)

/-- ITS FALSE NEIGHBOUR: 'it returns false'. Refute it at one input. -/
def superTornWrong : ChangeSpec := { name := "superTorn", fn := fun _ => fun
  | [d] => { results := [.lit (.bool false)], args := [d] }
  | _ => none }
def SuperTornWrongFalsely : Prop := superTornRow.holds Try.pinned (OpenSpec.ofChange superTornWrong)

/-- 'pollardlaw16.SuperDoes': WHATEVER THE INPUT: true; the input reads as it did. -/
def superDoesSpec : ChangeSpec := { name := "superDoes", fn := fun _ => fun
  | [d1, d2] => { results := [.lit (.bool true)], args := [d1, d2] }
  | _ => none }
def superDoesRow : OpenClaim := { program := "ytelkknmnnmmoaaa", sum := "5aeed7bbde429cdb14254c1655189c8590384122be795ce0bb1b8894c4198ec1", func := "pollard/pollardlaw16.SuperDoes", spec := "superDoes", unfollowed := true, recurses := true, apart := false }
def SuperDoesSaid : Prop := superDoesRow.holds Try.pinned (OpenSpec.ofChange superDoesSpec)

/-- ITS FALSE NEIGHBOUR: 'it returns false'. Refute it at one input. -/
def superDoesWrong : ChangeSpec := { name := "superDoes", fn := fun _ => fun
  | [d1, d2] => { results := [.lit (.bool false)], args := [d1, d2] }
  | _ => none }
def SuperDoesWrongFalsely : Prop := superDoesRow.holds Try.pinned (OpenSpec.ofChange superDoesWrong)

/- THE SECOND FORM. 'bulk': how many values and letters a reading holds, each counted each time it is reached (what is shared counts as often as it is met; a slice's spare places count too). A statement '..UptoSaid' is the law's where the arguments, and the package variables that the reading takes, are together of bulk at most 1048576: NARROWER than '..Said'. Prove '..Said' where nothing that the law and all that it calls make is longer than what came in: it says more and counts as full. Else prove '..UptoSaid'. A law counts once. -/
mutual
def uptoBulk {H : Type} : DataW H → Nat
  | .lit (.string bytes) => bytes.length + 1
  | .lit _ => 1
  | .nil => 1
  | .ptr d => uptoBulk d + 1
  | .slice elems spare => uptoBulkAll elems + uptoBulkAll spare + 1
  | .agg parts => uptoBulkAll parts + 1
  | .iface _ d => uptoBulk d + 1
  | .map entries => uptoBulkEntries entries + 1
  | .held _ => 1
def uptoBulkAll {H : Type} : List (DataW H) → Nat
  | [] => 0
  | d :: r => uptoBulk d + uptoBulkAll r
def uptoBulkEntries {H : Type} : List (Lit × DataW H) → Nat
  | [] => 0
  | x :: r => uptoBulkEntry x + uptoBulkEntries r
def uptoBulkEntry {H : Type} : Lit × DataW H → Nat
  | (.string bytes, d) => bytes.length + uptoBulk d + 1
  | (_, d) => uptoBulk d + 1
 end
def uptoSmall : (H : Type) → List (DataW H) → Bool := fun _ ds => decide (uptoBulkAll ds ≤ 1048576)
def OpenSpec.upto (s : _root_.Go.ChangeSpec) : _root_.Go.OpenSpec := { _root_.Go.OpenSpec.ofChange s with cond := some uptoSmall }

/-- 'pollardlaw16.SuperForms', WHERE WHAT IT READS IS OF BULK AT MOST 1048576: true; the input reads as it did. -/
def superFormsUptoRow : OpenClaim := { program := "ytelkknmnnmmoaaa", sum := "5aeed7bbde429cdb14254c1655189c8590384122be795ce0bb1b8894c4198ec1", func := "pollard/pollardlaw16.SuperForms", spec := "superForms", unfollowed := true, recurses := true, apart := false, narrowed := true }
def SuperFormsUptoSaid : Prop := superFormsUptoRow.holds Try.pinned (OpenSpec.upto superFormsSpec)

/-- 'pollardlaw16.SuperApart', WHERE WHAT IT READS IS OF BULK AT MOST 1048576: true; the input reads as it did. -/
def superApartUptoRow : OpenClaim := { program := "ytelkknmnnmmoaaa", sum := "5aeed7bbde429cdb14254c1655189c8590384122be795ce0bb1b8894c4198ec1", func := "pollard/pollardlaw16.SuperApart", spec := "superApart", unfollowed := true, recurses := true, apart := false, narrowed := true }
def SuperApartUptoSaid : Prop := superApartUptoRow.holds Try.pinned (OpenSpec.upto superApartSpec)

/-- 'pollardlaw16.SuperNewer', WHERE WHAT IT READS IS OF BULK AT MOST 1048576: true; the input reads as it did. -/
def superNewerUptoRow : OpenClaim := { program := "ytelkknmnnmmoaaa", sum := "5aeed7bbde429cdb14254c1655189c8590384122be795ce0bb1b8894c4198ec1", func := "pollard/pollardlaw16.SuperNewer", spec := "superNewer", unfollowed := true, recurses := true, apart := false, narrowed := true }
def SuperNewerUptoSaid : Prop := superNewerUptoRow.holds Try.pinned (OpenSpec.upto superNewerSpec)

/-- 'pollardlaw16.SuperTorn', WHERE WHAT IT READS IS OF BULK AT MOST 1048576: true; the input reads as it did. -/
def superTornUptoRow : OpenClaim := { program := "ytelkknmnnmmoaaa", sum := "5aeed7bbde429cdb14254c1655189c8590384122be795ce0bb1b8894c4198ec1", func := "pollard/pollardlaw16.SuperTorn", spec := "superTorn", unfollowed := true, recurses := true, apart := false, narrowed := true }
def SuperTornUptoSaid : Prop := superTornUptoRow.holds Try.pinned (OpenSpec.upto superTornSpec)

/-- 'pollardlaw16.SuperDoes', WHERE WHAT IT READS IS OF BULK AT MOST 1048576: true; the input reads as it did. -/
def superDoesUptoRow : OpenClaim := { program := "ytelkknmnnmmoaaa", sum := "5aeed7bbde429cdb14254c1655189c8590384122be795ce0bb1b8894c4198ec1", func := "pollard/pollardlaw16.SuperDoes", spec := "superDoes", unfollowed := true, recurses := true, apart := false, narrowed := true }
def SuperDoesUptoSaid : Prop := superDoesUptoRow.holds Try.pinned (OpenSpec.upto superDoesSpec)

end Rows
end Go.Proofs.Ytelkknmnnmmoaaa
