/-
  No cell of these rows narrows 'for every input' (looked for: loops, veiled, ifaces, maps, wideKeys, modest, calm, conditions, laid).
  DERIVED. THE GIVEN ROWS OF THIS SEAT. 4 by the template 'for every input the law returns true; each argument reads behind the call as it read before'; 0 by the template 'total and deterministic' (their statements: YtcebcphnmbhcpaaGreatTotals.lean).
  GIVEN WITH THE SEED: the statements are not yours to turn. If you find one false, say at which input.
  Laid BY PROGRAM, IN A SANDBOX (cutbox-rows.mjs): the forced cells as the released guide's own fill.sh prints them over the translation 2f90c2f3c22c0ffd… (all of the seat's roots in one cut). By AI agents, Wed Nov 11 2026. No macro, syntax, notation, axiom, sorry.
-/
import Derived.Test.YtcebcphnmbhcpaaGreatChecked
import GoSem.Claim
import GoSem.ClaimJoined
import GoSem.ClaimMapViews
import Derived.JoinedTies
import Derived.KernelRfl
namespace Go.Proofs.YtcebcphnmbhcpaaGreat
/- THE CELL 'sum', in the pinned program and in every row, IS THE sha256 OF THE DUMP (.gsa) THAT YtcebcphnmbhcpaaGreatProg.lean LOADS. Nothing in Lean hashes anything: it is a label: what it is worth is what the hold of that sum in a sandbox is worth. -/
noncomputable def Tryz.pinned : Pinned := { name := "ytcebcphnmbhcpaagreat", sum := "2f90c2f3c22c0ffd8b34f8038827c336b1e0b65e3915537dd2a705cf5c8b8e4e", checked := Tryz.checked }
namespace Rows
def none {H : Type} : Left H := { results := [], args := [] }

/-- 'pollardlaw13.CacheKeeps': WHATEVER THE INPUT: true; the input reads as it did. -/
def cacheKeepsSpec : ChangeSpec := { name := "cacheKeeps", fn := fun _ => fun
  | [d] => { results := [.lit (.bool true)], args := [d] }
  | _ => none }
def cacheKeepsRow : OpenClaim := { program := "ytcebcphnmbhcpaagreat", sum := "2f90c2f3c22c0ffd8b34f8038827c336b1e0b65e3915537dd2a705cf5c8b8e4e", func := "pollard/pollardlaw13.CacheKeeps", spec := "cacheKeeps", inPlace := ["sync/atomic.StoreInt64", "sync/atomic.LoadPointer", "sync/atomic.StorePointer", "sync/atomic.CompareAndSwapPointer", "sync/atomic.CompareAndSwapInt64", "sync/atomic.AddInt64", "sync/atomic.LoadInt64"], unfollowed := true, recurses := true, apart := false }
def CacheKeepsSaid : Prop := cacheKeepsRow.holds Tryz.pinned (OpenSpec.ofChange cacheKeepsSpec)

/-- ITS FALSE NEIGHBOUR: 'it returns false'. Refute it at one input. -/
def cacheKeepsWrong : ChangeSpec := { name := "cacheKeeps", fn := fun _ => fun
  | [d] => { results := [.lit (.bool false)], args := [d] }
  | _ => none }
def CacheKeepsWrongFalsely : Prop := cacheKeepsRow.holds Tryz.pinned (OpenSpec.ofChange cacheKeepsWrong)

/-- 'pollardlaw13.CacheMoves': WHATEVER THE INPUT: true; the input reads as it did. -/
def cacheMovesSpec : ChangeSpec := { name := "cacheMoves", fn := fun _ => fun
  | [d1, d2] => { results := [.lit (.bool true)], args := [d1, d2] }
  | _ => none }
def cacheMovesRow : OpenClaim := { program := "ytcebcphnmbhcpaagreat", sum := "2f90c2f3c22c0ffd8b34f8038827c336b1e0b65e3915537dd2a705cf5c8b8e4e", func := "pollard/pollardlaw13.CacheMoves", spec := "cacheMoves", inPlace := ["sync/atomic.StoreInt64", "sync/atomic.LoadPointer", "sync/atomic.StorePointer", "sync/atomic.CompareAndSwapPointer", "sync/atomic.CompareAndSwapInt64", "sync/atomic.AddInt64", "sync/atomic.LoadInt64"], unfollowed := true, recurses := true, apart := false }
def CacheMovesSaid : Prop := cacheMovesRow.holds Tryz.pinned (OpenSpec.ofChange cacheMovesSpec)

/-- ITS FALSE NEIGHBOUR: 'it returns false'. Refute it at one input. -/
def cacheMovesWrong : ChangeSpec := { name := "cacheMoves", fn := fun _ => fun
  | [d1, d2] => { results := [.lit (.bool false)], args := [d1, d2] }
  | _ => none }
def CacheMovesWrongFalsely : Prop := cacheMovesRow.holds Tryz.pinned (OpenSpec.ofChange cacheMovesWrong)

/-- 'pollardlaw13.CacheChains': WHATEVER THE INPUT: true; the input reads as it did. -/
def cacheChainsSpec : ChangeSpec := { name := "cacheChains", fn := fun _ => fun
  | [d] => { results := [.lit (.bool true)], args := [d] }
  | _ => none }
def cacheChainsRow : OpenClaim := { program := "ytcebcphnmbhcpaagreat", sum := "2f90c2f3c22c0ffd8b34f8038827c336b1e0b65e3915537dd2a705cf5c8b8e4e", func := "pollard/pollardlaw13.CacheChains", spec := "cacheChains", inPlace := ["sync/atomic.StoreInt64", "sync/atomic.LoadPointer", "sync/atomic.StorePointer", "sync/atomic.CompareAndSwapPointer", "sync/atomic.CompareAndSwapInt64", "sync/atomic.AddInt64", "sync/atomic.LoadInt64"], unfollowed := true, recurses := true, apart := false }
def CacheChainsSaid : Prop := cacheChainsRow.holds Tryz.pinned (OpenSpec.ofChange cacheChainsSpec)

/-- ITS FALSE NEIGHBOUR: 'it returns false'. Refute it at one input. -/
def cacheChainsWrong : ChangeSpec := { name := "cacheChains", fn := fun _ => fun
  | [d] => { results := [.lit (.bool false)], args := [d] }
  | _ => none }
def CacheChainsWrongFalsely : Prop := cacheChainsRow.holds Tryz.pinned (OpenSpec.ofChange cacheChainsWrong)

/-- 'pollardlaw13.CacheTwo': WHATEVER THE INPUT: true; the input reads as it did. -/
def cacheTwoSpec : ChangeSpec := { name := "cacheTwo", fn := fun _ => fun
  | [d1, d2, d3] => { results := [.lit (.bool true)], args := [d1, d2, d3] }
  | _ => none }
def cacheTwoRow : OpenClaim := { program := "ytcebcphnmbhcpaagreat", sum := "2f90c2f3c22c0ffd8b34f8038827c336b1e0b65e3915537dd2a705cf5c8b8e4e", func := "pollard/pollardlaw13.CacheTwo", spec := "cacheTwo", inPlace := ["sync/atomic.StoreInt64", "sync/atomic.LoadPointer", "sync/atomic.StorePointer", "sync/atomic.CompareAndSwapPointer", "sync/atomic.CompareAndSwapInt64", "sync/atomic.AddInt64", "sync/atomic.LoadInt64"], unfollowed := true, recurses := true, apart := false }
def CacheTwoSaid : Prop := cacheTwoRow.holds Tryz.pinned (OpenSpec.ofChange cacheTwoSpec)

/-- ITS FALSE NEIGHBOUR: 'it returns false'. Refute it at one input. -/
def cacheTwoWrong : ChangeSpec := { name := "cacheTwo", fn := fun _ => fun
  | [d1, d2, d3] => { results := [.lit (.bool false)], args := [d1, d2, d3] }
  | _ => none }
def CacheTwoWrongFalsely : Prop := cacheTwoRow.holds Tryz.pinned (OpenSpec.ofChange cacheTwoWrong)

/- THE SECOND FORM. 'bulk': how many values and letters a reading holds, each counted each time it is reached (what is shared counts as often as it is met; a slice's spare places count too). A statement '..UptoSaid' is the law's where the arguments, and the package variables that the reading takes, are together of bulk at most 1048576: NARROWER than '..Said'. Prove '..Said' where nothing that the law and all that it calls make is longer than what came in: it says more and counts as full. Else prove '..UptoSaid'. A law counts once. -/
mutual
def uptoBulk {H : Type} : DataW H → Nat
  | .lit (.string bytes) => bytes.length + 1
  | .lit _ => 1
  | .nil => 1
  | .ptr d => uptoBulk d + 1
  | .slice elems spare => uptoBulkAll elems + uptoBulkAll spare + 1
  | .agg parts => uptoBulkAll parts + 1
  | .iface _ d => uptoBulk d + 1
  | .map entries => uptoBulkEntries entries + 1
  | .held _ => 1
def uptoBulkAll {H : Type} : List (DataW H) → Nat
  | [] => 0
  | d :: r => uptoBulk d + uptoBulkAll r
def uptoBulkEntries {H : Type} : List (Lit × DataW H) → Nat
  | [] => 0
  | x :: r => uptoBulkEntry x + uptoBulkEntries r
def uptoBulkEntry {H : Type} : Lit × DataW H → Nat
  | (.string bytes, d) => bytes.length + uptoBulk d + 1
  | (_, d) => uptoBulk d + 1
 end
def uptoSmall : (H : Type) → List (DataW H) → Bool := fun _ ds => decide (uptoBulkAll ds ≤ 1048576)
def OpenSpec.upto (s : _root_.Go.ChangeSpec) : _root_.Go.OpenSpec := { _root_.Go.OpenSpec.ofChange s with cond := some uptoSmall }

/-- 'pollardlaw13.CacheKeeps', WHERE WHAT IT READS IS OF BULK AT MOST 1048576: true; the input reads as it did. -/
def cacheKeepsUptoRow : OpenClaim := { program := "ytcebcphnmbhcpaagreat", sum := "2f90c2f3c22c0ffd8b34f8038827c336b1e0b65e3915537dd2a705cf5c8b8e4e", func := "pollard/pollardlaw13.CacheKeeps", spec := "cacheKeeps", inPlace := ["sync/atomic.StoreInt64", "sync/atomic.LoadPointer", "sync/atomic.StorePointer", "sync/atomic.CompareAndSwapPointer", "sync/atomic.CompareAndSwapInt64", "sync/atomic.AddInt64", "sync/atomic.LoadInt64"], unfollowed := true, recurses := true, apart := false, narrowed := true }
def CacheKeepsUptoSaid : Prop := cacheKeepsUptoRow.holds Tryz.pinned (OpenSpec.upto cacheKeepsSpec)

/-- 'pollardlaw13.CacheMoves', WHERE WHAT IT READS IS OF BULK AT MOST 1048576: true; the input reads as it did. -/
def cacheMovesUptoRow : OpenClaim := { program := "ytcebcphnmbhcpaagreat", sum := "2f90c2f3c22c0ffd8b34f8038827c336b1e0b65e3915537dd2a705cf5c8b8e4e", func := "pollard/pollardlaw13.CacheMoves", spec := "cacheMoves", inPlace := ["sync/atomic.StoreInt64", "sync/atomic.LoadPointer", "sync/atomic.StorePointer", "sync/atomic.CompareAndSwapPointer", "sync/atomic.CompareAndSwapInt64", "sync/atomic.AddInt64", "sync/atomic.LoadInt64"], unfollowed := true, recurses := true, apart := false, narrowed := true }
def CacheMovesUptoSaid : Prop := cacheMovesUptoRow.holds Tryz.pinned (OpenSpec.upto cacheMovesSpec)

/-- 'pollardlaw13.CacheChains', WHERE WHAT IT READS IS OF BULK AT MOST 1048576: true; the input reads as it did. -/
def cacheChainsUptoRow : OpenClaim := { program := "ytcebcphnmbhcpaagreat", sum := "2f90c2f3c22c0ffd8b34f8038827c336b1e0b65e3915537dd2a705cf5c8b8e4e", func := "pollard/pollardlaw13.CacheChains", spec := "cacheChains", inPlace := ["sync/atomic.StoreInt64", "sync/atomic.LoadPointer", "sync/atomic.StorePointer", "sync/atomic.CompareAndSwapPointer", "sync/atomic.CompareAndSwapInt64", "sync/atomic.AddInt64", "sync/atomic.LoadInt64"], unfollowed := true, recurses := true, apart := false, narrowed := true }
def CacheChainsUptoSaid : Prop := cacheChainsUptoRow.holds Tryz.pinned (OpenSpec.upto cacheChainsSpec)

/-- 'pollardlaw13.CacheTwo', WHERE WHAT IT READS IS OF BULK AT MOST 1048576: true; the input reads as it did. -/
def cacheTwoUptoRow : OpenClaim := { program := "ytcebcphnmbhcpaagreat", sum := "2f90c2f3c22c0ffd8b34f8038827c336b1e0b65e3915537dd2a705cf5c8b8e4e", func := "pollard/pollardlaw13.CacheTwo", spec := "cacheTwo", inPlace := ["sync/atomic.StoreInt64", "sync/atomic.LoadPointer", "sync/atomic.StorePointer", "sync/atomic.CompareAndSwapPointer", "sync/atomic.CompareAndSwapInt64", "sync/atomic.AddInt64", "sync/atomic.LoadInt64"], unfollowed := true, recurses := true, apart := false, narrowed := true }
def CacheTwoUptoSaid : Prop := cacheTwoUptoRow.holds Tryz.pinned (OpenSpec.upto cacheTwoSpec)

end Rows
end Go.Proofs.YtcebcphnmbhcpaaGreat
