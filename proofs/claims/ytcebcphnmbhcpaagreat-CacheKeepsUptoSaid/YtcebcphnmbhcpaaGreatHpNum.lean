/-
  Numbers as bytes: 64 bit patterns.
-/
import Derived.Test.YtcebcphnmbhcpaaGreatHpPtr
set_option linter.unusedVariables false
set_option linter.unusedSimpArgs false
namespace Go.Hp
open Go
section
variable {P : Program} {n : Nat} {E : Env} {V : Nat → Obj → Prop} {o : Oper}
theorem Yld.convN8 {X : Operand} {s d : TypeId} {k : IntKind} (m : Nat) (hop : o.op = .convert s d X) (hs : (P.underlying s).isSome = true) (hd : P.underlying d = some (.int .u8)) (hx : E.ev X = some (.int k (m : Int))) : Yld P n E V o (byteV (UInt8.ofNat m)) := by
  have := Yld.conv (V := V) (n := n) hop hs hd hx
  have e : IntKind.u8.wrap (m : Int) = ((UInt8.ofNat m).toNat : Int) := by
    simp only [IntKind.wrap, IntKind.signed, IntKind.bits]
    rw [UInt8.toNat_ofNat']
    first | (simp; done) | (simp; omega) | omega
  rwa [e] at this
end
end Go.Hp
