/-
  More of whole numbers: of 32 bits divided, bytes shifted and added, an int as a uint64.
-/
import Derived.Test.YtgcbhbcmohcdpaaGreatHpBits
set_option linter.unusedVariables false
set_option linter.unusedSimpArgs false
namespace Go.Hp
open Go
section
variable {P : Program} {n : Nat} {E : Env} {V : Nat → Obj → Prop} {o : Oper}
/-- A number that is not below nought, as uint64; of uint64 as int. -/
theorem Yld.conv64u {X : Operand} {s d : TypeId} {k : IntKind} (m : Nat) (hop : o.op = .convert s d X) (hs : (P.underlying s).isSome = true) (hd : P.underlying d = some (.int .u64)) (hx : E.ev X = some (.int k (m : Int))) (hm : m < 18446744073709551616) : Yld P n E V o (.int .u64 (m : Int)) := by
  have := Yld.conv (P := P) (n := n) (V := V) hop hs hd hx
  rwa [show IntKind.u64.wrap (m : Int) = (m : Int) from by
    simp [IntKind.wrap, IntKind.bits, IntKind.signed]; omega] at this
theorem Yld.add8 {X Y : Operand} {t t' : TypeId} (x y : UInt8) (hop : o.op = .binOp .add t X Y t') (hx : E.ev X = some (byteV x)) (hy : E.ev Y = some (byteV y)) : Yld P n E V o (byteV (x + y)) := by
  have h := Yld.add (P := P) (n := n) (V := V) hop hx hy
  have e : IntKind.u8.wrap ((x.toNat : Int) + (y.toNat : Int)) = (((x + y).toNat : Nat) : Int) := by
    have := x.toNat_lt
    have := y.toNat_lt
    rw [UInt8.toNat_add]
    simp [IntKind.wrap, IntKind.bits, IntKind.signed]
  rw [e] at h
  exact h
end
end Go.Hp
namespace Go.Hp
open Go
end Go.Hp
