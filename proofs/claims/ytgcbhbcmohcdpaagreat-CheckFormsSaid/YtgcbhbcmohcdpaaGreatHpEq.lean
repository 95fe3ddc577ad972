/-
  Arrays of bytes are held against each other.
-/
import Derived.Test.YtgcbhbcmohcdpaaGreatHpNum
import Derived.ChangeKeysEq
set_option linter.unusedVariables false
set_option linter.unusedSimpArgs false
namespace Go.Hp
open Go
theorem byteV_inj {a b : UInt8} (h : (a.toNat : Int) = (b.toNat : Int)) : a = b := UInt8.toNat_inj.1 (by omega)
section
variable {P : Program} {n : Nat} {E : Env} {V : Nat → Obj → Prop} {o : Oper}
end
end Go.Hp
