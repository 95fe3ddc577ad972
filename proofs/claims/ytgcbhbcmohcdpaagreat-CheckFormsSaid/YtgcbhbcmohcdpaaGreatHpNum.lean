/-
  Numbers as bytes: 64 bit patterns.
-/
import Derived.Test.YtgcbhbcmohcdpaaGreatHpPtr
set_option linter.unusedVariables false
set_option linter.unusedSimpArgs false
namespace Go.Hp
open Go
section
variable {P : Program} {n : Nat} {E : Env} {V : Nat → Obj → Prop} {o : Oper}
theorem Yld.shr64 {X Y : Operand} {t t' : TypeId} {yk : IntKind} (m k : Nat) (hop : o.op = .binOp .shr t X Y t') (hx : E.ev X = some (.int .i64 (m : Int))) (hy : E.ev Y = some (.int yk (k : Int))) (hk : k ≤ 64) : Yld P n E V o (.int .i64 ((m / 2 ^ k : Nat) : Int)) := fun a W ha _ => by
  have h : (binOp .shr t (.int .i64 (m : Int)) (.int yk (k : Int))).run P W = .ok (.int .i64 ((m / 2 ^ k : Nat) : Int)) W := by
    have h0 : ¬ ((k : Int) < 0) := by omega
    have h1 : min k IntKind.i64.bits = k := by simp [IntKind.bits]; omega
    simp only [binOp, Op.shift, h0, if_false, Int.toNat_natCast, h1, Sem.run_pure]
    rw [Int.fdiv_eq_ediv_of_nonneg _ (by exact Int.le_of_lt (Int.pow_pos (by decide)))]
    simp
  simp [execOp, hop, ha.ev hx, ha.ev hy, eqGuard_int, h]
theorem Yld.convN8 {X : Operand} {s d : TypeId} {k : IntKind} (m : Nat) (hop : o.op = .convert s d X) (hs : (P.underlying s).isSome = true) (hd : P.underlying d = some (.int .u8)) (hx : E.ev X = some (.int k (m : Int))) : Yld P n E V o (byteV (UInt8.ofNat m)) := by
  have := Yld.conv (V := V) (n := n) hop hs hd hx
  have e : IntKind.u8.wrap (m : Int) = ((UInt8.ofNat m).toNat : Int) := by
    simp only [IntKind.wrap, IntKind.signed, IntKind.bits]
    rw [UInt8.toNat_ofNat']
    first | (simp; done) | (simp; omega) | omega
  rwa [e] at this
end
/-- The k low bytes of m, the lowest first. -/
def leB (m : Nat) : Nat → List UInt8
  | 0 => []
  | k + 1 => leB m k ++ [UInt8.ofNat (m / 2 ^ (8 * k))]
theorem leB_len (m : Nat) : ∀ k, (leB m k).length = k
  | 0 => rfl
  | k + 1 => by simp [leB, leB_len m k]
def leN : List UInt8 → Nat
  | [] => 0
  | a :: l => a.toNat + 256 * leN l
theorem leN_app (l : List UInt8) (a : UInt8) : leN (l ++ [a]) = leN l + a.toNat * 2 ^ (8 * l.length) := by
  induction l with
  | nil => simp [leN]
  | cons b l ih =>
    simp only [List.cons_append, leN, ih, List.length_cons]
    rw [show 8 * (l.length + 1) = 8 * l.length + 8 by omega, Nat.pow_add]
    have : a.toNat * (2 ^ (8 * l.length) * 2 ^ 8) = 256 * (a.toNat * 2 ^ (8 * l.length)) := by rw [← Nat.mul_assoc, Nat.mul_comm _ (2 ^ 8)]
    rw [this, Nat.mul_add]
    omega
end Go.Hp
