/-
  Numbers as bytes: 64 bit patterns.
-/
import Derived.Test.YtilgaelpbgfnnaaGreatHpPtr
set_option linter.unusedVariables false
set_option linter.unusedSimpArgs false
namespace Go.Hp
open Go
theorem wrap64_bv (x : Int) : IntKind.i64.wrap x = (BitVec.ofInt 64 x).toInt := by
  have e : IntKind.i64.wrap x = if 9223372036854775808 ≤ x % 18446744073709551616 then x % 18446744073709551616 - 18446744073709551616 else x % 18446744073709551616 := by simp [IntKind.wrap, IntKind.signed, IntKind.bits]
  have e2 : (BitVec.ofInt 64 x).toInt = if x % 18446744073709551616 < 9223372036854775808 then x % 18446744073709551616 else x % 18446744073709551616 - 18446744073709551616 := by
    rw [BitVec.toInt_ofInt]; rfl
  rw [e, e2]
  split <;> split <;> omega
theorem ofNat_toInt (x : BitVec 64) : (BitVec.ofInt 64 (x.toNat : Int)) = x := by
  apply BitVec.eq_of_toNat_eq
  simp
section
variable {P : Program} {n : Nat} {E : Env} {V : Nat → Obj → Prop} {o : Oper}
theorem Yld.or64 {X Y : Operand} {t t' : TypeId} (x y : BitVec 64) (hop : o.op = .binOp .or t X Y t') (hx : E.ev X = some (.int .i64 x.toInt)) (hy : E.ev Y = some (.int .i64 y.toInt)) : Yld P n E V o (.int .i64 (x ||| y).toInt) :=
  Yld.arith hop hx hy fun W => by
    have e1 : BitVec.ofInt IntKind.i64.bits x.toInt = x := BitVec.ofInt_toInt
    have e2 : BitVec.ofInt IntKind.i64.bits y.toInt = y := BitVec.ofInt_toInt
    simp only [binOp, Op.intBits, e1, e2]
    simp only [ne_eq, not_true_eq_false, if_false, Sem.run_pure]
    have : IntKind.i64.wrap (((x ||| y : BitVec 64).toNat : Nat) : Int) = (x ||| y).toInt := by rw [wrap64_bv, ofNat_toInt]
    exact congrArg (fun z => Result.ok (Value.int .i64 z) W) this
theorem Yld.shl64 {X Y : Operand} {t t' : TypeId} {yk : IntKind} (x : BitVec 64) (k : Nat) (hop : o.op = .binOp .shl t X Y t') (hx : E.ev X = some (.int .i64 x.toInt)) (hy : E.ev Y = some (.int yk (k : Int))) (hk : k ≤ 64) : Yld P n E V o (.int .i64 (x <<< k).toInt) := fun a W ha _ => by
  have h : (binOp .shl t (.int .i64 x.toInt) (.int yk (k : Int))).run P W = .ok (.int .i64 (x <<< k).toInt) W := by
    have h0 : ¬ ((k : Int) < 0) := by omega
    have h1 : min k IntKind.i64.bits = k := by simp [IntKind.bits]; omega
    have h2 : IntKind.i64.wrap (x.toInt * 2 ^ k) = (x <<< k).toInt := by
      rw [wrap64_bv, BitVec.ofInt_mul, BitVec.ofInt_toInt]
      congr 1
      rw [BitVec.shiftLeft_eq_mul_twoPow]
      congr 1
      apply BitVec.eq_of_toNat_eq
      rw [BitVec.toNat_twoPow, show ((2 : Int) ^ k) = ((2 ^ k : Nat) : Int) by simp, BitVec.ofInt_natCast, BitVec.toNat_ofNat]
    simp only [binOp, Op.shift, h0, if_false, Int.toNat_natCast, h1, Sem.run_pure, h2]
  simp [execOp, hop, ha.ev hx, ha.ev hy, eqGuard_int, h]
theorem Yld.shr64 {X Y : Operand} {t t' : TypeId} {yk : IntKind} (m k : Nat) (hop : o.op = .binOp .shr t X Y t') (hx : E.ev X = some (.int .i64 (m : Int))) (hy : E.ev Y = some (.int yk (k : Int))) (hk : k ≤ 64) : Yld P n E V o (.int .i64 ((m / 2 ^ k : Nat) : Int)) := fun a W ha _ => by
  have h : (binOp .shr t (.int .i64 (m : Int)) (.int yk (k : Int))).run P W = .ok (.int .i64 ((m / 2 ^ k : Nat) : Int)) W := by
    have h0 : ¬ ((k : Int) < 0) := by omega
    have h1 : min k IntKind.i64.bits = k := by simp [IntKind.bits]; omega
    simp only [binOp, Op.shift, h0, if_false, Int.toNat_natCast, h1, Sem.run_pure]
    rw [Int.fdiv_eq_ediv_of_nonneg _ (by exact Int.le_of_lt (Int.pow_pos (by decide)))]
    simp
  simp [execOp, hop, ha.ev hx, ha.ev hy, eqGuard_int, h]
theorem Yld.convN8 {X : Operand} {s d : TypeId} {k : IntKind} (m : Nat) (hop : o.op = .convert s d X) (hs : (P.underlying s).isSome = true) (hd : P.underlying d = some (.int .u8)) (hx : E.ev X = some (.int k (m : Int))) : Yld P n E V o (byteV (UInt8.ofNat m)) := by
  have := Yld.conv (V := V) (n := n) hop hs hd hx
  have e : IntKind.u8.wrap (m : Int) = ((UInt8.ofNat m).toNat : Int) := by
    simp only [IntKind.wrap, IntKind.signed, IntKind.bits]
    rw [UInt8.toNat_ofNat']
    first | (simp; done) | (simp; omega) | omega
  rwa [e] at this
end
/-- The k low bytes of m, the lowest first. -/
def leB (m : Nat) : Nat → List UInt8
  | 0 => []
  | k + 1 => leB m k ++ [UInt8.ofNat (m / 2 ^ (8 * k))]
theorem leB_len (m : Nat) : ∀ k, (leB m k).length = k
  | 0 => rfl
  | k + 1 => by simp [leB, leB_len m k]
def leN : List UInt8 → Nat
  | [] => 0
  | a :: l => a.toNat + 256 * leN l
theorem leN_lt : ∀ l : List UInt8, leN l < 2 ^ (8 * l.length)
  | [] => by simp [leN]
  | a :: l => by
    have h1 := leN_lt l
    have h2 := a.toNat_lt
    simp only [leN, List.length_cons]
    rw [show 8 * (l.length + 1) = 8 * l.length + 8 by omega, Nat.pow_add]
    omega
theorem leN_app (l : List UInt8) (a : UInt8) : leN (l ++ [a]) = leN l + a.toNat * 2 ^ (8 * l.length) := by
  induction l with
  | nil => simp [leN]
  | cons b l ih =>
    simp only [List.cons_append, leN, ih, List.length_cons]
    rw [show 8 * (l.length + 1) = 8 * l.length + 8 by omega, Nat.pow_add]
    have : a.toNat * (2 ^ (8 * l.length) * 2 ^ 8) = 256 * (a.toNat * 2 ^ (8 * l.length)) := by rw [← Nat.mul_assoc, Nat.mul_comm _ (2 ^ 8)]
    rw [this, Nat.mul_add]
    omega
/-- One more byte. -/
theorem leN_or {l : List UInt8} (a : UInt8) (h : l.length < 8) : BitVec.ofNat 64 (leN l) ||| (BitVec.ofNat 64 a.toNat) <<< (8 * l.length) = BitVec.ofNat 64 (leN (l ++ [a])) := by
  have h1 := leN_lt l
  have h2 := a.toNat_lt
  have h3 := leN_lt (l ++ [a])
  have hp : 2 ^ (8 * l.length) ≤ 2 ^ 56 := Nat.pow_le_pow_right (by decide) (by omega)
  have hp2 : 2 ^ (8 * (l ++ [a]).length) ≤ 2 ^ 64 := Nat.pow_le_pow_right (by decide) (by simp; omega)
  apply BitVec.eq_of_toNat_eq
  rw [BitVec.toNat_or, BitVec.toNat_shiftLeft, BitVec.toNat_ofNat, BitVec.toNat_ofNat, BitVec.toNat_ofNat]
  rw [Nat.mod_eq_of_lt (a := leN l) (by omega), Nat.mod_eq_of_lt (a := a.toNat) (by omega), Nat.mod_eq_of_lt (a := leN (l ++ [a])) (by omega), Nat.shiftLeft_eq]
  have h4 : a.toNat * 2 ^ (8 * l.length) < 2 ^ 64 := by
    have := leN_app l a; omega
  rw [Nat.mod_eq_of_lt h4, leN_app, Nat.or_comm, Nat.mul_comm a.toNat, ← Nat.two_pow_add_eq_or_of_lt h1, Nat.add_comm]
theorem bv_small {m : Nat} (h : m < 2 ^ 63) : (BitVec.ofNat 64 m).toInt = (m : Int) := by
  rw [BitVec.toInt_eq_toNat_of_lt (by rw [BitVec.toNat_ofNat, Nat.mod_eq_of_lt (by omega)]; omega), BitVec.toNat_ofNat, Nat.mod_eq_of_lt (by omega)]
end Go.Hp
