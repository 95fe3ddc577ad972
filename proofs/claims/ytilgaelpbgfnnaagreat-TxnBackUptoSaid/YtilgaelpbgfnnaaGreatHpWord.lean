/-
  More of whole numbers: of 32 bits divided, bytes shifted and added, an int as a uint64.
-/
import Derived.Test.YtilgaelpbgfnnaaGreatHpBits
set_option linter.unusedVariables false
set_option linter.unusedSimpArgs false
namespace Go.Hp
open Go
section
variable {P : Program} {n : Nat} {E : Env} {V : Nat → Obj → Prop} {o : Oper}
theorem Yld.quo32 {X Y : Operand} {t t' : TypeId} (x y : BitVec 32) (h0 : y.toNat ≠ 0) (hop : o.op = .binOp .quo t X Y t') (hx : E.ev X = some (.int .u32 (x.toNat : Int))) (hy : E.ev Y = some (.int .u32 (y.toNat : Int))) : Yld P n E V o (.int .u32 ((x / y).toNat : Int)) :=
  Yld.arith hop hx hy fun W => by
    have h1 : (y.toNat : Int) ≠ 0 := by omega
    have h2 : ((x.toNat : Int).tdiv (y.toNat : Int)) = ((x / y).toNat : Int) := by rw [BitVec.toNat_udiv]; exact (Int.ofNat_tdiv _ _).symm
    simp only [binOp, Op.intDiv, h1, if_false, h2, wrap_u32, ne_eq, not_true_eq_false, Sem.run_pure]
theorem Yld.rem32 {X Y : Operand} {t t' : TypeId} (x y : BitVec 32) (h0 : y.toNat ≠ 0) (hop : o.op = .binOp .rem t X Y t') (hx : E.ev X = some (.int .u32 (x.toNat : Int))) (hy : E.ev Y = some (.int .u32 (y.toNat : Int))) : Yld P n E V o (.int .u32 ((x % y).toNat : Int)) :=
  Yld.arith hop hx hy fun W => by
    have h1 : (y.toNat : Int) ≠ 0 := by omega
    have h2 : ((x.toNat : Int).tmod (y.toNat : Int)) = ((x % y).toNat : Int) := by rw [BitVec.toNat_umod]; exact (Int.ofNat_tmod _ _).symm
    simp only [binOp, Op.intDiv, h1, if_false, h2, wrap_u32, ne_eq, not_true_eq_false, Sem.run_pure]
theorem Yld.shl8 {X Y : Operand} {t t' : TypeId} {yk : IntKind} (x : BitVec 8) (k : Nat) (hop : o.op = .binOp .shl t X Y t') (hx : E.ev X = some (.int .u8 (x.toNat : Int))) (hy : E.ev Y = some (.int yk (k : Int))) (hk : k < 8) : Yld P n E V o (byteV ⟨x <<< k⟩) := fun a W ha _ => by
  have h : (binOp .shl t (.int .u8 (x.toNat : Int)) (.int yk (k : Int))).run P W = .ok (byteV ⟨x <<< k⟩) W := by
    have h0 : ¬ ((k : Int) < 0) := by omega
    have h1 : min k IntKind.u8.bits = k := by simp [IntKind.bits]; omega
    have h2 : IntKind.u8.wrap ((x.toNat : Int) * 2 ^ k) = ((x <<< k).toNat : Int) := by
      rw [BitVec.toNat_shiftLeft, Nat.shiftLeft_eq]
      simp [IntKind.wrap, IntKind.bits, IntKind.signed]
    simp only [binOp, Op.shift, h0, if_false, Int.toNat_natCast, h1, Sem.run_pure, h2]
    rfl
  simp [execOp, hop, ha.ev hx, ha.ev hy, eqGuard_int, h]
/-- A number that is not below nought, as uint64; of uint64 as int. -/
theorem Yld.conv64u {X : Operand} {s d : TypeId} {k : IntKind} (m : Nat) (hop : o.op = .convert s d X) (hs : (P.underlying s).isSome = true) (hd : P.underlying d = some (.int .u64)) (hx : E.ev X = some (.int k (m : Int))) (hm : m < 18446744073709551616) : Yld P n E V o (.int .u64 (m : Int)) := by
  have := Yld.conv (P := P) (n := n) (V := V) hop hs hd hx
  rwa [show IntKind.u64.wrap (m : Int) = (m : Int) from by
    simp [IntKind.wrap, IntKind.bits, IntKind.signed]; omega] at this
theorem Yld.add8 {X Y : Operand} {t t' : TypeId} (x y : UInt8) (hop : o.op = .binOp .add t X Y t') (hx : E.ev X = some (byteV x)) (hy : E.ev Y = some (byteV y)) : Yld P n E V o (byteV (x + y)) := by
  have h := Yld.add (P := P) (n := n) (V := V) hop hx hy
  have e : IntKind.u8.wrap ((x.toNat : Int) + (y.toNat : Int)) = (((x + y).toNat : Nat) : Int) := by
    have := x.toNat_lt
    have := y.toNat_lt
    rw [UInt8.toNat_add]
    simp [IntKind.wrap, IntKind.bits, IntKind.signed]
  rw [e] at h
  exact h
end
theorem wf_i64 {a : Int} (h : (Lit.int .i64 a).wf = true) : -9223372036854775808 ≤ a ∧ a ≤ 9223372036854775807 := by
  simp [Lit.wf, IntKind.min, IntKind.max, IntKind.bits, IntKind.signed] at h; omega
theorem wf_u32 {a : Int} (h : (Lit.int .u32 a).wf = true) : ∃ x : BitVec 32, a = (x.toNat : Int) := by
  simp [Lit.wf, IntKind.min, IntKind.max, IntKind.bits, IntKind.signed] at h
  refine ⟨BitVec.ofNat 32 a.toNat, ?_⟩
  rw [BitVec.toNat_ofNat]; omega
theorem byte_atD {l : List UInt8} {k : Nat} (h : k < l.length) (sp : List Value) : (bytesV l ++ sp)[0 + k * 1]? = some (byteV (l.getD k 0)) := by
  rw [byte_at h sp]; simp [List.getD_eq_getElem?_getD, h]
theorem set_byteS {l : List UInt8} {k : Nat} (a : UInt8) (sp : List Value) (h : k < l.length) : SetAt (bytesV l ++ sp) (0 + k * 1) (byteV a) (bytesV (l.set k a) ++ sp) := by
  have := SetAt.sym (l := bytesV l ++ sp) (k := 0 + k * 1) (v := byteV a) (by rw [List.length_append, bytesV_len]; omega)
  rw [Nat.zero_add, Nat.mul_one] at this ⊢
  rw [List.set_append_left _ _ (by rw [bytesV_len]; exact h)] at this
  simpa [bytesV, List.map_set] using this
end Go.Hp
namespace Go.Hp
open Go
theorem Yld.conv64_32' {P : Program} {n : Nat} {E : Env} {V : Nat → Obj → Prop} {o : Oper} {X : Operand} {s d : TypeId} (x : BitVec 32) (hop : o.op = .convert s d X) (hs : (P.underlying s).isSome = true) (hd : P.underlying d = some (.int .u32)) (hx : E.ev X = some (.int .i64 (x.toNat : Int))) : Yld P n E V o (.int .u32 (x.toNat : Int)) := by
  have := Yld.conv (P := P) (n := n) (V := V) hop hs hd hx
  rwa [wrap_u32] at this
end Go.Hp
