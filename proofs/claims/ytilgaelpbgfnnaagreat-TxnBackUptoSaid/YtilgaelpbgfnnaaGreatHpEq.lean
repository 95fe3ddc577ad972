/-
  Arrays of bytes are held against each other.
-/
import Derived.Test.YtilgaelpbgfnnaaGreatHpNum
import Derived.ChangeKeysEq
set_option linter.unusedVariables false
set_option linter.unusedSimpArgs false
namespace Go.Hp
open Go
def bytArr (P : Program) (t N e : Nat) : Prop := P.underlying t = some (.array N e) ∧ P.underlying e = some (.int .u8) ∧ P.cellsOf e = 1 ∧ (P.info? e).isSome = true ∧ P.eqGuardType P.depth t = false
theorem byteV_inj {a b : UInt8} (h : (a.toNat : Int) = (b.toNat : Int)) : a = b := UInt8.toNat_inj.1 (by omega)
theorem eqItems_bytes {P : Program} {e : Nat} (he : P.underlying e = some (.int .u8)) (d : Nat) (a b : List UInt8) (w : World) : ∀ is : List Nat, (∀ i ∈ is, i < a.length ∧ i < b.length) → (Op.eqItems (d + 1) e 1 (bytesV a).toArray (bytesV b).toArray is).run P w = .ok (decide (∀ i ∈ is, a[i]? = b[i]?)) w
  | [], _ => by simp [Op.eqItems]
  | i :: is, h => by
    obtain ⟨h1, h2⟩ := h i (by simp)
    have hu : (match P.underlying e with | some (.int _) => true | _ => false) = true := by rw [he]
    have p1 := part_int hu (bytesV a).toArray (i * 1) (byteV a[i]) (by simp [bytesV, h1]) w
    have p2 := part_int hu (bytesV b).toArray (i * 1) (byteV b[i]) (by simp [bytesV, h2]) w
    have p3 := run_equalIn_int (P := P) w d e .u8 .u8 (a[i].toNat : Int) (b[i].toNat : Int) he
    have ih := eqItems_bytes he d a b w is fun j hj => h j (by simp [hj])
    simp only [Op.eqItems, Sem.run_bind, p1, p2, Result.andThen_ok]
    unfold byteV
    rw [p3]
    simp only [Result.andThen_ok]
    have e1 : a[i]? = some a[i] := List.getElem?_eq_getElem h1
    have e2 : b[i]? = some b[i] := List.getElem?_eq_getElem h2
    by_cases hq : a[i] = b[i]
    · rw [show ((a[i].toNat : Int) == (b[i].toNat : Int)) = true by rw [hq]; simp]
      simp only [Bool.not_true, Bool.false_eq_true, if_false, ih]
      congr 1
      simp [e1, e2, hq]
    · rw [show ((a[i].toNat : Int) == (b[i].toNat : Int)) = false by
        rw [beq_eq_false_iff_ne]; exact fun e => hq (byteV_inj e)]
      simp [e1, e2, hq]
theorem run_eql_bytes {P : Program} {t N e : Nat} (h : bytArr P t N e) {a b : List UInt8} (ha : a.length = N) (hb : b.length = N) (w : World) : (Op.equalIn 10000 t (.agg (bytesV a).toArray) (.agg (bytesV b).toArray)).run P w = .ok (decide (a = b)) w := by
  obtain ⟨h1, h2, h3, h4, h5⟩ := h
  obtain ⟨i, hi⟩ := Option.isSome_iff_exists.1 h4
  rw [show (10000 : Nat) = 9999 + 1 from rfl, run_equalIn_array w 9999 _ _ h1 hi, h3, eqItems_bytes h2 9998 a b w (List.range N) (by intro i hi; rw [List.mem_range] at hi; omega)]
  congr 1
  have : (∀ i ∈ List.range N, a[i]? = b[i]?) ↔ a = b := by
    constructor
    · intro hh
      apply List.ext_getElem?
      intro i
      by_cases hi : i < N
      · exact hh i (List.mem_range.2 hi)
      · rw [List.getElem?_eq_none (by omega), List.getElem?_eq_none (by omega)]
    · rintro rfl i _; rfl
  simp only [this]
section
variable {P : Program} {n : Nat} {E : Env} {V : Nat → Obj → Prop} {o : Oper}
theorem Yld.neqBytes {x y : Operand} {t t' N e : Nat} {a b : List UInt8} (hop : o.op = .binOp .neq t x y t') (h : bytArr P t N e) (hx : E.ev x = some (.agg (bytesV a).toArray)) (hy : E.ev y = some (.agg (bytesV b).toArray)) (ha : a.length = N) (hb : b.length = N) : Yld P n E V o (.bool (decide (¬ a = b))) := fun A W he _ => by
  have h1 := run_eql_bytes h ha hb W
  simp [execOp, hop, he.ev hx, he.ev hy, run_eqGuard_agg W .neq t x y _ _ h.2.2.2.2, run_neq_struct, h1]
theorem Yld.eqlBytes {x y : Operand} {t t' N e : Nat} {a b : List UInt8} (hop : o.op = .binOp .eql t x y t') (h : bytArr P t N e) (hx : E.ev x = some (.agg (bytesV a).toArray)) (hy : E.ev y = some (.agg (bytesV b).toArray)) (ha : a.length = N) (hb : b.length = N) : Yld P n E V o (.bool (decide (a = b))) := fun A W he _ => by
  have h1 := run_eql_bytes h ha hb W
  simp [execOp, hop, he.ev hx, he.ev hy, run_eqGuard_agg W .eql t x y _ _ h.2.2.2.2, run_eql_struct, h1]
end
end Go.Hp
