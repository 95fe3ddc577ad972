/-
  Rows of elements of one width, one behind the other.
-/
import Derived.Test.YtgcbhbcmohcdpaaGreatHpIface
set_option linter.unusedVariables false
set_option linter.unusedSimpArgs false
namespace Go.Hp
open Go
section
variable {α : Type} {f : α → List Value} {k : Nat}
theorem flat_len (hf : ∀ a, (f a).length = k) : ∀ l : List α, (l.flatMap f).length = l.length * k
  | [] => by simp
  | a :: l => by rw [List.flatMap_cons, List.length_append, hf, flat_len hf l, List.length_cons, Nat.add_mul]; omega
theorem flat_at' (hf : ∀ a, (f a).length = k) : ∀ (l : List α) (i j : Nat) (hi : i < l.length) (hj : j < k) (sp : List Value), (l.flatMap f ++ sp)[i * k + j]? = (f l[i])[j]?
  | a :: l, 0, j, _, hj, sp => by
    rw [List.flatMap_cons, List.append_assoc, List.getElem?_append_left (by rw [hf]; omega)]; simp
  | a :: l, i + 1, j, hi, hj, sp => by
    have := flat_at' hf l i j (by simpa using hi) hj sp
    rw [List.flatMap_cons, List.append_assoc, List.getElem?_append_right (by rw [hf, Nat.add_mul]; omega), hf]
    rw [show (i + 1) * k + j - k = i * k + j by rw [Nat.add_mul]; omega, this]; rfl
theorem flat_seg (hf : ∀ a, (f a).length = k) {l : List α} {i : Nat} (hi : i < l.length) (sp : List Value) : ((l.flatMap f ++ sp).drop (0 + i * k)).take k = f l[i] := by
  apply List.ext_getElem?
  intro j
  rw [List.getElem?_take]
  split
  · rename_i hj
    rw [List.getElem?_drop, Nat.zero_add, flat_at' hf l i j hi hj sp]
  · rw [List.getElem?_eq_none (by rw [hf]; omega)]
theorem flat_app (l m : List α) : (l ++ m).flatMap f = l.flatMap f ++ m.flatMap f := List.flatMap_append
end
end Go.Hp
namespace Go.Hp
open Go
/-- A field of a struct's value. -/
def fldTy (P : Program) (s f ft off : Nat) : Bool := match P.underlying s with
  | some (.struct fs) => match fs[f]? with
    | some x => Nat.beq x.type ft && Nat.beq x.offset off
    | none => false
  | _ => false
section
variable {P : Program} {n : Nat} {E : Env} {V : Nat → Obj → Prop} {o : Oper}
theorem fldTy_run {s f ft off : Nat} (h : fldTy P s f ft off = true) (cs : Array Value) (w : World) : (Instr.field s (.agg cs) f).run P w = (part ft cs off).run P w := by
  unfold fldTy at h
  cases hu : P.underlying s with
  | none => simp [hu] at h
  | some d =>
    cases d <;> simp [hu] at h
    rename_i fs
    cases hf : fs[f]? with
    | none => simp [hf] at h
    | some x =>
      simp [hf] at h
      obtain ⟨rfl, rfl⟩ := h
      simp [Instr.field, underlying, hu, hf, asAgg]
theorem Yld.field {x : Operand} {s f ft off : Nat} {cs : Array Value} {v : Value} (hop : o.op = .field s x f) (h : fldTy P s f ft off = true) (ht : scalarTy P ft = true) (hx : E.ev x = some (.agg cs)) (hv : cs[off]? = some v) : Yld P n E V o v := fun a W ha _ => by
  simp [execOp, hop, ha.ev hx, fldTy_run h, part, scalarTy_run ht, hv]
end
end Go.Hp
namespace Go.Hp
open Go
end Go.Hp
