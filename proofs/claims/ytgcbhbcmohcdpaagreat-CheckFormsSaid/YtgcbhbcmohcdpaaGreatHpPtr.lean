/-
  Pointers that several may swap: kept as unsafe ones.
-/
import Derived.Test.YtgcbhbcmohcdpaaGreatHpFlat
import Derived.Laws.LoneSync
import Derived.LaidEql
set_option linter.unusedVariables false
set_option linter.unusedSimpArgs false
namespace Go.Hp
open Go
section
variable {P : Program} {n : Nat} {E : Env} {V : Nat → Obj → Prop} {o : Oper}
theorem Yld.fromUnsafe0 {X : Operand} {s d e : TypeId} (hop : o.op = .convert s d X) (hs : P.underlying s = some .unsafePointer) (hd : P.underlying d = some (.pointer e)) (hx : E.ev X = some (.pointer none)) : Yld P n E V o (.pointer none) := fun a W ha _ => by
  simp [execOp, hop, ha.ev hx, convert, run_underlying hs, run_underlying hd, Conv.unsafePointer]
theorem Yld.fromUnsafe {X : Operand} {s d e b T : TypeId} {cs : List Value} {m : Nat} (hop : o.op = .convert s d X) (hs : P.underlying s = some .unsafePointer) (hd : P.underlying d = some (.pointer e)) (hl : Go.liesAt P P.depth T (m / P.cellsOf T) 0 e 1 = true) (hi : (P.info? e).isSome = true) (hx : E.ev X = some (.pointer (some ⟨b, 0, none⟩)))
    (hm : V b (row T cs)) (hc : cs.length = m) : Yld P n E V o (.pointer (some ⟨b, 0, none⟩)) := fun a W ha hV => by
  obtain ⟨i, hi⟩ := Option.isSome_iff_exists.1 hi
  have hsh : W.shape? b = some (T, cs.length) := by simp [World.shape?, hV _ _ hm, row]
  rw [hc] at hsh
  simp [execOp, hop, ha.ev hx, convert, run_underlying hs, run_underlying hd, Conv.unsafePointer, Conv.seenAt, viewAt, hsh, variablesAt, hl, sizeOf, typeInfo, hi]
end
section
variable {P : Program} {f : FuncId} {fn : Func}
theorem run_call_loadP (hf : P.funcs[f]? = some fn) (hname : (fn.name == "runtime.NumGoroutine") = false) (hb : fn.body.isNone = true) (hn : Extern.findNext fn = none)
    (he : Extern.find fn = some (Extern.Atomic.loadT .ptr)) {a : Addr} {x : Option Addr} {w : World} (hc : w.cell? a = some (.pointer x)) :
    (callFunc f #[.pointer (some a)]).run P w = .ok (.value (.pointer x)) w := by
  rw [run_callFunc_extern hf hname hb hn he]
  change (Sem.run P (do Extern.Atomic.read .ptr (← asAddr (.pointer (some a)))) w).andThen _ = _
  simp [Extern.Atomic.read, asAddr, hc, Result.andThen]
end
section
variable {P : Program} {n : Nat} {E : Env} {I : Imm} {L : Chunks} {ops : Array Oper} {K : Act → World → Prop} {s : Nat} {V1 V2 : Nat → Obj → Prop}
end
end Go.Hp
