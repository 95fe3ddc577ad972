/-
  Pointers that several may swap: kept as unsafe ones.
-/
import Derived.Test.YtcebcphnmbhcpaaGreatHpFlat
import Derived.Laws.LoneSync
import Derived.LaidEql
set_option linter.unusedVariables false
set_option linter.unusedSimpArgs false
namespace Go.Hp
open Go
section
variable {P : Program} {n : Nat} {E : Env} {V : Nat → Obj → Prop} {o : Oper}
theorem Yld.toUnsafe0 {X : Operand} {s d e : TypeId} (hop : o.op = .convert s d X) (hs : P.underlying s = some (.pointer e)) (hd : P.underlying d = some .unsafePointer) (hx : E.ev X = some (.pointer none)) : Yld P n E V o (.pointer none) := fun a W ha _ => by
  simp [execOp, hop, ha.ev hx, convert, run_underlying hs, run_underlying hd, Conv.unsafePointer]
theorem Yld.toUnsafe {X : Operand} {s d e b T : TypeId} {cs : List Value} (hop : o.op = .convert s d X) (hs : P.underlying s = some (.pointer e)) (hd : P.underlying d = some .unsafePointer) (hsz : (P.info? e).map (fun i => decide (i.size = 0)) = some false) (hx : E.ev X = some (.pointer (some ⟨b, 0, none⟩)))
    (hm : V b (row T cs)) (hc : 0 < cs.length) : Yld P n E V o (.pointer (some ⟨b, 0, none⟩)) := fun a W ha hV => by
  have hcell : W.cell? ⟨b, 0, none⟩ = some cs[0] := by simp [World.cell?, hV _ _ hm, row, hc]
  have := run_convert_to_unsafe hs hd hsz hcell
  simp only [execOp, hop, ha.ev hx, Sem.run_bind, this, Result.andThen_ok, Sem.run_pure]
theorem Yld.fromUnsafe0 {X : Operand} {s d e : TypeId} (hop : o.op = .convert s d X) (hs : P.underlying s = some .unsafePointer) (hd : P.underlying d = some (.pointer e)) (hx : E.ev X = some (.pointer none)) : Yld P n E V o (.pointer none) := fun a W ha _ => by
  simp [execOp, hop, ha.ev hx, convert, run_underlying hs, run_underlying hd, Conv.unsafePointer]
theorem Yld.fromUnsafe {X : Operand} {s d e b T : TypeId} {cs : List Value} {m : Nat} (hop : o.op = .convert s d X) (hs : P.underlying s = some .unsafePointer) (hd : P.underlying d = some (.pointer e)) (hl : Go.liesAt P P.depth T (m / P.cellsOf T) 0 e 1 = true) (hi : (P.info? e).isSome = true) (hx : E.ev X = some (.pointer (some ⟨b, 0, none⟩)))
    (hm : V b (row T cs)) (hc : cs.length = m) : Yld P n E V o (.pointer (some ⟨b, 0, none⟩)) := fun a W ha hV => by
  obtain ⟨i, hi⟩ := Option.isSome_iff_exists.1 hi
  have hsh : W.shape? b = some (T, cs.length) := by simp [World.shape?, hV _ _ hm, row]
  rw [hc] at hsh
  simp [execOp, hop, ha.ev hx, convert, run_underlying hs, run_underlying hd, Conv.unsafePointer, Conv.seenAt, viewAt, hsh, variablesAt, hl, sizeOf, typeInfo, hi]
end
section
variable {P : Program} {f : FuncId} {fn : Func}
theorem run_call_loadP (hf : P.funcs[f]? = some fn) (hname : (fn.name == "runtime.NumGoroutine") = false) (hb : fn.body.isNone = true) (hn : Extern.findNext fn = none)
    (he : Extern.find fn = some (Extern.Atomic.loadT .ptr)) {a : Addr} {x : Option Addr} {w : World} (hc : w.cell? a = some (.pointer x)) :
    (callFunc f #[.pointer (some a)]).run P w = .ok (.value (.pointer x)) w := by
  rw [run_callFunc_extern hf hname hb hn he]
  change (Sem.run P (do Extern.Atomic.read .ptr (← asAddr (.pointer (some a)))) w).andThen _ = _
  simp [Extern.Atomic.read, asAddr, hc, Result.andThen]
theorem run_call_storeP (hf : P.funcs[f]? = some fn) (hname : (fn.name == "runtime.NumGoroutine") = false) (hb : fn.body.isNone = true) (hn : Extern.findNext fn = none)
    (he : Extern.find fn = some Extern.Atomic.storeT) {a : Addr} {y : Option Addr} {u : Value} {w : World} (hc : w.cell? a = some u) (hz : w.frozen? a = false) :
    (callFunc f #[.pointer (some a), .pointer y]).run P w = .ok (.value (.tuple #[])) (w.setCell a (.pointer y)) := by
  rw [run_callFunc_extern hf hname hb hn he]
  change (Sem.run P (do
    store (← asAddr (.pointer (some a))) (.pointer y) .atomic
    pure Extern.Atomic.none_) w).andThen _ = _
  simp [asAddr, hc, hz, run_store P w a (.pointer y) .atomic rfl, Result.andThen, Extern.Atomic.none_]
theorem run_call_casP (hf : P.funcs[f]? = some fn) (hname : (fn.name == "runtime.NumGoroutine") = false) (hb : fn.body.isNone = true) (hn : Extern.findNext fn = none)
    (he : Extern.find fn = some (Extern.Atomic.casT .ptr)) {a : Addr} {x : Addr} {y : Option Addr} {w : World} (hc : w.cell? a = some (.pointer (some x))) (hz : w.frozen? a = false) :
    (callFunc f #[.pointer (some a), .pointer (some x), .pointer y]).run P w = .ok (.value (.bool true)) (w.setCell a (.pointer y)) := by
  rw [run_callFunc_extern hf hname hb hn he]
  change (Sem.run P (do
    let a' ← asAddr (.pointer (some a))
    if ← Extern.Atomic.touchesFrozen a' then unsupported (.unsafePointer "a write to bytes that a string shares")
    let eq ← match Extern.Atomic.T.ptr, ← Extern.Atomic.read .ptr a', Value.pointer (some x) with
      | _, .int _ x, .int _ y => pure (x == y)
      | .ptr, .pointer x, .pointer y => samePointer x y
      | .int _, .pointer (some _), .int _ 0 | .int _, .int _ 0, .pointer (some _) => pure false
      | .int _, .pointer (some _), _ | .int _, _, .pointer (some _) => unsupported .addressObserved
      | _, _, _ => stuck "atomic.CompareAndSwap: old is no T"
    if eq then store a' (.pointer y) .atomic
    pure (Value.bool eq)) w).andThen _ = _
  simp [Extern.Atomic.touchesFrozen, Extern.Atomic.read, asAddr, viewAt, World.shape?_isSome_of_cell? hc, hc, hz, samePointer, run_sameAddr_same, run_store P w a (.pointer y) .atomic rfl, Result.andThen]
end
section
variable {P : Program} {n : Nat} {E : Env} {I : Imm} {L : Chunks} {ops : Array Oper} {K : Act → World → Prop} {s : Nat} {V1 V2 : Nat → Obj → Prop}
theorem WD.val1G {i d fuel g e : Nat} {t : Bool} {o og : Oper} {v : Value} {l l' : List Bool} (ho : ops[i]? = some o) (hg : o.guard = some (g, t)) (hog : ops[g]? = some og) (hgd : og.dst = some e) (hv : E.get e = some (.bool t)) (hd : o.dst = some d) (hlt : Nat.blt d n = true)
    (hchk : (Region.noSelect ops && Region.free .any ops l.toArray i && (Region.ready .any ops l.toArray).contains i && !(Nat.beq i s)) = true) (hl : l.set i true = l')
    (hwt : waits .any ops i ops.size s = true)
    (y : Yld P n E (fun b o => V1 b o ∨ V2 b o) o v) (h : WD P n ops K s V1 V2 fuel l' ((d, v) :: E) I L) : WD P n ops K s V1 V2 (fuel + 1) l E I L :=
  WD.take ho hd hlt (fun a ha => by simp [Region.wanted, hg, yielded, hog, hgd, ha.get _ _ hv]) hchk hl (fun a w ha ⟨m, hcl, hmi, hS⟩ => by
    have hms : m.getD s false = false := by
      cases hb : m.getD s false with
      | false => rfl
      | true =>
        have := waits_spec hcl i _ _ hwt hb
        have h2 := getD_true_false hmi
        simp only [Array.getD_eq_getD_getElem?, Array.getElem?_eq_getElem h2, Option.getD_some] at this hmi
        rw [this] at hmi; cases hmi
    exact y a w ha fun b o h => h.elim (hS.1 hms b o) (hS.2 b o)) h
end
end Go.Hp
