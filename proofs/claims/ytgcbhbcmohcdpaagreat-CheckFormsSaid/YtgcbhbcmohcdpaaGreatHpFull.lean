/-
  append to bytes of which one reads alone, without room behind them: what comes out is one's own.
-/
import Derived.Test.YtgcbhbcmohcdpaaGreatHpMore
import Derived.Test.YtgcbhbcmohcdpaaGreatHpBits
set_option linter.unusedVariables false
set_option linter.unusedSimpArgs false
namespace Go.Hp
open Go
section
variable {P : Program} {n : Nat} {E : Env} {I : Imm} {L : Chunks} {Q : Exit → Act → World → Prop} {K : Act → World → Prop} {o : Oper}
end
end Go.Hp
namespace Go.Hp
open Go
theorem eqIn_slNil {P : Program} (w : World) (d : Nat) (t e : TypeId) (a : Option Addr) (l c : Nat) (h : P.underlying t = some (.slice e)) : (Op.equalIn (d + 1) t (.slice a l c) (.slice none 0 0)).run P w = .ok a.isNone w := by
  cases a <;> simp [Op.equalIn, run_underlying h]
/-- A slice held against nil. -/
theorem Yld.eqlSlNil {P : Program} {n : Nat} {E : Env} {V : Nat → Obj → Prop} {o : Oper} {x y : Operand} {t t' e sz : TypeId} {a : Option Addr} {l c : Nat} (hop : o.op = .binOp .eql t x y t') (ht : sliceTy P t e sz = true) (hx : E.ev x = some (.slice a l c)) (hy : E.ev y = some (.slice none 0 0)) : Yld P n E V o (.bool a.isNone) := fun A W he _ => by
  have hu := (sliceTy_run ht).1
  have h : (Op.equal t (.slice a l c) (.slice none 0 0)).run P W = .ok a.isNone W := eqIn_slNil W 9999 t e a l c hu
  simp [execOp, hop, he.ev hx, he.ev hy, eqGuard, binOp, h]
end Go.Hp
namespace Go.Hp
open Go
/-- A part of a slice from its beginning on, with no room behind it. -/
theorem Yld.slice3 {P : Program} {n : Nat} {E : Env} {V : Nat → Obj → Prop} {o : Oper} {x y z : Operand} {t e sz len cap h : Nat} {k1 k2 : IntKind} {A : Option Addr} (hop : o.op = .slice t x none (some y) (some z)) (ht : sliceTy P t e sz = true) (hx : E.ev x = some (.slice A len cap)) (hy : E.ev y = some (.int k1 (h : Int))) (hz : E.ev z = some (.int k2 (h : Int))) (h2 : h ≤ cap) :
    Yld P n E V o (subSl sz 0 h (.slice A len h)) := fun a W ha _ => by
  have g : ∀ (k : IntKind) (z y : Nat) (code : BoundsCode), z ≤ y → (Instr.sliceBound (.int k (z : Int)) y code).run P W = .ok z W := by
    intro k z y code hzy
    have : (0 : Int) ≤ (z : Int) ∧ (z : Int) ≤ (y : Int) := ⟨by omega, by omega⟩
    simp [Instr.sliceBound, asIntOf, this]
  obtain ⟨h3, h4⟩ := sliceTy_run ht
  by_cases hc : h = 0
  · subst hc
    have g0 : ∀ (k : IntKind) (y : Nat) (code : BoundsCode), (Instr.sliceBound (.int k 0) y code).run P W = .ok 0 W := fun k y code => g k 0 y code (Nat.zero_le _)
    simp [execOp, hop, ha.ev hx, ha.ev hy, ha.ev hz, Instr.sliceAt, Instr.slice, run_underlying h3, h4, subSl, Instr.sliceBounds, g0]
  · simp [execOp, hop, ha.ev hx, ha.ev hy, ha.ev hz, Instr.sliceAt, Instr.slice, run_underlying h3, h4, subSl, Instr.sliceBounds, g _ _ _ _ h2, g _ _ _ _ (Nat.le_refl h), hc]
theorem SlRd.sub3 {V : Nat → Obj → Prop} {A : Option Addr} {m c sz h : Nat} {cs : List Value} (hv : SlRd V (.slice A m c) m sz cs) (h2 : h ≤ m) : SlRd V (subSl sz 0 h (.slice A m h)) h sz (cs.take (h * sz)) := by
  obtain ⟨A', c', e, hc, hl, h3⟩ := hv
  cases e
  have e1 : h * sz ≤ m * sz := Nat.mul_le_mul_right _ h2
  have hl' : (cs.take (h * sz)).length = h * sz := by rw [List.length_take, hl]; exact Nat.min_eq_left e1
  refine ⟨_, _, rfl, Nat.le_refl _, hl', ?_⟩
  by_cases hz : h = 0
  · exact .inl hz
  · rcases h3 with rfl | ⟨b, k, T, fr, arr, rfl, hb, hcs⟩
    · omega
    · right
      refine ⟨b, k, T, fr, arr, ?_, hb, ?_⟩
      · rw [if_neg hz]; show some (Addr.add _ _) = _; rw [add_at]; simp
      · rw [hl', ← hcs, List.take_take, hl]
        congr 1; omega
end Go.Hp
