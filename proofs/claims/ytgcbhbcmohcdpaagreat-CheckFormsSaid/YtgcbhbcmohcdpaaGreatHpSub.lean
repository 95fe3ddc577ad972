/- Blocks that are lent for a while and come back: what has come since (Imm.sub), a view without what was lent (Imm.cut). -/
import Derived.Test.YtgcbhbcmohcdpaaGreatHpBits
import Derived.Test.YtgcbhbcmohcdpaaGreatHpOps
set_option linter.unusedVariables false
set_option linter.unusedSimpArgs false
namespace Go.Hp
open Go
/-- What J has and I has not. -/
def Imm.sub (J I : Imm) : Imm := ⟨J.base, fun b => if I.blk b = none then J.blk b else none⟩
/-- J without what I has beside I0. -/
def Imm.cut (J I0 I : Imm) : Imm := ⟨J.base, fun b => if I.blk b = none ∨ I0.blk b ≠ none then J.blk b else none⟩
theorem Imm.sub_self {J I : Imm} {b : Nat} {o : Obj} (h : J.blk b = some o) (h0 : I.blk b = none) : (J.sub I).blk b = some o := by
  simp only [Imm.sub]; rw [if_pos h0]; exact h
end Go.Hp
namespace Go.Hp
open Go
theorem Spec.reorder {P : Program} {f : FuncId} {args : List Value} {I : Imm} {L L' G : Chunks} {R R' : Value → Imm → Chunks → Prop} (h : Spec P f args I L R) (p : L'.Perm (L ++ G)) (hR : ∀ v J L1, I.le J → R v J L1 → ∃ L2, L2.Perm (L1 ++ G) ∧ R' v J L2) : Spec P f args I L' R' := fun F W hW => by
  have e : (L' ++ F).Perm (L ++ (G ++ F)) := by rw [← List.append_assoc]; exact List.Perm.append_right F p
  refine (h (G ++ F) W (hW.perm e)).mono ?_; rintro e W' ⟨v, J, L1, he, hJ, hr, hh⟩
  obtain ⟨L2, p2, h2⟩ := hR v J L1 hJ hr
  refine ⟨v, J, L2, he, hJ, h2, hh.perm ?_⟩
  rw [← List.append_assoc]
  exact List.Perm.append_right F p2.symm
end Go.Hp
