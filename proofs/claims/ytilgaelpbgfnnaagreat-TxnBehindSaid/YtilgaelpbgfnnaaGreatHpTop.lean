/-
  From a function's contract to the row of a law: what came in, and that it reads as it did.
-/
import Derived.Test.YtilgaelpbgfnnaaGreatHpQuiet
import Derived.ProofKit
import Derived.OpenShut
import Derived.ShutString
import Derived.ChangeOld
import Derived.SizedLaws
set_option linter.unusedVariables false
set_option linter.unusedSimpArgs false
namespace Go.Hp
open Go Go.RowKit

/-- The world that a call begins in, as what it only reads. -/
def immOf (W : World) : Imm := ⟨W, fun b => W.heap[b]?⟩
theorem has_immOf (W : World) : Has (immOf W) [] W := ⟨rfl, rfl, rfl, .nil, fun _ h => (by cases h), fun _ h => (by cases h), fun _ _ h => h⟩
theorem below_of_has {W W' : World} {J : Imm} {L : Chunks} (hJ : (immOf W).le J) (h : Has J L W') : Below W.heap.size W W' := by
  have hk : ∀ k, k < W.heap.size → W'.heap[k]? = W.heap[k]? := fun k hk => by
    have : (immOf W).blk k = some W.heap[k] := by simp [immOf, hk]
    rw [h.imm _ _ (hJ.2 _ _ this)]; simp [hk]
  refine ⟨by rw [h.os, hJ.1]; rfl, by rw [h.tape, hJ.1]; rfl, by rw [h.output, hJ.1]; rfl, ?_, hk⟩
  rcases Nat.eq_zero_or_pos W.heap.size with h0 | h0
  · omega
  · have h1 := hk (W.heap.size - 1) (by omega)
    rw [Array.getElem?_eq_getElem (show W.heap.size - 1 < W.heap.size by omega)] at h1
    have := (Array.getElem?_eq_some_iff.1 h1).1
    omega
theorem Spec.top {P : Program} {f : FuncId} {args : List Value} {W : World} {R : Value → Imm → Chunks → Prop} {v : Value} (h : Spec P f args (immOf W) [] R) (hR : ∀ v' J L, R v' J L → v' = v) :
    Calls P f args.toArray W fun e W' => e = .returned v ∧ Below W.heap.size W W' :=
  (h [] W (by simpa using has_immOf W)).mono fun e W' ⟨v', J, L', he, hJ, hr, hh⟩ => ⟨by rw [he, hR _ _ _ hr], below_of_has hJ hh⟩

/-- A slice that came in reads as xs, each element by R. -/
def Slc {α : Type} (I : Imm) (sz : Nat) (R : α → List Value → Prop) (v : Value) (xs : List α) : Prop :=
  ∃ A cap, v = .slice A xs.length cap ∧ xs.length ≤ cap ∧ (xs = [] ∨ ∃ b k arr T fr, A = some ⟨b, k, none⟩ ∧ I.blk b = some (.cells arr T fr) ∧ ∀ i x, xs[i]? = some x → ((arr.toList.drop (k + i * sz)).take sz).length = sz ∧ R x ((arr.toList.drop (k + i * sz)).take sz))

theorem Slc.mono {α : Type} {I J : Imm} {sz : Nat} {R R' : α → List Value → Prop} {v : Value} {xs : List α} (h : Slc I sz R v xs) (hJ : I.le J) (hR : ∀ x cs, R x cs → R' x cs) : Slc J sz R' v xs := by
  obtain ⟨A, cap, h1, h2, h3⟩ := h
  refine ⟨A, cap, h1, h2, h3.imp id ?_⟩
  rintro ⟨b, k, arr, T, fr, h4, h5, h6⟩
  exact ⟨b, k, arr, T, fr, h4, hJ.2 _ _ h5, fun i x hx => ⟨(h6 i x hx).1, hR _ _ (h6 i x hx).2⟩⟩

section
variable {H : Type} {enc : TypeId × Value → H} {P : Program} {W : World} {sp : Nat → Bool} {held : Bool}

end

/-! What the elements of a slice that came in may be: a number; a struct of numbers of kind int64. -/
section
variable {H : Type} {enc : TypeId × Value → H} {P : Program} {W : World} {sp : Nat → Bool} {held : Bool}
end
end Go.Hp
