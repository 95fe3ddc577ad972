import Derived.Test.YtilgaelpbgfnnaaGreatRdD
import Derived.Test.YtilgaelpbgfnnaaGreatTxnAA
set_option linter.unusedVariables false
set_option linter.unusedSimpArgs false
namespace Go.Hp
open Go Go.Proofs

theorem node_bound (M : Nat) (hM : M < 18446744073709551616) : ∀ (l : List (Bool × List UInt8)), (∀ y ∈ l, y.2.length ≤ M) → (l.flatMap nodeB).length ≤ l.length * (M + 20)
 | [], _ => Nat.zero_le _
 | y :: l, h => by
  have ih := node_bound M hM l fun x hx => h x (.tail _ hx)
  have h1 := h y (.head _)
  have h2 := numB_10 (n := y.2.length) (by omega)
  have h3 := numB_10 (n := if y.1 then 1 else 0) (by split <;> decide)
  rw [List.flatMap_cons, List.length_append, List.length_cons, Nat.add_mul, Nat.one_mul]
  have e : (nodeB y).length = (numB (if y.1 then 1 else 0)).length + ((numB y.2.length).length + y.2.length) := by unfold nodeB; rw [List.length_append, List.length_append]
  omega
def sizedP (r : Pr) : Prop := r.nodes.length ≤ 1048576 ∧ ∀ y ∈ r.nodes, y.2.length ≤ 1048576
theorem sizedP.b {r : Pr} (h : sizedP r) : (r.nodes.flatMap nodeB).length ≤ 1099532599296 := by
 have h1 := node_bound 1048576 (by decide) r.nodes h.2
 have h2 : r.nodes.length * (1048576 + 20) ≤ 1048576 * (1048576 + 20) := Nat.mul_le_mul_right _ h.1
 omega
theorem txn_DecodeCommitU {I : Imm} {b : List UInt8} {vb : Value} (hb : SlRd (Im I) vb b.length 1 (bytesV b)) (hl : b.length ≤ 140737488355328) : Spec Tryz.prog 34 [vb] I [] (fun v J L => L = [] ∧ ∃ n : Int, ∃ e : Int, v = .tuple #[.int .i64 n, .int .i64 e] ∧ ((okC b ∧ n = ((rNum 1099511627776 ⟨b, 0⟩).1 : Int) ∧ e = 0) ∨ (¬ okC b ∧ n = 0 ∧ e = 120))) :=
 (txn_DecodeCommit hb hl).mono (by
  rintro v J L' - ⟨rfl, ⟨h, rfl⟩ | ⟨h, rfl⟩⟩
  ·exact ⟨rfl, _, _, rfl, .inl ⟨h, rfl, rfl⟩⟩
  ·exact ⟨rfl, _, _, rfl, .inr ⟨h, rfl, rfl⟩⟩)
end Go.Hp
