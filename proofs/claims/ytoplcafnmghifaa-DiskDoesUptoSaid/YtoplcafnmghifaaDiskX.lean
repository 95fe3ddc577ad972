import Derived.Test.YtoplcafnmghifaaDiskV
set_option linter.unusedVariables false
set_option linter.unusedSimpArgs false
namespace Go.Hp
open Go Go.Proofs

theorem disk_DiskDoes_all {I : Imm} {a : Int} {ops : List DOp} {v : Value} (hl : Slc I 5 (RDop I) v ops) (hn : ops.length ≤ 1048576) (hbd : ∀ o ∈ ops, o.b.length ≤ 1048576) : Spec Try.prog 8 [.int .i64 a, v] I [] (fun v' J L => v' = .bool true ∧ L = []) := by
  by_cases hb : a < 1 ∨ 8192 < a
  · exact (disk_DiskDoes_bad hb).mono (by rintro v J L _ ⟨h1, _, h2⟩; exact ⟨h1, h2⟩)
  · obtain ⟨n, rfl⟩ : ∃ n : Nat, a = (n : Int) := ⟨a.toNat, by omega⟩
    exact disk_DiskDoes (by omega) (by omega) hl hn hbd

end Go.Hp
