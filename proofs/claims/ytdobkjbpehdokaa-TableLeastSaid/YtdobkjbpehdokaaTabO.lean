import Derived.Test.YtdobkjbpehdokaaTabN
set_option linter.unusedVariables false
set_option linter.unusedSimpArgs false
namespace Go.Hp
open Go Go.Proofs

theorem tabT_SwapAny {I : Imm} {t : Nat} {x : Tb} {L : Chunks} (hT : IsT I t x L) {p : Int} {tk : Nat}  {e : Ent} {cs : List Value} (he : REnt I e cs) (hsz : e.sized) (htk : x.tok + 1 < 18446744073709551616) : Spec Try.prog 31 [.pointer (some ⟨t, 0, none⟩), .int .i64 p, .int .u64 (tk : Int), .agg cs.toArray] I L
    (fun v J L' => ∃ x' er, v = .int .i64 er ∧ IsT J t x' L' ∧ ((er = 0 ∧ x.Swapped x' p e) ∨ (er ≠ 0 ∧ x' = x))) :=
  (tabT_Swap hT he hsz htk).mono (by
    rintro v J L' _ (⟨h, rfl, rfl, hT'⟩ | ⟨e1, h1, ⟨hn, rfl, rfl, hT'⟩ | ⟨_, ht, rfl, rfl, hT'⟩ | ⟨_, ht, rfl, x', hs, hT'⟩⟩)
    · exact ⟨x, _, rfl, hT', .inr ⟨by decide, rfl⟩⟩
    · exact ⟨x, _, rfl, hT', .inr ⟨by decide, rfl⟩⟩
    · exact ⟨x, _, rfl, hT', .inr ⟨by decide, rfl⟩⟩
    · exact ⟨x', _, rfl, hT', .inl ⟨rfl, hs⟩⟩)
theorem tabT_PutAny {I : Imm} {t : Nat} {x : Tb} {L : Chunks} (hT : IsT I t x L) {p : Int}  {e : Ent} {cs : List Value} (he : REnt I e cs) (hsz : e.sized) (htk : x.tok + 1 < 18446744073709551616) : Spec Try.prog 33 [.pointer (some ⟨t, 0, none⟩), .int .i64 p, .agg cs.toArray] I L
    (fun v J L' => ∃ x' er, v = .int .i64 er ∧ IsT J t x' L' ∧ ((er = 0 ∧ (1 ≤ p ∧ p ≤ 512 ∧ e.mayP) ∧ x.Used x' p e) ∨ (er ≠ 0 ∧ ¬ (1 ≤ p ∧ p ≤ 512 ∧ e.mayP) ∧ x' = x))) :=
  (tabT_Put hT he hsz htk).mono (by
    rintro v J L' _ (⟨h, rfl, rfl, hT'⟩ | ⟨h, rfl, x', hu, hT'⟩)
    · exact ⟨x, _, rfl, hT', .inr ⟨by decide, h, rfl⟩⟩
    · exact ⟨x', _, rfl, hT', .inl ⟨rfl, h, hu⟩⟩)
/-- What is free, and the least of it. -/
structure Tb.Least (x : Tb) (p : Int) : Prop where
  p1 : 1 ≤ p
  free : x.get p = none
  all : ∀ k, 1 ≤ k → k < p → (x.get k).isSome = true
theorem tabT_AllocAny {I : Imm} {t : Nat} {x : Tb} {L : Chunks} (hT : IsT I t x L) (htk : x.tok + 1 < 18446744073709551616) : Spec Try.prog 29 [.pointer (some ⟨t, 0, none⟩)] I L
    (fun v J L' => ∃ x' p er, v = .tuple #[.int .i64 p, .int .i64 er] ∧ IsT J t x' L' ∧ ((er = 0 ∧ p ≤ 512 ∧ x.Least p ∧ x.Used x' p zeroEnt) ∨ (er = 91 ∧ p = 0 ∧ x' = x ∧ ∀ k, 1 ≤ k → k ≤ 512 → (x.get k).isSome = true))) :=
  (tabT_Alloc hT htk).mono (by
    rintro v J L' _ ⟨p, h1, h2, h3, ⟨h4, rfl, rfl, hT'⟩ | ⟨h4, rfl, x', hu, hT'⟩⟩
    · exact ⟨x, 0, _, rfl, hT', .inr ⟨rfl, rfl, rfl, fun k hk hk2 => h2 k hk (by omega)⟩⟩
    · exact ⟨x', p, _, rfl, hT', .inl ⟨rfl, h4, ⟨h1, h3, h2⟩, hu⟩⟩)
theorem tabT_LoadAny {I : Imm} {t : Nat} {x : Tb} {L : Chunks} (hT : IsT I t x L) {p : Int} : Spec Try.prog 30 [.pointer (some ⟨t, 0, none⟩), .int .i64 p] I L
    (fun v J L' => ∃ e cs er, v = .tuple #[.agg cs.toArray, .int .i64 er] ∧ REnt J e cs ∧ IsT J t x L' ∧ ((er = 0 ∧ ∃ b, x.get p = some (b, e)) ∨ (er ≠ 0 ∧ x.get p = none))) := by
  cases hg : x.get p with
  | none => exact (tabT_Load0 hT hg).mono (by rintro v J L' _ ⟨rfl, rfl, rfl⟩; exact ⟨zeroEnt, _, 90, rfl, zero_rent _, hT, .inr ⟨by decide, rfl⟩⟩)
  | some e => exact (tabT_Load1 hT hg).mono (by rintro v J L' _ ⟨cs, rfl, hr, hT'⟩; exact ⟨e.2, cs, 0, rfl, hr, hT', .inl ⟨rfl, e.1, rfl⟩⟩)

end Go.Hp
