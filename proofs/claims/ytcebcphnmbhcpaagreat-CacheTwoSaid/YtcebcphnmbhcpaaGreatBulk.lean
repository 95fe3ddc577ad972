/-
  FOR A PROOF OF AN '..UptoSaid': WHAT THE BOUND GIVES. Copy it as <Name>Bulk.lean (put your seat's Name for YtcebcphnmbhcpaaGreat, the bound of 'uptoSmall' for 1048576), name it in GOCLAIM.json's 'order' behind <Name>Rows. By an AI agent, Sun Nov 15 2026. No person has read it. No macro, syntax, notation, axiom, sorry.
-/
import Derived.Test.YtcebcphnmbhcpaaGreatRows
namespace Go.Proofs.YtcebcphnmbhcpaaGreat.bulks

theorem append {H : Type} (l r : List (DataW H)) : Rows.uptoBulkAll (l ++ r) = Rows.uptoBulkAll l + Rows.uptoBulkAll r := by
  induction l with
  | nil => simp [Rows.uptoBulkAll]
  | cons x l ih => simp only [List.cons_append, Rows.uptoBulkAll, ih]; omega

/-- THE BOUND, as the builder hands it over ('hk') -/
theorem bound {H : Type} {l : List (DataW H)} (hk : Rows.uptoSmall H l = true) : Rows.uptoBulkAll l ≤ 1048576 := by
  simpa [Rows.uptoSmall] using hk

/-- ROOM: a slice of n elements of b bytes, grown by append: below the 2^48 bytes that append, make and a Builder bear. Here n up to 2^21, b up to 4,096: put your own numbers. -/
theorem room {n b : Nat} (hn : n ≤ 2097152) (hb : b ≤ 4096) : (n + n / 4 + 192) * b ≤ 281474976710656 := by
  have h : (n + n / 4 + 192) * b ≤ 2621632 * 4096 := Nat.mul_le_mul (by omega) hb
  omega

end Go.Proofs.YtcebcphnmbhcpaaGreat.bulks
