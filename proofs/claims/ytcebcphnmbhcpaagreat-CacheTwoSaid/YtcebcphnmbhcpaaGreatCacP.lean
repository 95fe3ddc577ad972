import Derived.Test.YtcebcphnmbhcpaaGreatCacO
import Derived.Test.YtcebcphnmbhcpaaGreatBulk
set_option linter.unusedVariables false
set_option linter.unusedSimpArgs false
namespace Go.Hp
open Go Go.Proofs

theorem W1_ne {N : Nds} {k : Int} (h : k ≠ 1) : W1 N k = [] := updW_ne h
/-- What put makes of the world of one page. -/
theorem CPutR.one {m : Nat} {B : Bd} {N : Nds} {tb tb2 : Tb} {x : Lg} {e : Ent} {d : List UInt8} {c : Bool} (w : CW m B (W1 N) tb x) (hN : N ≠ []) (he : tb.ent 1 = some e) (hk : N.length ≤ 60 → N.length + 1 ≤ B.k) (hd : d.length ≤ B.b) (h : CPutR tb 1 e d c tb2) : Gro tb tb2 x x ∧ tb2.tok ≤ tb.tok + 1 ∧ ∃ N2, N2 ≠ [] ∧ CW m B (W1 N2) tb2 x ∧ ((c = true ∧ N2 = (false, d) :: N ∧ e.nodes = N ∧ tb.Swapped tb2 1 (putE e d)) ∨ (c = false ∧ N2 = N ∧ tb2 = tb)) := by
 have hW : W1 N 1 ≠ [] := by rw [W1_1]; exact hN
 have hh := w.held hW he
 rw [W1_1] at hh
 rcases h with ⟨h1, rfl, _⟩ | ⟨h1, h2, h3, h4⟩
 ·exact ⟨.refl _ _, Nat.le_succ _, N, hN, w, .inr ⟨h1, rfl, rfl⟩⟩
 ·have hn := hh.ok.nds.resolve_left h2
  rw [hn] at h3
  refine ⟨.swap h4 _, by rw [h4.tok]; exact Nat.le_refl _, (false, d) :: N, by simp, ?_, .inl ⟨h1, rfl, hn, h4⟩⟩
  exact w.swap ⟨by decide, by decide⟩ h4 (fun k hk => (W1_ne hk).trans (W1_ne hk).symm) (by rw [W1_1]; exact hh.ok.put h2 h3 (hk h3) hd)
theorem put_may {m : Nat} {B : Bd} {W : Int → Nds} {tb : Tb} {x : Lg} {p : Int} {e : Ent} {d : List UInt8} (w : CW m B W tb x) (hW : W p ≠ []) (he : tb.ent p = some e) (hk : (W p).length ≤ 60 → (W p).length + 1 ≤ B.k) (hb : B.b ≤ 1099511627776) (hd : d.length ≤ B.b) : e.nodes.length ≤ 64 ∧ (e.nodes ≠ [] → e.nodes.length ≤ 60 → (putE e d).mayP) ∧ (e.nodes ≠ [] → e.nodes.length ≤ 60 → (putE e d).sized) := by
 have hh := w.held hW he
 refine ⟨hh.ok.len, fun h1 h2 => ?_, fun h1 h2 => ?_⟩
 ·have hn := hh.ok.nds.resolve_left h1
  rw [hn] at h2
  exact (hh.ok.put h1 h2 (hk h2) hd).mayP
 ·have hn := hh.ok.nds.resolve_left h1
  rw [hn] at h2
  exact (hh.ok.put h1 h2 (hk h2) hd).sized hb
end Go.Hp
