import Derived.Test.YtcebcphnmbhcpaaGreatCacP
set_option linter.unusedVariables false
set_option linter.unusedSimpArgs false
namespace Go.Hp
open Go Go.Proofs

def bdC : Bd := ⟨200, 51⟩
theorem strs_one (l : List (List UInt8)) : (l.map strV).all (·.oneCell') = true := by simp [List.all_eq_true, strV, Value.oneCell']
/-- The chain's world behind some nodes. -/
structure ChI (i : Nat) (N : Nds) (tb : Tb) (x : Lg) (e : Ent) : Prop where
 nn : N ≠ []
 nl : N.length ≤ i + 1
 w : CW 60 bdC (W1 N) tb x
 he : tb.ent 1 = some e
 hn : e.nodes = N
 pot : x.pl + 2 * (e.nodes.length - e.kept.toNat) ≤ 10 + 4 * i
 tok : tb.tok ≤ 2 + 400 * i
theorem ChI.skip {i : Nat} {N : Nds} {tb : Tb} {x : Lg} {e : Ent} (h : ChI i N tb x e) : ChI (i + 1) N tb x e := ⟨h.nn, by have := h.nl; omega, h.w, h.he, h.hn, by have := h.pot; omega, by have := h.tok; omega⟩
/-- Behind a put. -/
structure ChP (i : Nat) (N : Nds) (tb : Tb) (x : Lg) (e : Ent) : Prop where
 nn : N ≠ []
 nl : N.length ≤ i + 2
 w : CW 60 bdC (W1 N) tb x
 he : tb.ent 1 = some e
 hn : e.nodes = N
 hk : e.kept < (e.nodes.length : Int)
 pot : x.pl + 2 * (e.nodes.length - e.kept.toNat) ≤ 12 + 4 * i
 tok : tb.tok ≤ 3 + 400 * i
theorem ChI.put {i : Nat} {N : Nds} {tb tb2 : Tb} {x : Lg} {e : Ent} (h : ChI i N tb x e) (hi : i < 50) {d : List UInt8} (hd : d.length ≤ 200) {c : Bool} (k : CPutR tb 1 e d c tb2) : c = true ∧ ChP i ((false, d) :: N) tb2 x { putE e d with tok := tb.tok + 1 } := by
 have hnl := h.nl
 have hc : c = true := by
  rcases k with ⟨_, _, k | k⟩ | ⟨k, _⟩
  ·exact absurd (h.hn ▸ k) h.nn
  ·rw [h.hn] at k; omega
  ·exact k
 obtain ⟨_, g2, N2, _, g4, ⟨_, rfl, _, g5⟩ | ⟨q, _⟩⟩ := k.one h.w h.nn h.he (fun _ => by show _ ≤ 51; omega) hd
 ·have hW : W1 N 1 ≠ [] := by rw [W1_1]; exact h.nn
  have hkp := (h.w.held hW h.he).ok.kept
  have hp := h.pot; have ht := h.tok
  refine ⟨hc, by simp, by rw [List.length_cons]; omega, g4, Swapped.tok g5, by show (false, d) :: e.nodes = _; rw [h.hn], ?_, ?_, by omega⟩
  ·show e.kept < ((((false, d) :: e.nodes).length : Nat) : Int); rw [List.length_cons]; omega
  ·show x.pl + 2 * (((false, d) :: e.nodes).length - e.kept.toNat) ≤ _; rw [List.length_cons]; omega
 ·rw [hc] at q; cases q
/-- Behind a flush. -/
structure ChE (i : Nat) (N : Nds) (tb : Tb) (x : Lg) (e : Ent) : Prop where
 nn : N ≠ []
 nl : N.length ≤ i + 2
 w : CW 60 bdC (W1 N) tb x
 he : tb.ent 1 = some e
 hn : e.nodes = N
 hk : e.kept = (e.nodes.length : Int)
 pot : x.pl ≤ 14 + 4 * i
 tok : tb.tok ≤ 102 + 400 * i
theorem ChP.on {i : Nat} {N : Nds} {tb : Tb} {x : Lg} {e : Ent} (h : ChP i N tb x e) : ChI (i + 1) N tb x e := ⟨h.nn, by have := h.nl; omega, h.w, h.he, h.hn, by have := h.pot; omega, by have := h.tok; omega⟩
theorem ChE.on {i : Nat} {N : Nds} {tb : Tb} {x : Lg} {e : Ent} (h : ChE i N tb x e) : ChI (i + 1) N tb x e := ⟨h.nn, by have := h.nl; omega, h.w, h.he, h.hn, by have := h.pot; have := h.hk; omega, by have := h.tok; omega⟩
end Go.Hp
