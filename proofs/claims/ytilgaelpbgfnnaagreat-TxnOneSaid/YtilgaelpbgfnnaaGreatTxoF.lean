import Derived.Test.YtilgaelpbgfnnaaGreatTxoB
import Derived.Test.YtilgaelpbgfnnaaGreatTxnAC
set_option linter.unusedVariables false
set_option linter.unusedSimpArgs false
namespace Go.Hp
open Go Go.Proofs

def onP (i : Nat) : Pr := ⟨1, 0, [(true, [UInt8.ofNat i])]⟩
def onR (i : Nat) : List Pr := [onP i]
theorem onR_wf (i : Nat) : Wf (onR i) := wf_of (by show 1 ≤ 1; decide) (by show 1 ≤ 8; decide) (fun r hr => by cases List.mem_singleton.1 hr; exact ⟨by show (1 : Int) ≤ 1; decide, by show (1 : Int) ≤ 512; decide, rfl, _, rfl⟩) (by simp [pgs, onR])
theorem onR_mem {i : Nat} {r : Pr} (h : r ∈ onR i) : r = onP i := List.mem_singleton.1 h
theorem CSt.tb {x x2 : Lg} {tb tb2 : Tb} {z z2 : Co} {b : Bool} (h : CSt x tb z b z2 x2 tb2) : tb2 = tb ∨ ∃ p e, tb.Swapped tb2 p e := by
 cases h with
 | clear _ _ hs =>
  rcases hs with ⟨_, _, h⟩ | ⟨_, _, ⟨_, _, h⟩ | ⟨_, _, _, h⟩ | ⟨_, _, _, h⟩⟩
  ·exact .inl h
  ·exact .inl h
  ·exact .inl h
  ·exact .inr ⟨_, _, h⟩
 | _ => exact .inl rfl
theorem CSt.com {x x2 : Lg} {tb tb2 : Tb} {z z2 : Co} {b : Bool} (h : CSt x tb z b z2 x2 tb2) (h5 : z.at_ ≤ 5) (h6 : 6 ≤ z2.at_) (h9 : z2.at_ = 9 → z2.c.e = 0) : ∃ r : Rc, r.kind = 4 ∧ r.b = numB z.c.txn.toNat ∧ x2 = x.push r := by
 cases h with
 | take _ => exact absurd (show 6 ≤ 5 from h6) (by decide)
 | @commit _ e _ he ha =>
  rcases ha with ⟨h0, _⟩ | ⟨_, r, h1, h2, h3⟩
  ·unfold Co.commits at h6 h9
   rw [if_neg h0] at h6 h9
   split at h6
   ·exact absurd (show 6 ≤ 4 from h6) (by decide)
   ·rename_i g; rw [if_neg g] at h9; exact absurd (h9 rfl) h0
  ·exact ⟨r, h1, h2, h3⟩
 | look _ => omega
 | clear _ _ _ => omega
 | nil _ => omega
/-- The page's token is not the first one. -/
def late (tb : Tb) : Prop := ∃ e, tb.ent 1 = some e ∧ e.tok ≠ 1
theorem late.swap {tb tb2 : Tb} {p : Int} {e : Ent} (h : late tb) (h1 : 1 ≤ tb.tok) (hs : tb.Swapped tb2 p e) : late tb2 := by
 obtain ⟨f, h2, h3⟩ := h
 unfold late
 by_cases q : (1 : Int) = p
 ·exact ⟨_, by rw [hs.ent, if_pos q], by show tb.tok + 1 ≠ 1; omega⟩
 ·exact ⟨f, by rw [hs.ent, if_neg q]; exact h2, h3⟩
structure OPre (i : Nat) (x : Lg) (z : Gp) : Prop where
 at_ : z.at_ = 0 ∨ z.at_ = 1 ∨ z.at_ = 3
 c : PhC (onR i) 1 z
 b : z.at_ = 1 → z.bytes = groupB (onR i)
 n : z.at_ = 3 → (1 ≤ z.c.txn ∧ z.c.txn ≤ (x.no : Int)) ∧ 0 ≤ z.place
theorem OPre.mono {i : Nat} {x x2 : Lg} {z : Gp} (h : OPre i x z) (hx : x.no ≤ x2.no) : OPre i x2 z := ⟨h.at_, h.c, h.b, fun q => ⟨⟨(h.n q).1.1, by have := (h.n q).1.2; omega⟩, (h.n q).2⟩⟩
structure OLost (i : Nat) (z : Gp) : Prop where
 at_ : z.at_ = 9
 e : z.c.e = 5
 c : PhC (onR i) 1 z
structure OWin (i : Nat) (x : Lg) (tb : Tb) (z : Gp) : Prop where
 ph : Bph (onR i) z.c.txn z.place x tb z.co
 c : PhC (onR i) 1 z
 ltd : late tb
 com : 6 ≤ z.at_ → ∃ r ∈ x.rs, r.kind = 4 ∧ r.b = numB z.c.txn.toNat
structure OInv (n S K : Nat) (x : Lg) (tb : Tb) (gs : List (Nat × Gp)) (w : Option Nat) : Prop where
 len : gs.length = n
 n20 : n ≤ 20
 lg : LgB x
 lo : x.lo = 0
 recs : ∀ r ∈ x.rs, (r.kind = 3 ∧ ∃ j, r.b = groupB (onR j)) ∨ r.kind = 4
 xl : x.rs.length ≤ sumF Gp.V gs + S
 s1 : S ≤ 1
 tk1 : 1 ≤ tb.tok
 tkK : tb.tok ≤ K
 oth : ∀ i (h : i < gs.length), w ≠ some i → OPre i x gs[i].2 ∨ OLost i gs[i].2
 free : w = none → (∃ e, tb.ent 1 = some e ∧ e.txn = 0 ∧ e.mayP) ∧ ∀ r ∈ x.rs, r.kind = 3
 win : ∀ k, w = some k → ∃ h : k < gs.length, OWin k x tb gs[k].2
def muO (z : Gp) (x : Lg) (tb : Tb) : Nat := if z.at_ = 0 then 9 else if z.at_ = 1 then (if z.c.hn = x.no ∧ z.c.hp = x.pl then 8 else 10) else if z.at_ = 3 then 7 else z.co.mu x tb
/-- What a step of one of them brings. -/
structure OW (i : Nat) (x : Lg) (tb : Tb) (z : Gp) (w : Option Nat) (b : Bool) (z2 : Gp) (x2 : Lg) (tb2 : Tb) (w2 : Option Nat) : Prop where
 lg : LgB x2
 xs : x2 = x ∨ ∃ r : Rc, x2 = x.push r ∧ ((r.kind = 3 ∧ ∃ j, r.b = groupB (onR j)) ∨ (r.kind = 4 ∧ w = some i))
 V : x2.rs.length + z.V ≤ x.rs.length + z2.V
 tbs : tb2 = tb ∨ ∃ p e, tb.Swapped tb2 p e
 ww : w2 = w ∨ (w = none ∧ w2 = some i)
 own : (w2 = some i ∧ OWin i x2 tb2 z2) ∨ (w2 ≠ some i ∧ (OPre i x2 z2 ∨ OLost i z2) ∧ tb2 = tb)
 b : b = true ↔ z2.at_ = 9
 mu : z.at_ = 9 ∨ muO z2 x2 tb2 < muO z x tb
theorem OWin.k1 {i : Nat} {x : Lg} {tb : Tb} {z : Gp} (h : OWin i x tb z) (h9 : z.at_ ≠ 9) : z.c.clear.length = 1 := by
 obtain ⟨k, hk, hc, _⟩ := h.ph.k h9
 have e : (rotL (onR i)).length = 1 := rfl
 have : z.c.clear.length = (rotL (onR i)).length - k := by have := congrArg List.length (show z.c.clear = _ from hc); rw [this]; unfold pgs; rw [List.length_map, List.length_drop]
 omega
theorem OWin.step {i : Nat} {x x2 : Lg} {tb tb2 : Tb} {z z2 : Gp} {b : Bool} (h : OWin i x tb z) (hl : LgB x) (hm : x.rs.length < 58) (h1 : 1 ≤ tb.tok) (hs : Stp x tb z b z2 x2 tb2) : OW i x tb z (some i) b z2 x2 tb2 (some i) := by
 have wf := onR_wf i
 have h4 := h.ph.at_
 have hat : z.co.at_ = z.at_ := rfl
 have hat2 : z2.co.at_ = z2.at_ := rfl
 obtain ⟨hc, hlk⟩ := hs.co (by omega) (by omega) (thoseF wf h.c)
 have w := h.ph.step wf hl hm hc
 have htx2 : z2.c.txn = z.c.txn := w.ph.txn
 have h5 := w.ph.at_
 have hlen := w.len
 rw [hat, hat2] at hlen
 have hb2 : Bph (onR i) z2.c.txn z2.place x2 tb2 z2.co := by rw [htx2, hlk.place]; exact w.ph
 have hcom : 6 ≤ z2.at_ → ∃ r ∈ x2.rs, r.kind = 4 ∧ r.b = numB z2.c.txn.toNat := fun q => by
  rw [htx2]
  by_cases q5 : z.at_ ≤ 5
  ·obtain ⟨r, g1, g2, g3⟩ := hc.com q5 q (fun q9 => (w.ph.fin q9).1)
   exact ⟨r, by rw [g3]; exact List.mem_append_right _ (List.mem_singleton.2 rfl), g1, g2⟩
  ·obtain ⟨r, g1, g2⟩ := h.com (by omega)
   refine ⟨r, ?_, g2⟩
   rcases w.xs with e | ⟨r', _, _, e⟩
   ·rw [e]; exact g1
   ·rw [e]; exact List.mem_append_left _ g1
 have hlate : late tb2 := by
  rcases hc.tb with e | ⟨p, e, hsw⟩
  ·rw [e]; exact h.ltd
  ·exact h.ltd.swap h1 hsw
 refine ⟨w.lg, ?_, ?_, hc.tb, .inl rfl, .inl ⟨rfl, hb2, hlk.phc h.c, hlate, hcom⟩, w.b, ?_⟩
 ·rcases w.xs with e | ⟨r', g1, _, e⟩
  ·exact .inl e
  ·exact .inr ⟨r', e, .inr ⟨g1, rfl⟩⟩
 ·have e1 : z.V + (if z.at_ ≤ 5 then 1 else 0) = 2 := by unfold Gp.V; rw [if_neg (by omega)]; split <;> rfl
  have e2 : z2.V + (if z2.at_ ≤ 5 then 1 else 0) = 2 := by unfold Gp.V; rw [if_neg (by omega)]; split <;> rfl
  omega
 ·rcases w.mu with q | q
  ·exact .inl q
  ·right
   have e1 : muO z x tb = z.co.mu x tb := by unfold muO; rw [if_neg (by omega), if_neg (by omega), if_neg (by omega)]
   have e2 : muO z2 x2 tb2 = z2.co.mu x2 tb2 := by unfold muO; rw [if_neg (by omega), if_neg (by omega), if_neg (by omega)]
   omega
theorem OLost.step {i : Nat} {x x2 : Lg} {tb tb2 : Tb} {z z2 : Gp} {w : Option Nat} {b : Bool} (h : OLost i z) (hw : w ≠ some i) (hl : LgB x) (hs : Stp x tb z b z2 x2 tb2) : OW i x tb z w b z2 x2 tb2 w := by
 have h9 := h.at_
 cases hs with
 | nil _ => exact ⟨hl, .inl rfl, Nat.le_refl _, .inl rfl, .inl rfl, .inr ⟨hw, .inr h, rfl⟩, ⟨fun _ => h9, fun _ => rfl⟩, .inl h9⟩
 | _ => exfalso; omega
theorem OPre.step {i : Nat} {x x2 : Lg} {tb tb2 : Tb} {z z2 : Gp} {w : Option Nat} {b : Bool} (h : OPre i x z) (hw : w ≠ some i) (hl : LgB x) (hm : x.rs.length < 58) (h1 : 1 ≤ tb.tok) (hfree : w = none → ∃ e, tb.ent 1 = some e) (hlate : w ≠ none → late tb) (hs : Stp x tb z b z2 x2 tb2) : ∃ w2, OW i x tb z w b z2 x2 tb2 w2 := by
 have wf := onR_wf i
 have hat := h.at_
 have hth : thoseL z.pages 1 true = [] := by
  rw [those_t (by rw [h.c.pages]; exact wf.nn) 1]
  exact prs_nil (by rw [prs_drop, h.c.pages]; rfl)
 cases hs with
 | begin h0 =>
  have e : z.begins x = (false, ((z.setB (groupB (onR i))).setC { z.c with hn := x.no, hp := x.pl }).go 1) := by unfold Gp.begins; rw [h.c.pages, encE_wf wf]; rfl
  rw [e]
  exact ⟨w, hl, .inl rfl, by simp [Gp.V, Gp.go, Gp.setC, Gp.setB, h0], .inl rfl, .inl rfl, .inr ⟨hw, .inl ⟨.inr (.inl rfl), ⟨h.c.pages, h.c.tok, h.c.lf⟩, fun _ => rfl, fun q => absurd (show (1 : Nat) = 3 from q) (by decide)⟩, rfl⟩, ⟨fun q => (by cases q), fun q => absurd (show (1 : Nat) = 9 from q) (by decide)⟩, .inr (by simp [muO, Gp.go, Gp.setC, Gp.setB, h0])⟩
 | @append h0 e x2 he ha =>
  have hbl : z.bytes.length < 198 := by rw [h.b h0]; exact wf.sz
  have e1 := hl.no
  rw [hl.apE (by omega) hbl (.inl rfl)] at he
  by_cases hcur : z.c.hn = x.no ∧ z.c.hp = x.pl
  ·rw [if_pos hcur] at he
   subst he
   obtain ⟨_, r, hk, hrb, rfl⟩ := ha.resolve_left (fun q => q.1 rfl)
   have hno := x.no_push r
   have e : z.appends 0 (x.push r).no = (false, (z.appd (x.push r).no).go 3) := (if_pos rfl).trans (if_pos hth)
   rw [e]
   exact ⟨w, hl.push (by rw [hrb]; exact hbl), .inr ⟨r, rfl, .inl ⟨hk, i, by rw [hrb, h.b h0]⟩⟩, by simp [Gp.V, Gp.go, Gp.appd, Lg.push, h0], .inl rfl, .inl rfl, .inr ⟨hw, .inl ⟨.inr (.inr rfl), ⟨h.c.pages, h.c.tok, fun y hy => those_mem y hy⟩, fun q => absurd (show (3 : Nat) = 1 from q) (by decide), fun _ => ⟨⟨by show (1 : Int) ≤ ((x.push r).no : Int); omega, Int.le_refl _⟩, by show (0 : Int) ≤ (z.c.hp : Int); omega⟩⟩, rfl⟩, ⟨fun q => (by cases q), fun q => absurd (show (3 : Nat) = 9 from q) (by decide)⟩, .inr (by simp [muO, Gp.go, Gp.appd, h0, hcur])⟩
  ·rw [if_neg hcur] at he
   subst he
   obtain ⟨_, rfl⟩ := ha.resolve_right (fun q => by cases q.1)
   have e : z.appends 5 x2.no = (false, z.go 0) := (if_neg (by decide)).trans (if_pos rfl)
   rw [e]
   exact ⟨w, hl, .inl rfl, by simp [Gp.V, Gp.go, h0], .inl rfl, .inl rfl, .inr ⟨hw, .inl ⟨.inl rfl, ⟨h.c.pages, h.c.tok, h.c.lf⟩, fun q => absurd (show (0 : Nat) = 1 from q) (by decide), fun q => absurd (show (0 : Nat) = 3 from q) (by decide)⟩, rfl⟩, ⟨fun q => (by cases q), fun q => absurd (show (0 : Nat) = 9 from q) (by decide)⟩, .inr (by simp [muO, Gp.go, h0, hcur])⟩
 | @swap h0 r tb2 hsw =>
  obtain ⟨hn, hpl⟩ := h.n h0
  have hp0 : z.p0 = onP i := p0_wf h.c.pages
  have hfm := firstE_may wf h.c.pages hn.1 hpl
  rw [show z.p0.page = 1 by rw [hp0]; rfl] at hsw
  have hex : ∃ e, tb.ent 1 = some e := by
   by_cases q : w = none
   ·exact hfree q
   ·obtain ⟨e, h2, _⟩ := hlate q; exact ⟨e, h2⟩
  have lost : ∀ tb', tb' = tb → ∃ w2, OW i x tb z w (z.swaps 5).1 (z.swaps 5).2 x tb' w2 := fun tb' he => by
   subst he
   have e : z.swaps 5 = (true, z.fin 5) := if_neg (by decide)
   rw [e]
   exact ⟨w, hl, .inl rfl, by simp [Gp.V, Gp.fin, h0], .inl rfl, .inl rfl, .inr ⟨hw, .inr ⟨rfl, rfl, ⟨h.c.pages, h.c.tok, h.c.lf⟩⟩, rfl⟩, ⟨fun _ => rfl, fun _ => rfl⟩, .inr (by
    have e1 : muO (z.fin 5) x tb' = 0 := by simp [muO, Gp.fin, Gp.co, Co.mu]
    have e2 : muO z x tb' = 7 := by simp [muO, h0]
    show muO (z.fin 5) x tb' < _; omega)⟩
  rcases hsw with ⟨hnone, _⟩ | ⟨e0, hg, ⟨hbad, _⟩ | ⟨_, hne, rfl, htb⟩ | ⟨_, heq, rfl, hu⟩⟩
  ·obtain ⟨e, he⟩ := hex; rw [Tb.ent_none hnone] at he; cases he
  ·exact absurd hfm hbad
  ·exact lost _ htb
  ·have hw0 : w = none := by
    by_cases q : w = none
    ·exact q
    ·obtain ⟨e, h2, h3⟩ := hlate q
     rw [Tb.ent_some hg] at h2; cases h2
     exact absurd (heq.trans h.c.tok) h3
   have hent := hu.ent
   have e : z.swaps 0 = (false, (z.setC { z.c with clear := otherP z.pages ++ [z.p0.page] }).go 4) := if_pos rfl
   have hoth := otherP_wf wf h.c.pages
   have hcl : otherP z.pages ++ [z.p0.page] = pgs (rotL (onR i)) := by rw [hoth, hp0, rotL_pgs]; rfl
   have hmd : made tb2 (onR i) z.c.txn z.place (onP i) := by
    refine ⟨_, (hent 1).trans (if_pos rfl), ⟨mayP.tok hfm _, ?_, rfl, rfl⟩, rfl, ?_, fun _ => hoth⟩
    ·show z.p0.nodes = _; rw [hp0]
    ·have := lead_becE (pages := z.pages) z.c.txn z.place z.p0
     rw [h.c.pages] at this; exact this
   have hall : ∀ r ∈ onR i, made tb2 (onR i) z.c.txn z.place r := fun r hr => by rw [onR_mem hr]; exact hmd
   rw [e]
   refine ⟨some i, hl, .inl rfl, by simp [Gp.V, Gp.go, Gp.setC, h0], .inr ⟨_, _, hu⟩, .inr ⟨hw0, rfl⟩, .inl ⟨rfl, ⟨.inl rfl, hn, rfl, fun r hr => .inl (hall r hr), fun q => (made_clrd hmd q hn.1).elim, fun _ => ⟨0, by show 0 < 1; decide, hcl, fun r hr => (by cases hr), fun _ => rfl, fun q => absurd (show (4 : Nat) = 7 from q) (by decide)⟩, fun q => absurd (show (4 : Nat) = 9 from q) (by decide)⟩, ⟨h.c.pages, h.c.tok, h.c.lf⟩, ⟨_, (hent 1).trans (if_pos rfl), by show tb.tok + 1 ≠ 1; omega⟩, fun q => absurd (show (6 : Nat) ≤ 4 from q) (by decide)⟩, ⟨fun q => (by cases q), fun q => absurd (show (4 : Nat) = 9 from q) (by decide)⟩, .inr ?_⟩
   have e2 : muO z x tb = 7 := by simp [muO, h0]
   have e3 : (otherP z.pages ++ [z.p0.page]).length = 1 := by rw [hcl]; rfl
   have e4 : muO ((z.setC { z.c with clear := otherP z.pages ++ [z.p0.page] }).go 4) x tb2 = 2 * (otherP z.pages ++ [z.p0.page]).length + 2 := by simp [muO, Gp.go, Gp.setC, Gp.co, Co.mu]
   rw [e2]; show muO ((z.setC { z.c with clear := otherP z.pages ++ [z.p0.page] }).go 4) x tb2 < 7
   omega
 | _ => exfalso; omega

theorem OW.no {i : Nat} {x x2 : Lg} {tb tb2 : Tb} {z z2 : Gp} {w w2 : Option Nat} {b : Bool} (h : OW i x tb z w b z2 x2 tb2 w2) : x.no ≤ x2.no := by
 rcases h.xs with e | ⟨r, e, _⟩
 ·rw [e]; exact Nat.le_refl _
 ·rw [e, x.no_push]; omega
theorem OWin.mono {i : Nat} {x x2 : Lg} {tb : Tb} {z : Gp} (h : OWin i x tb z) (hx : x2 = x ∨ ∃ r, x2 = x.push r) : OWin i x2 tb z := by
 have hno : x.no ≤ x2.no := by
  rcases hx with e | ⟨r, e⟩
  ·rw [e]; exact Nat.le_refl _
  ·rw [e, x.no_push]; omega
 refine ⟨h.ph.stay (onR_wf i) hno h.ph.all h.ph.hl (fun _ _ q => q), h.c, h.ltd, fun q => ?_⟩
 obtain ⟨r, g1, g2⟩ := h.com q
 refine ⟨r, ?_, g2⟩
 rcases hx with e | ⟨r', e⟩
 ·rw [e]; exact g1
 ·rw [e]; exact List.mem_append_left _ g1
theorem OInv.x58 {n S K : Nat} {x : Lg} {tb : Tb} {gs : List (Nat × Gp)} {w : Option Nat} (h : OInv n S K x tb gs w) : x.rs.length ≤ 41 := by
 have h1 := sumF_le Gp.V (m := 2) Gp.V_le gs
 have h2 := h.len; have h3 := h.n20; have h4 := h.xl; have h5 := h.s1
 rw [h2] at h1; omega
theorem OInv.step {n S K : Nat} {x x2 : Lg} {tb tb2 : Tb} {gs : List (Nat × Gp)} {w : Option Nat} (h : OInv n S K x tb gs w) {i : Nat} (hi : i < gs.length) {b : Bool} {z2 : Gp} (hs : Stp x tb gs[i].2 b z2 x2 tb2) : ∃ w2, OW i x tb gs[i].2 w b z2 x2 tb2 w2 ∧ OInv n S (K + 1) x2 tb2 (gs.set i (gs[i].1, z2)) w2 := by
 have hx := h.x58
 have key : ∃ w2, OW i x tb gs[i].2 w b z2 x2 tb2 w2 := by
  by_cases q : w = some i
  ·obtain ⟨_, hw⟩ := h.win i q
   have := hw.step h.lg (by omega) h.tk1 hs
   rw [q]; exact ⟨_, this⟩
  ·rcases h.oth i hi q with hp | hl
   ·exact hp.step q h.lg (by omega) h.tk1 (fun e => by obtain ⟨⟨f, hf, _⟩, _⟩ := h.free e; exact ⟨f, hf⟩) (fun e => by
     cases hw : w with
     | none => exact absurd hw e
     | some k => obtain ⟨_, g⟩ := h.win k hw; exact g.ltd) hs
   ·exact ⟨_, hl.step q h.lg hs⟩
 obtain ⟨w2, hw⟩ := key
 refine ⟨w2, hw, ?_⟩
 have hset := sumF_set Gp.V gs i hi gs[i].1 z2
 have hV := hw.V
 have hxl := h.xl
 have hx2 : x2 = x ∨ ∃ r, x2 = x.push r := hw.xs.imp id fun ⟨r, e, _⟩ => ⟨r, e⟩
 have htk : tb.tok ≤ tb2.tok ∧ tb2.tok ≤ tb.tok + 1 := by
  rcases hw.tbs with e | ⟨p, e, hsw⟩
  ·rw [e]; omega
  ·rw [hsw.tok]; omega
 have h1 := h.tk1; have hK := h.tkK
 have hse : (gs.set i (gs[i].1, z2))[i]'(by rw [List.length_set]; exact hi) = (gs[i].1, z2) := List.getElem_set_self _
 have hsn : ∀ j (hj : j < gs.length), i ≠ j → (gs.set i (gs[i].1, z2))[j]'(by rw [List.length_set]; exact hj) = gs[j] := fun j hj hne => List.getElem_set_ne hne _
 have hno := hw.no
 refine ⟨by rw [List.length_set]; exact h.len, h.n20, hw.lg, ?_, ?_, by omega, h.s1, by omega, by omega, ?_, ?_, ?_⟩
 ·rcases hx2 with e | ⟨r, e⟩ <;> rw [e] <;> exact h.lo
 ·intro r hr
  rcases hw.xs with e | ⟨r', e, hr'⟩
  ·rw [e] at hr; exact h.recs r hr
  ·rw [e] at hr
   rcases List.mem_append.1 hr with hr | hr
   ·exact h.recs r hr
   ·cases List.mem_singleton.1 hr; exact hr'.imp id And.left
 ·intro j hj hne
  rw [List.length_set] at hj
  by_cases hij : i = j
  ·subst hij
   rw [hse]
   rcases hw.own with ⟨q, _⟩ | ⟨_, q, _⟩
   ·exact absurd q hne
   ·exact q
  ·rw [hsn j hj hij]
   have hwj : w ≠ some j := by
    rcases hw.ww with q | ⟨q, _⟩
    ·rw [← q]; exact hne
    ·rw [q]; exact nofun
   exact (h.oth j hj hwj).imp (fun q => q.mono hno) id
 ·intro q
  have hwn : w = none := by
   rcases hw.ww with q2 | ⟨q2, _⟩
   ·rw [← q2]; exact q
   ·exact q2
  rcases hw.own with ⟨q2, _⟩ | ⟨_, _, q2⟩
  ·rw [q] at q2; cases q2
  ·rw [q2]
   refine ⟨(h.free hwn).1, fun r hr => ?_⟩
   rcases hw.xs with e | ⟨r', e, hr'⟩
   ·rw [e] at hr; exact (h.free hwn).2 r hr
   ·rw [e] at hr
    rcases List.mem_append.1 hr with hr | hr
    ·exact (h.free hwn).2 r hr
    ·cases List.mem_singleton.1 hr
     rcases hr' with q3 | ⟨_, q3⟩
     ·exact q3.1
     ·rw [hwn] at q3; cases q3
 ·intro k hk
  by_cases hik : i = k
  ·subst hik
   refine ⟨by rw [List.length_set]; exact hi, ?_⟩
   rw [hse]
   rcases hw.own with ⟨_, q⟩ | ⟨q, _⟩
   ·exact q
   ·exact absurd hk q
  ·have hwk : w = some k := by
    rcases hw.ww with q | ⟨_, q⟩
    ·rw [← q]; exact hk
    ·rw [hk] at q; cases q; exact absurd rfl hik
   obtain ⟨hkl, hwin⟩ := h.win k hwk
   refine ⟨by rw [List.length_set]; exact hkl, ?_⟩
   rw [hsn k hkl hik]
   rcases hw.own with ⟨q, _⟩ | ⟨_, _, q⟩
   ·rw [hk] at q; cases q; exact absurd rfl hik
   ·rw [q]; exact hwin.mono hx2
theorem role_pre {i : Nat} {x : Lg} {tb : Tb} {z : Gp} (hc : PhC (onR i) 1 z) (ht : tb.tok + 1 < 18446744073709551616) (h28 : z.at_ ≠ 2 ∧ z.at_ ≠ 8) (hcl : z.at_ = 6 ∨ z.at_ = 7 → 0 < z.c.clear.length) (hcm : z.at_ = 5 → 1 ≤ z.c.txn ∧ z.c.txn ≤ 1099511627776) : z.pre tb := by
 have hpl : z.pages.length = 1 := by rw [← prs_len, hc.pages]; rfl
 exact ⟨ht, by omega, by omega, Gp.sz_of (by rw [hc.pages]; exact onR_wf i), hc.lf, fun q => by omega, hcl, hcm⟩
theorem OInv.pre {n S K : Nat} {x : Lg} {tb : Tb} {gs : List (Nat × Gp)} {w : Option Nat} (h : OInv n S K x tb gs w) (hK : K + 1 < 18446744073709551616) {i : Nat} (hi : i < gs.length) : gs[i].2.pre tb := by
 have hk := h.tkK
 have hx := h.x58
 have e1 := h.lg.no
 by_cases q : w = some i
 ·obtain ⟨_, hw⟩ := h.win i q
  have h4 := hw.ph.at_
  have hat : gs[i].2.co.at_ = gs[i].2.at_ := rfl
  have hno := hw.ph.hno
  exact role_pre (x := x) hw.c (by omega) ⟨by omega, by omega⟩ (fun q => hw.ph.clr0 (by omega)) (fun _ => ⟨hno.1, by omega⟩)
 ·rcases h.oth i hi q with hp | hl
  ·have h4 := hp.at_
   exact role_pre (x := x) hp.c (by omega) ⟨by omega, by omega⟩ (fun q => by omega) (fun q => by omega)
  ·have h4 := hl.at_
   exact role_pre (x := x) hl.c (by omega) ⟨by omega, by omega⟩ (fun q => by omega) (fun q => by omega)
/-- One of the groups runs to its end. -/
theorem OInv.ginv {n S K0 : Nat} {gs : List (Nat × Gp)} {i : Nat} (hi : i < gs.length) (hK : K0 + 1 < 18446744073709551616) : GInv (fun m x tb z => ∃ w K, OInv n S K x tb (gs.set i (gs[i].1, z)) w ∧ K + m ≤ K0 ∧ muO z x tb ≤ m) where
 pre m x tb z h := by
  obtain ⟨w, K, h1, h2, _⟩ := h
  have := h1.pre (by omega) (i := i) (by rw [List.length_set]; exact hi)
  rwa [List.getElem_set_self] at this
 step m x tb z b z2 x2 tb2 h hs := by
  obtain ⟨w, K, h1, h2, h3⟩ := h
  have hi2 : i < (gs.set i (gs[i].1, z)).length := by rw [List.length_set]; exact hi
  have hs2 : Stp x tb ((gs.set i (gs[i].1, z))[i]'hi2).2 b z2 x2 tb2 := by rw [List.getElem_set_self]; exact hs
  obtain ⟨w2, hw, h4⟩ := h1.step hi2 hs2
  simp only [List.getElem_set_self] at hw h4
  rw [List.set_set] at h4
  have hb := hw.b
  rcases hw.mu with h9 | hlt
  ·cases hs with
   | nil _ => exact .inl ⟨rfl, ⟨w, K, h1, by omega, by rw [show muO z x tb = 0 by simp [muO, h9, Gp.co, Co.mu]]; exact Nat.le_refl _⟩, h9⟩
   | _ => exfalso; omega
  ·cases b with
   | true =>
    have h9 := hb.1 rfl
    exact .inl ⟨rfl, ⟨w2, K + 1, h4, by omega, by rw [show muO z2 x2 tb2 = 0 by simp [muO, h9, Gp.co, Co.mu]]; exact Nat.le_refl _⟩, h9⟩
   | false => exact .inr ⟨rfl, muO z2 x2 tb2, by omega, ⟨w2, K + 1, h4, by omega, Nat.le_refl _⟩⟩
/-- Somebody else's step. -/
theorem OInv.other {n S K : Nat} {x x2 : Lg} {tb tb2 : Tb} {gs : List (Nat × Gp)} {w : Option Nat} (h : OInv n S K x tb gs w) (hl : LgB x2) (hx : x2 = x ∨ ∃ r : Rc, r.kind = 4 ∧ x2 = x.push r ∧ w ≠ none) (hxl : x2.rs.length ≤ sumF Gp.V gs + S) (htb : tb2 = tb ∨ ∃ p e, tb.Swapped tb2 p e) (hf : w = none → ∃ e, tb2.ent 1 = some e ∧ e.txn = 0 ∧ e.mayP)
  (hw : ∀ k (hk : k < gs.length), w = some k → TB (onR k) gs[k].2.c.txn gs[k].2.place x2 tb2 ∧ ∀ r ∈ onR k, clrd tb gs[k].2.c.txn gs[k].2.place r → clrd tb2 gs[k].2.c.txn gs[k].2.place r) : OInv n S (K + 1) x2 tb2 gs w := by
 have h1 := h.tk1; have hK := h.tkK
 have hno : x.no ≤ x2.no := by
  rcases hx with e | ⟨r, _, e, _⟩
  ·rw [e]; exact Nat.le_refl _
  ·rw [e, x.no_push]; omega
 have htk : tb.tok ≤ tb2.tok ∧ tb2.tok ≤ tb.tok + 1 := by
  rcases htb with e | ⟨p, e, hsw⟩
  ·rw [e]; omega
  ·rw [hsw.tok]; omega
 refine ⟨h.len, h.n20, hl, ?_, ?_, hxl, h.s1, by omega, by omega, fun i hi hne => (h.oth i hi hne).imp (fun q => q.mono hno) id, fun q => ⟨hf q, fun r hr => ?_⟩, fun k hk => ?_⟩
 ·rcases hx with e | ⟨r, _, e, _⟩ <;> rw [e] <;> exact h.lo
 ·intro r hr
  rcases hx with e | ⟨r', g, e, _⟩
  ·rw [e] at hr; exact h.recs r hr
  ·rw [e] at hr
   rcases List.mem_append.1 hr with hr | hr
   ·exact h.recs r hr
   ·cases List.mem_singleton.1 hr; exact .inr g
 ·rcases hx with e | ⟨r', g, e, g2⟩
  ·rw [e] at hr; exact (h.free q).2 r hr
  ·exact absurd q g2
 ·obtain ⟨hkl, hwin⟩ := h.win k hk
  obtain ⟨ht, hc⟩ := hw k hkl hk
  refine ⟨hkl, hwin.ph.stay (onR_wf k) hno ht.all ht.hl hc, hwin.c, ?_, fun q => ?_⟩
  ·rcases htb with e | ⟨p, e, hsw⟩
   ·rw [e]; exact hwin.ltd
   ·exact hwin.ltd.swap h1 hsw
  ·obtain ⟨r, g1, g2⟩ := hwin.com q
   refine ⟨r, ?_, g2⟩
   rcases hx with e | ⟨r', _, e, _⟩
   ·rw [e]; exact g1
   ·rw [e]; exact List.mem_append_left _ g1

theorem OInv.weak {n K : Nat} {x : Lg} {tb : Tb} {gs : List (Nat × Gp)} {w : Option Nat} (h : OInv n 0 K x tb gs w) : OInv n 1 K x tb gs w :=
 ⟨h.len, h.n20, h.lg, h.lo, h.recs, by have := h.xl; omega, Nat.le_refl _, h.tk1, h.tkK, h.oth, h.free, h.win⟩
theorem OInv.up {n S K K2 : Nat} {x : Lg} {tb : Tb} {gs : List (Nat × Gp)} {w : Option Nat} (h : OInv n S K x tb gs w) (hK : K ≤ K2) : OInv n S K2 x tb gs w :=
 ⟨h.len, h.n20, h.lg, h.lo, h.recs, h.xl, h.s1, h.tk1, by have := h.tkK; omega, h.oth, h.free, h.win⟩
structure OSet (n K0 : Nat) (no : Int) (gs : List (Nat × Gp)) (w : Option Nat) (m : Nat) (x : Lg) (tb : Tb) (z : Hm) : Prop where
 o : ∃ K, OInv n 1 K x tb gs w ∧ K + m ≤ K0
 sl : x.rs.length + (if z.at_ ≤ 5 ∨ z.at_ = 8 then 1 else 0) ≤ sumF Gp.V gs + 1
 at_ : (z.at_ = 2 ∧ 14 ≤ m) ∨ (z.at_ = 3 ∧ z.page = 1 ∧ 1 ≤ no ∧ 12 ≤ m) ∨ (z.at_ = 8 ∧ z.page = 1 ∧ tb.ent 1 = some z.c.ent ∧ 10 ≤ m) ∨ (∃ k, ∃ h : k < gs.length, w = some k ∧ 4 ≤ z.at_ ∧ z.at_ ≠ 8 ∧ Bph (onR k) gs[k].2.c.txn gs[k].2.place x tb z.co ∧ z.co.mu x tb ≤ m) ∨ (z.at_ = 9 ∧ z.c.e = 0)
theorem OInv.ent1 {n S K : Nat} {x : Lg} {tb : Tb} {gs : List (Nat × Gp)} {w : Option Nat} (h : OInv n S K x tb gs w) : ∃ e, tb.ent 1 = some e := by
 cases hw : w with
 | none => obtain ⟨⟨e, h1, _⟩, _⟩ := h.free hw; exact ⟨e, h1⟩
 | some k => obtain ⟨_, g⟩ := h.win k hw; obtain ⟨e, h1, _⟩ := g.ltd; exact ⟨e, h1⟩
theorem OSet.inv {n K0 : Nat} {no : Int} {gs : List (Nat × Gp)} {w : Option Nat} (hK0 : K0 + 1 < 18446744073709551616) : SInv no (OSet n K0 no gs w) where
 pre m x tb z h := by
  obtain ⟨K, ho, hK⟩ := h.o
  have e1 := ho.lg.no
  have hx := ho.x58
  have hk := ho.tkK
  refine ⟨by omega, fun q => ?_, fun q => ?_, ?_, ho.lg.bl, ⟨ho.lo, ho.lg.base⟩⟩
  ·rcases h.at_ with ⟨g, _⟩ | ⟨g, _⟩ | ⟨g, _⟩ | ⟨k, hk', _, _, _, hb, _⟩ | ⟨g, _⟩
   ·omega
   ·omega
   ·omega
   ·have hat : z.co.at_ = z.at_ := rfl
    exact hb.clr0 (by omega)
   ·omega
  ·rcases h.at_ with ⟨g, _⟩ | ⟨g, _⟩ | ⟨g, _⟩ | ⟨k, hk', _, _, _, hb, _⟩ | ⟨g, _⟩
   ·omega
   ·omega
   ·omega
   ·have h1 := hb.hno
    have h2 : z.c.txn = gs[k].2.c.txn := hb.txn
    omega
   ·omega
  ·have := h.at_
   rcases h.at_ with ⟨g, _⟩ | ⟨g, _⟩ | ⟨g, _⟩ | ⟨k, hk', _, g, _⟩ | ⟨g, _⟩ <;> omega
 step m x tb z b z2 x2 tb2 h hs := by
  obtain ⟨K, ho, hK⟩ := h.o
  have hsl := h.sl
  have fin0 : ∀ zz : Hm, x.rs.length ≤ sumF Gp.V gs + 1 → OSet n K0 no gs w 0 x tb (zz.fin 0) := fun zz hx => ⟨⟨K, ho, by omega⟩, hx, .inr (.inr (.inr (.inr ⟨rfl, rfl⟩)))⟩
  rcases h.at_ with ⟨g, gm⟩ | ⟨g, gp, gn, gm⟩ | ⟨g, gp, ge, gm⟩ | ⟨k, hk, gw, g4, g8, gb, gm⟩ | ⟨g, ge⟩
  ·rw [if_pos (.inl (by omega))] at hsl
   cases hs with
   | find _ =>
    cases hf : x.getR no with
    | none => rw [show z.finds x no = (true, z.fin 0) by unfold Hm.finds; rw [hf]]; exact .inl ⟨rfl, fin0 z (by omega), rfl⟩
    | some r =>
     have hf2 := hf
     unfold Lg.getR at hf2
     split at hf2
     ·rename_i hin
      have hr := List.mem_of_getElem? hf2
      have hlo := ho.lo
      rw [show z.finds x no = z.found r by unfold Hm.finds; rw [hf]]
      by_cases hq : r.kind = 3 ∧ okG r.b
      ·rw [show z.found r = (false, ({ z with page := (hdP (rdG r.b).1).page } : Hm).go 3) from if_pos hq]
       have hpg : (hdP (rdG r.b).1).page = 1 := by
        rcases ho.recs r hr with ⟨_, j, hj⟩ | q
        ·rw [hj, (okG_lay (onR_wf j).may (by have := (onR_wf j).sz; omega)).2]; rfl
        ·omega
       refine .inr ⟨rfl, 12, by omega, ⟨K, ho, by omega⟩, by show x.rs.length + 1 ≤ _; omega, .inr (.inl ⟨rfl, hpg, by omega, Nat.le_refl _⟩)⟩
      ·rw [show z.found r = (true, z.fin 0) from if_neg hq]; exact .inl ⟨rfl, fin0 z (by omega), rfl⟩
     ·cases hf2
   | ask q => omega
   | bar q _ => omega
   | help q _ _ => omega
  ·rw [if_pos (.inl (by omega))] at hsl
   cases hs with
   | find q => omega
   | ask _ =>
    obtain ⟨e, he⟩ := ho.ent1
    obtain ⟨bb, hg⟩ := Tb.ent_get he
    by_cases hq : e.txn = no
    ·have q1 : z.asks tb no = (false, z.leads e) := by unfold Hm.asks; rw [gp, hg]; exact if_pos hq
     cases hw : w with
     | none => obtain ⟨⟨f, f1, f2, _⟩, _⟩ := ho.free hw; rw [he] at f1; cases f1; omega
     | some k =>
      obtain ⟨hk, hwin⟩ := ho.win k hw
      have hmd : made tb (onR k) gs[k].2.c.txn gs[k].2.place (onP k) := by
       rcases hwin.ph.all (onP k) (List.mem_singleton.2 rfl) with q | ⟨f, f1, _, f2⟩
       ·exact q
       ·rw [show (onP k).page = 1 from rfl, he] at f1; cases f1; omega
      obtain ⟨f, f1, _, f3, _, f5⟩ := hmd
      rw [show (onP k).page = 1 from rfl, he] at f1
      cases f1
      obtain ⟨q2, q3⟩ := leads_bph (onR_wf k) hwin.ph.tb (z := z) gp f3 (f5 rfl)
      rw [q1]
      refine .inr ⟨rfl, 4, by omega, ⟨K, hw ▸ ho, by omega⟩, by show x.rs.length + 1 ≤ _; omega, .inr (.inr (.inr (.inl ⟨k, hk, rfl, Nat.le_refl 4, by show ¬ (4 : Nat) = 8; decide, q2, ?_⟩)))⟩
      exact Nat.le_of_eq q3
    ·have q1 : z.asks tb no = (false, (z.setC { z.c with ent := e }).go 8) := by unfold Hm.asks; rw [gp, hg]; exact if_neg hq
     rw [q1]
     exact .inr ⟨rfl, 10, by omega, ⟨K, ho, by omega⟩, by show x.rs.length + 1 ≤ _; omega, .inr (.inr (.inl ⟨rfl, gp, he, Nat.le_refl _⟩))⟩
   | bar q _ => omega
   | help q _ _ => omega
  ·rw [if_pos (.inr g)] at hsl
   cases hs with
   | find q => omega
   | ask q => omega
   | @bar _ r tb2 hsw =>
    rw [gp] at hsw
    have rest : ∀ r : Int, r ≠ 5 → tb2 = tb → (((z.bars r).1 = true ∧ OSet n K0 no gs w 0 x tb2 (z.bars r).2 ∧ (z.bars r).2.at_ = 9) ∨ ((z.bars r).1 = false ∧ ∃ m', m' < m ∧ OSet n K0 no gs w m' x tb2 (z.bars r).2)) := fun r hr ht => by
     rw [show z.bars r = (true, z.fin 0) from if_neg hr, ht]
     exact .inl ⟨rfl, fin0 z (by omega), rfl⟩
    rcases hsw with ⟨hnone, _⟩ | ⟨e0, hg, ⟨_, rfl, ht⟩ | ⟨_, hne, _⟩ | ⟨hmay, _, rfl, hsw⟩⟩
    ·rw [Tb.ent_none hnone] at ge; cases ge
    ·exact rest 1 (by decide) ht
    ·rw [Tb.ent_some hg] at ge; exact absurd (congrArg Ent.tok (Option.some.inj ge)) hne
    ·rw [show z.bars 0 = (true, z.fin 0) from if_neg (by decide)]
     have hent := hsw.ent
     have hxl : x.rs.length ≤ sumF Gp.V gs + 1 := by omega
     have h1 : tb2.ent 1 = some { z.c.ent with tok := tb.tok + 1 } := by rw [hent, if_pos rfl]
     have mk2 : ∀ {k : Nat} {a p : Int}, Mk (onP k) a p z.c.ent → Mk (onP k) a p { z.c.ent with tok := tb.tok + 1 } := fun q => ⟨mayP.tok q.may _, q.nodes, q.no, q.place⟩
     have cl2 : ∀ {k : Nat} {a p : Int}, clrd tb a p (onP k) → clrd tb2 a p (onP k) := fun {k a p} ⟨f, f1, f2, f3⟩ => by
      rw [show (onP k).page = 1 from rfl, ge] at f1; cases f1
      exact ⟨_, h1, mk2 f2, f3⟩
     refine .inl ⟨rfl, ⟨⟨K + 1, ho.other ho.lg (.inl rfl) hxl (.inr ⟨1, z.c.ent, hsw⟩) (fun q => ?_) (fun k hk hw => ?_), by omega⟩, by show x.rs.length + 0 ≤ _; omega, .inr (.inr (.inr (.inr ⟨rfl, rfl⟩)))⟩, rfl⟩
     ·obtain ⟨⟨f, f1, f2, f3⟩, _⟩ := ho.free q
      rw [ge] at f1; cases f1
      exact ⟨_, h1, f2, mayP.tok f3 _⟩
     ·obtain ⟨_, hwin⟩ := ho.win k hw
      have hall : ∀ r ∈ onR k, made tb2 (onR k) gs[k].2.c.txn gs[k].2.place r ∨ clrd tb2 gs[k].2.c.txn gs[k].2.place r := fun r hr => by
       rw [onR_mem hr]
       rcases hwin.ph.all (onP k) (List.mem_singleton.2 rfl) with ⟨f, f1, f2, f3, f4, f5⟩ | q
       ·rw [show (onP k).page = 1 from rfl, ge] at f1; cases f1
        exact .inl ⟨_, h1, mk2 f2, f3, f4, f5⟩
       ·exact .inr (cl2 q)
      exact ⟨⟨hwin.ph.hno, hall, fun q r hr => by rw [onR_mem hr]; exact q⟩, fun r hr q => by rw [onR_mem hr] at q ⊢; exact cl2 q⟩
   | help _ q _ => omega
  ·have hat : z.co.at_ = z.at_ := rfl
   have hat2 : z2.co.at_ = z2.at_ := rfl
   cases hs with
   | find q => omega
   | ask q => omega
   | bar q _ => omega
   | help _ _ hh =>
    have hc := hh.co g4
    have hx := ho.x58
    have w' := gb.step (onR_wf k) ho.lg (by omega) hc
    have hl := w'.len
    rw [hat, hat2] at hl
    have h7 := w'.ph.at_
    have h7' := gb.at_
    have hsl2 : x2.rs.length + (if z2.at_ ≤ 5 ∨ z2.at_ = 8 then 1 else 0) ≤ sumF Gp.V gs + 1 := by
     have a1 : (if z.at_ ≤ 5 ∨ z.at_ = 8 then 1 else 0) = (if z.at_ ≤ 5 then 1 else 0) := by
      by_cases q : z.at_ ≤ 5
      ·rw [if_pos q, if_pos (.inl q)]
      ·rw [if_neg q, if_neg (fun r => by omega)]
     have a2 : (if z2.at_ ≤ 5 ∨ z2.at_ = 8 then 1 else 0) = (if z2.at_ ≤ 5 then 1 else 0) := by
      by_cases q : z2.at_ ≤ 5
      ·rw [if_pos q, if_pos (.inl q)]
      ·rw [if_neg q, if_neg (fun r => by omega)]
     rw [a1] at hsl; rw [a2]; omega
    have ho2 : OInv n 1 (K + 1) x2 tb2 gs w := ho.other w'.lg (w'.xs.imp id fun ⟨r, q1, _, q2⟩ => ⟨r, q1, q2, by rw [gw]; exact nofun⟩) (by omega) hc.tb (fun q => by rw [gw] at q; cases q) (fun k' hk' hw' => by
     have e : k' = k := by rw [gw] at hw'; exact (Option.some.inj hw').symm
     subst e
     exact ⟨w'.ph.tb, w'.cl⟩)
    rcases w'.mu with h9 | hlt
    ·have h9' : z.at_ = 9 := h9
     cases hh with
     | nil _ => exact .inl ⟨rfl, ⟨⟨K, ho, by omega⟩, hsl, .inr (.inr (.inr (.inl ⟨k, hk, gw, g4, g8, gb, by rw [mu_9 h9]; exact Nat.le_refl _⟩)))⟩, h9'⟩
     | _ => exfalso; omega
    ·cases b with
     | true =>
      have h10 : z2.at_ = 9 := w'.b.1 rfl
      exact .inl ⟨rfl, ⟨⟨K + 1, ho2, by omega⟩, hsl2, .inr (.inr (.inr (.inl ⟨k, hk, gw, by omega, by omega, w'.ph, by rw [mu_9 (z := z2.co) h10]; exact Nat.le_refl _⟩)))⟩, h10⟩
     | false => exact .inr ⟨rfl, z2.co.mu x2 tb2, by omega, ⟨⟨K + 1, ho2, by omega⟩, hsl2, .inr (.inr (.inr (.inl ⟨k, hk, gw, by omega, by omega, w'.ph, Nat.le_refl _⟩)))⟩⟩
  ·rw [if_neg (by omega)] at hsl
   cases hs with
   | find q => omega
   | ask q => omega
   | bar q _ => omega
   | help _ _ hh =>
    cases hh with
    | nil _ => exact .inl ⟨rfl, ⟨⟨K, ho, by omega⟩, by rw [if_neg (by omega)]; omega, .inr (.inr (.inr (.inr ⟨g, ge⟩)))⟩, g⟩
    | _ => exfalso; omega
/-- What a Settle leaves. -/
theorem OSet.out {n K0 : Nat} {no : Int} {gs : List (Nat × Gp)} {w : Option Nat} {x : Lg} {tb : Tb} {z : Hm} (h : OSet n K0 no gs w 0 x tb z) (h9 : z.at_ = 9) : z.c.e = 0 ∧ OInv n 1 K0 x tb gs w := by
 obtain ⟨K, ho, hK⟩ := h.o
 refine ⟨?_, ho.up (by omega)⟩
 rcases h.at_ with ⟨g, _⟩ | ⟨g, _⟩ | ⟨g, _⟩ | ⟨k, hk, _, _, _, gb, _⟩ | ⟨_, g⟩
 ·omega
 ·omega
 ·omega
 ·exact (gb.fin h9).1
 ·exact g
theorem OSet.start {n K : Nat} {no : Int} {gs : List (Nat × Gp)} {w : Option Nat} {x : Lg} {tb : Tb} (h : OInv n 0 K x tb gs w) : OSet n (K + 14) no gs w 14 x tb ⟨2, cm0, 0⟩ :=
 ⟨⟨K, h.weak, Nat.le_refl _⟩, by have := h.xl; rw [if_pos (.inl (by show (2 : Nat) ≤ 5; decide))]; omega, .inl ⟨rfl, Nat.le_refl _⟩⟩
/-- How many commits of each group, and of any, the log has in the end. -/
theorem OInv.counts {n S K : Nat} {x : Lg} {tb : Tb} {gs : List (Nat × Gp)} {w : Option Nat} (h : OInv n S K x tb gs w) (h9 : ∀ (j : Nat) (hj : j < gs.length), gs[j].2.at_ = 9) : (w = none → x.rs.filter (comN 0) = []) ∧ ∀ k (hk : k < gs.length), (w = some k → gs[k].2.c.e = 0 ∧ 0 < (x.rs.filter (comN gs[k].2.c.txn)).length ∧ 0 < (x.rs.filter (comN 0)).length) ∧ (w ≠ some k → gs[k].2.c.e = 5) := by
 refine ⟨fun q => ?_, fun k hk => ⟨fun q => ?_, fun q => ?_⟩⟩
 ·rw [List.filter_eq_nil_iff]
  intro r hr hc
  have h1 := (h.free q).2 r hr
  have h2 := (of_decide_eq_true hc).1
  omega
 ·obtain ⟨_, hw⟩ := h.win k q
  have h1 := hw.ph.hno
  have hx := h.x58
  have e1 := h.lg.no
  obtain ⟨r, hr, g1, g2⟩ := hw.com (by rw [h9 k hk]; decide)
  have e : (gs[k].2.c.txn.toNat : Int) = gs[k].2.c.txn := by omega
  obtain ⟨q1, q2⟩ := okC_lay (n := gs[k].2.c.txn.toNat) (by omega) (by omega)
  have c1 : comN gs[k].2.c.txn r = true := decide_eq_true ⟨g1, by rw [g2]; exact q1, .inr (by rw [g2, q2]; exact e)⟩
  have c2 : comN 0 r = true := decide_eq_true ⟨g1, by rw [g2]; exact q1, .inl rfl⟩
  exact ⟨(hw.ph.fin (h9 k hk)).1, List.length_pos_of_mem (List.mem_filter.2 ⟨hr, c1⟩), List.length_pos_of_mem (List.mem_filter.2 ⟨hr, c2⟩)⟩
 ·rcases h.oth k hk q with g | g
  ·have := g.at_; have := h9 k hk; omega
  ·exact g.e

theorem OWin.mu {i : Nat} {x : Lg} {tb : Tb} {z : Gp} (h : OWin i x tb z) : muO z x tb ≤ 20 := by
 have h4 := h.ph.at_
 have hat : z.co.at_ = z.at_ := rfl
 have e1 : muO z x tb = z.co.mu x tb := by unfold muO; rw [if_neg (by omega), if_neg (by omega), if_neg (by omega)]
 by_cases h9 : z.at_ = 9
 ·rw [e1, mu_9 (z := z.co) h9]; exact Nat.zero_le _
 ·have h1 := h.k1 h9
  have h2 := z.co.mu_le x tb
  have h3 : z.co.c.clear.length = 1 := h1
  omega
theorem OPre.mu {i : Nat} {x : Lg} {tb : Tb} {z : Gp} (h : OPre i x z) : muO z x tb ≤ 20 := by
 rcases h.at_ with q | q | q
 ·simp [muO, q]
 ·simp only [muO, q]; simp; split <;> omega
 ·simp [muO, q]
theorem OInv.mu {n S K : Nat} {x : Lg} {tb : Tb} {gs : List (Nat × Gp)} {w : Option Nat} (h : OInv n S K x tb gs w) {i : Nat} (hi : i < gs.length) : muO gs[i].2 x tb ≤ 20 := by
 by_cases q : w = some i
 ·obtain ⟨_, hw⟩ := h.win i q; exact hw.mu
 ·rcases h.oth i hi q with g | g
  ·exact g.mu
  ·have := g.at_; simp [muO, this, Gp.co, Co.mu]
/-- The groups before any step. -/
theorem OInv.start {x : Lg} {tb0 tb : Tb} {n : Nat} {gs : List (Nat × Gp)} (hl : LgB x) (hlo : x.lo = 0) (hx : x.rs.length = 0) (hk : tb0.tok = 0) (hu : tb0.Used tb ((0 + 1 : Nat) : Int) zeroEnt) (hn : gs.length = n) (h20 : n ≤ 20) (hg : ∀ i (h : i < gs.length), ∃ ps, prs ps = onR i ∧ gs[i].2 = ⟨0, cm0, 1, ps, [], 0, []⟩) : OInv n 0 1 x tb gs none := by
 have ht := hu.tok
 have hr : x.rs = [] := List.eq_nil_of_length_eq_zero hx
 refine ⟨hn, h20, hl, hlo, fun r h => (by rw [hr] at h; cases h), by omega, Nat.zero_le _, by omega, by omega, fun i hi _ => ?_, fun _ => ⟨⟨_, (hu.ent 1).trans (if_pos rfl), rfl, ?_⟩, fun r h => (by rw [hr] at h; cases h)⟩, fun k q => by cases q⟩
 ·obtain ⟨ps, h1, h2⟩ := hg i hi
  rw [h2]
  exact .inl ⟨.inl rfl, ⟨h1, rfl, fun y hy => by cases hy⟩, fun q => absurd (show (0 : Nat) = 1 from q) (by decide), fun q => absurd (show (0 : Nat) = 3 from q) (by decide)⟩
 ·exact mayP.tok zero_may _
def OPost (l s d n t m S K : Nat) (y : Dk) (fs : List Nat) (Q : List (Nat × Gp) → Prop) (J : Imm) (L' : Chunks) : Prop := ∃ gs2 x2 tb2 w2 L2 Lt2 Ll2, L' = L2 ++ (Lt2 ++ Ll2) ∧ IsGrs J l t gs2 L2 ∧ IsT J t tb2 Lt2 ∧ IsLog J l s d n x2 y Ll2 ∧ OInv m S K x2 tb2 gs2 w2 ∧ gs2.map (·.1) = fs ∧ Q gs2

theorem txo_StepK {I : Imm} {l t s d n m S K : Nat} {w : Option Nat} {gs : List (Nat × Gp)} {x : Lg} {y : Dk} {tb : Tb} {L Lt Ll : Chunks} (hgs : IsGrs I l t gs L) (hT : IsT I t tb Lt) (hlg : IsLog I l s d n x y Ll) (hinv : OInv m S K x tb gs w) {k : Nat} (hk : k < gs.length) (hK : K + 1 < 18446744073709551616) : Spec Tryz.prog 15 [.pointer (some ⟨gs[k].1, 0, none⟩)] I (L ++ (Lt ++ Ll)) (fun v J L' => ∃ b, v = .bool b ∧ OPost l s d n t m S (K + 1) y (gs.map (·.1)) (fun _ => True) J L') := by
 obtain ⟨A, Lg, B, hL, hg, hback⟩ := hgs.at_ hk
 refine Spec.reorder (txn_Step hg hT hlg (hinv.pre hK hk)) (G := A ++ B) (by rw [hL]; exact perm_mid _ _ _ _) ?_; rintro v J L1 hJ ⟨b, z2, x2, tb2, Lg2, Lt2, Ll2, hst, rfl, rfl, hg2, hT2, hl2⟩
 obtain ⟨w2, _, hi2⟩ := hinv.step hk hst
 exact ⟨_, perm_mid A Lg2 B (Lt2 ++ Ll2), b, rfl, _, x2, tb2, w2, _, Lt2, Ll2, rfl, hback J z2 Lg2 hJ hg2, hT2, hl2, hi2, map_fst_set hk z2, trivial⟩
theorem txo_runK {I : Imm} {l t s d n m S K : Nat} {w : Option Nat} {gs : List (Nat × Gp)} {x : Lg} {y : Dk} {tb : Tb} {L Lt Ll : Chunks} (hgs : IsGrs I l t gs L) (hT : IsT I t tb Lt) (hlg : IsLog I l s d n x y Ll) (hinv : OInv m S K x tb gs w) {k : Nat} (hk : k < gs.length) (hK : K + 21 < 18446744073709551616) (h9 : ∀ (j : Nat) (h : j < gs.length), j < k → gs[j].2.at_ = 9) : Spec Tryz.prog 16 [.pointer (some ⟨gs[k].1, 0, none⟩)] I (L ++ (Lt ++ Ll)) (fun v J L' => v = .tuple #[] ∧ OPost l s d n t m S (K + 20) y (gs.map (·.1)) (fun hs => ∀ (j : Nat) (h : j < hs.length), j < k + 1 → hs[j].2.at_ = 9) J L') := by
 obtain ⟨A, Lg, B, hL, hg, hback⟩ := hgs.at_ hk
 have hmu := hinv.mu hk
 have hset : gs.set k (gs[k].1, gs[k].2) = gs := List.set_getElem_self hk
 refine Spec.reorder (txn_runGroupI hg hT hlg (OInv.ginv (n := m) (S := S) (K0 := K + 20) hk (by omega)) (m0 := 20) (by decide) ⟨w, K, by rw [hset]; exact hinv, Nat.le_refl _, hmu⟩) (G := A ++ B) (by rw [hL]; exact perm_mid _ _ _ _) ?_; rintro v J L1 hJ ⟨z2, x2, tb2, Lg2, Lt2, Ll2, rfl, rfl, hg2, hT2, hl2, ⟨w2, K2, hi2, hK2, _⟩, hz9⟩
 refine ⟨_, perm_mid A Lg2 B (Lt2 ++ Ll2), rfl, _, x2, tb2, w2, _, Lt2, Ll2, rfl, hback J z2 Lg2 hJ hg2, hT2, hl2, hi2.up (by omega), map_fst_set hk z2, fun j hj hjk => ?_⟩
 have hj' := hj
 rw [List.length_set] at hj'
 by_cases e : j = k
 ·subst e; rw [List.getElem_set_self]; exact hz9
 ·rw [List.getElem_set_ne (Ne.symm e)]; exact h9 j hj' (by omega)
theorem settle_new {J : Imm} {h l t : Nat} {no : Int} : IsHl J h l t 74 [.int .i64 no] ⟨2, cm0, 0⟩ [(h, row 74 (cmV l t (.func (.func 54) [.pointer (some ⟨h, 0, none⟩)].toArray [].toArray) (.func (.func 55) [.pointer (some ⟨h, 0, none⟩)].toArray [].toArray) cm0 (.slice none 0 0) (.slice none 0 0) (.slice none 0 0) [.int .i64 0, .int .i64 no]))] :=
 .mk (z := ⟨2, cm0, 0⟩) ⟨none, 0, rfl, Nat.le_refl _, rfl, .inl rfl⟩ (RNodes.nil _) ⟨none, 0, rfl, Nat.le_refl _, rfl, .inl rfl⟩ zero_sized
theorem txo_settle {I : Imm} {h l t s d n m K : Nat} {no : Int} {gs : List (Nat × Gp)} {w : Option Nat} {x : Lg} {y : Dk} {tb : Tb} {Lt Ll : Chunks} (hT : IsT I t tb Lt) (hlg : IsLog I l s d n x y Ll) (hinv : OInv m 0 K x tb gs w) (hK : K + 15 < 18446744073709551616) : Spec Tryz.prog 20 [.pointer (some ⟨h, 0, none⟩)] I ([(h, row 74 (cmV l t (.func (.func 54) [.pointer (some ⟨h, 0, none⟩)].toArray [].toArray) (.func (.func 55) [.pointer (some ⟨h, 0, none⟩)].toArray [].toArray) cm0 (.slice none 0 0) (.slice none 0 0) (.slice none 0 0) [.int .i64 0, .int .i64 no]))] ++ (Lt ++ Ll)) (fun v J L' => v = .tuple #[] ∧ ∃ z2 x2 tb2 Lg2 Lt2 Ll2, L' = Lg2 ++ (Lt2 ++ Ll2) ∧ IsHl J h l t 74 [.int .i64 no] z2 Lg2 ∧ IsT J t tb2 Lt2 ∧ IsLog J l s d n x2 y Ll2 ∧ z2.c.e = 0 ∧ OInv m 1 (K + 14) x2 tb2 gs w) := by
 refine (txo_runSettle (settle_new (no := no)) hT hlg (OSet.inv (n := m) (K0 := K + 14) (by omega)) (m0 := 14) (by decide) (OSet.start hinv)).mono ?_; rintro v J L - ⟨z2, x2, tb2, Lg2, Lt2, Ll2, rfl, rfl, h1, h2, h3, h4, h9⟩
 obtain ⟨h5, h6⟩ := h4.out h9
 exact ⟨rfl, z2, x2, tb2, Lg2, Lt2, Ll2, rfl, h1, h2, h3, h5, h6⟩

end Go.Hp
