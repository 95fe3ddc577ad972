import Derived.Test.YtilgaelpbgfnnaaGreatTxhE
set_option linter.unusedVariables false
set_option linter.unusedSimpArgs false
namespace Go.Hp
open Go Go.Proofs

/-- A Group behind its swap, until it ends. -/
structure GB (rs : List Pr) (T : Nat) (no pl : Int) (K m : Nat) (x : Lg) (tb : Tb) (z : Gp) : Prop where
 ph : Bph rs no pl x tb z.co
 c : PhC rs T z
 lg : LgB x
 len : x.rs.length + (if z.at_ ≤ 5 then 1 else 0) ≤ 50
 tok : tb.tok + z.co.mu x tb ≤ K
 mu : z.co.mu x tb ≤ m
theorem thoseF {rs : List Pr} {T : Nat} {z : Gp} (wf : Wf rs) (h : PhC rs T z) : thoseL z.pages 0 false = [] := those_f (by rw [h.pages]; exact wf.nn) 0
theorem Gp.like.phc {rs : List Pr} {T : Nat} {z z2 : Gp} (k : z.like z2) (h : PhC rs T z) : PhC rs T z2 := ⟨by rw [k.pages]; exact h.pages, k.tok.trans h.tok, fun y hy => by rw [k.pages]; exact h.lf y (k.left y hy)⟩
theorem Bph.clr0 {rs : List Pr} {no pl : Int} {x : Lg} {tb : Tb} {z : Co} (h : Bph rs no pl x tb z) (h9 : z.at_ ≠ 9) : 0 < z.c.clear.length := by
 obtain ⟨k, hk, hc, _⟩ := h.k h9
 rw [hc]; unfold pgs; rw [List.length_map, List.length_drop]; omega
theorem mu_9 {z : Co} {x : Lg} {tb : Tb} (h : z.at_ = 9) : z.mu x tb = 0 := by simp [Co.mu, h]
theorem GB.inv {rs : List Pr} {T : Nat} {no pl : Int} {K : Nat} (wf : Wf rs) (hK : K + 1 < 18446744073709551616) : GInv (GB rs T no pl K) where
 pre m x tb z h := by
  have hpl : z.pages.length = rs.length := by rw [← prs_len, h.c.pages]
  have h8 := wf.may.2.1
  have hpos := wf.pos
  have e1 := h.lg.no
  have hat : z.co.at_ = z.at_ := rfl
  have htx : z.c.txn = no := h.ph.txn
  have h3 := h.ph.at_
  have h4 := h.tok
  have h5 := h.len
  have h6 := h.ph.hno
  refine ⟨by omega, by omega, by omega, Gp.sz_of (by rw [h.c.pages]; exact wf), h.c.lf, fun q => by omega, fun q => h.ph.clr0 (by omega), fun q => ?_⟩
  omega
 step m x tb z b z2 x2 tb2 h hs := by
  have hat : z.co.at_ = z.at_ := rfl
  have h3 := h.ph.at_
  have h5 := h.len
  obtain ⟨hc, hlk⟩ := hs.co (by omega) (by omega) (thoseF wf h.c)
  have w := h.ph.step wf h.lg (by omega) hc
  have hat2 : z2.co.at_ = z2.at_ := rfl
  have hb := w.b
  have hl := w.len
  have ht := w.tok
  have h4 := h.tok
  have h6 := h.mu
  have hphc := hlk.phc h.c
  rcases w.mu with h9 | hlt
  ·have hb1 : b = true := by
    cases hs with
    | nil _ => rfl
    | _ => exfalso; omega
   obtain ⟨rfl, rfl, rfl⟩ : z2 = z ∧ x2 = x ∧ tb2 = tb := by
    cases hs with
    | nil _ => exact ⟨rfl, rfl, rfl⟩
    | _ => exfalso; omega
   have hm0 := mu_9 (x := x2) (tb := tb2) h9
   exact .inl ⟨hb1, ⟨h.ph, h.c, h.lg, h.len, h.tok, by omega⟩, h9⟩
  ·cases b with
   | true =>
    have h9 := hb.1 rfl
    have hm0 := mu_9 (x := x2) (tb := tb2) h9
    exact .inl ⟨rfl, ⟨w.ph, hphc, w.lg, by rw [hat, hat2] at hl; omega, by omega, by omega⟩, h9⟩
   | false => exact .inr ⟨rfl, z2.co.mu x2 tb2, by omega, ⟨w.ph, hphc, w.lg, by rw [hat, hat2] at hl; omega, by omega, Nat.le_refl _⟩⟩
/-- A page that the group has not made yet. -/
def raw (tb : Tb) (r : Pr) : Prop := ∃ e, tb.ent r.page = some e ∧ e.txn = 0 ∧ e.nodes = []
theorem raw.of {tb tb' : Tb} {r : Pr} (h : raw tb r) (he : tb'.ent r.page = tb.ent r.page) : raw tb' r := by
 obtain ⟨e, h1, h2⟩ := h; exact ⟨e, he.trans h1, h2⟩
/-- The group has not come to be. -/
structure TA (rs : List Pr) (no pl : Int) (tb : Tb) : Prop where
 hd : raw tb (hdP rs)
 tl : ∀ r ∈ rs.tail, raw tb r ∨ made tb rs no pl r
/-- A Help, when the group has not come to be. -/
structure HA (rs : List Pr) (no pl : Int) (p0 : Int) (x0 : Lg) (tb0 : Tb) (m : Nat) (x : Lg) (tb : Tb) (z : Hm) : Prop where
 x : x = x0
 tb : tb = tb0
 at_ : (z.at_ = 0 ∧ z.page = p0 ∧ 2 ≤ m) ∨ (z.at_ = 1 ∧ z.page = leadOf rs ∧ z.c.txn = no ∧ p0 ≠ leadOf rs ∧ 1 ≤ m) ∨ (z.at_ = 9 ∧ (z.c.e = 0 ∨ (z.c.e = 132 ∧ p0 ≠ leadOf rs)))
theorem HA.inv {rs : List Pr} {no pl p0 : Int} {x0 : Lg} {tb0 : Tb} (wf : Wf rs) (hno : 1 ≤ no) (hp0 : p0 ∈ pgs rs) (hA : TA rs no pl tb0) (htk : tb0.tok + 1 < 18446744073709551616) : HInv (HA rs no pl p0 x0 tb0) where
 pre m x tb z h := ⟨by rw [h.tb]; exact htk, fun q => by have := h.at_; omega, fun q => by have := h.at_; omega, by have := h.at_; omega⟩
 step m x tb z b z2 x2 tb2 h hs := by
  obtain ⟨rfl, rfl, hat⟩ := h
  rcases hat with ⟨h0, hpg, hm⟩ | ⟨h1, hpg, htx, hne, hm⟩ | ⟨h9, he⟩
  ·cases hs with
   | begin _ =>
    obtain ⟨r, hr, hrp⟩ := List.mem_map.1 hp0
    have hrd : r = hdP rs ∨ r ∈ rs.tail := by
     have hr2 := hr; rw [hdP_cons wf.pos] at hr2; exact List.mem_cons.1 hr2
    have key : raw tb r ∨ (made tb rs no pl r ∧ r ∈ rs.tail) := by
     rcases hrd with rfl | hrt
     ·exact .inl hA.hd
     ·exact (hA.tl r hrt).imp id fun h => ⟨h, hrt⟩
    rcases key with ⟨e, h2, h3, _⟩ | ⟨⟨e, h2, _, h3, h4, _⟩, hrt⟩
    ·obtain ⟨bb, hg⟩ := Tb.ent_get h2
     have e1 : z.begins tb = (true, z.fin 0) := by unfold Hm.begins; rw [hpg, ← hrp, hg]; exact if_pos h3
     rw [e1]; exact .inl ⟨rfl, ⟨rfl, rfl, .inr (.inr ⟨rfl, .inl rfl⟩)⟩, rfl⟩
    ·obtain ⟨bb, hg⟩ := Tb.ent_get h2
     have hrl := tail_ne wf hrt
     have e1 : z.begins tb = (false, ({ z with page := e.lead, c := { z.c with txn := e.txn } } : Hm).go 1) := by unfold Hm.begins; rw [hpg, ← hrp, hg]; exact (if_neg (show ¬ e.txn = 0 by omega)).trans (if_neg (show ¬ e.lead = r.page from fun q => hrl (by rw [← q, h4])))
     rw [e1]; exact .inr ⟨rfl, 1, by omega, ⟨rfl, rfl, .inr (.inl ⟨rfl, h4, h3, fun q => hrl (by rw [hrp, q]), Nat.le_refl _⟩)⟩⟩
   | _ => exfalso; omega
  ·cases hs with
   | follow _ =>
    obtain ⟨e, h2, h3, _⟩ := hA.hd
    obtain ⟨bb, hg⟩ := Tb.ent_get h2
    have e1 : z.follows tb = (true, z.fin 132) := by unfold Hm.follows; rw [hpg, show leadOf rs = (hdP rs).page from rfl, hg]; exact if_pos (show e.txn ≠ z.c.txn by omega)
    rw [e1]; exact .inl ⟨rfl, ⟨rfl, rfl, .inr (.inr ⟨rfl, .inr ⟨rfl, hne⟩⟩)⟩, rfl⟩
   | _ => exfalso; omega
  ·cases hs with
   | nil _ => exact .inl ⟨rfl, ⟨rfl, rfl, .inr (.inr ⟨h9, he⟩)⟩, h9⟩
   | _ => exfalso; omega
/-- Each page is as the group has it. -/
structure TB (rs : List Pr) (no pl : Int) (x : Lg) (tb : Tb) : Prop where
 hno : 1 ≤ no ∧ no ≤ (x.no : Int)
 all : ∀ r ∈ rs, made tb rs no pl r ∨ clrd tb no pl r
 hl : clrd tb no pl (hdP rs) → ∀ r ∈ rs, clrd tb no pl r
theorem Bph.tb {rs : List Pr} {no pl : Int} {x : Lg} {tb : Tb} {z : Co} (h : Bph rs no pl x tb z) : TB rs no pl x tb := ⟨h.hno, h.all, h.hl⟩
/-- A Help, when the group has come to be. -/
structure HB (rs : List Pr) (no pl : Int) (p0 : Int) (x0 : Lg) (tb0 : Tb) (K m : Nat) (x : Lg) (tb : Tb) (z : Hm) : Prop where
 lg : LgB x
 t : TB rs no pl x tb
 cl : ∀ r ∈ rs, clrd tb0 no pl r → clrd tb no pl r
 xno : x0.no ≤ x.no
 len : x.rs.length + (if z.at_ ≤ 5 then 1 else 0) ≤ x0.rs.length + 1
 tok : tb.tok ≤ K
 at_ : (z.at_ = 0 ∧ z.page = p0 ∧ 2 * rs.length + 6 ≤ m ∧ tb.tok + 2 * rs.length + 6 ≤ K) ∨ (z.at_ = 1 ∧ z.page = leadOf rs ∧ z.c.txn = no ∧ made tb rs no pl (hdP rs) ∧ 2 * rs.length + 5 ≤ m ∧ tb.tok + 2 * rs.length + 6 ≤ K) ∨ (4 ≤ z.at_ ∧ Bph rs no pl x tb z.co ∧ z.co.mu x tb ≤ m ∧ tb.tok + z.co.mu x tb ≤ K) ∨ (z.at_ = 9 ∧ z.c.e = 0 ∧ (∀ r ∈ rs, r.page = p0 → clrd tb no pl r))
theorem leads_bph {rs : List Pr} {no pl : Int} {x : Lg} {tb : Tb} (wf : Wf rs) (t : TB rs no pl x tb) {z : Hm} {e : Ent} (hz : z.page = leadOf rs) (h2 : e.txn = no) (h3 : e.with_ = pgs rs.tail) : Bph rs no pl x tb (z.leads e).co ∧ (z.leads e).co.mu x tb = 2 * rs.length + 2 := by
 have hc : e.with_ ++ [z.page] = pgs (rotL rs) := by rw [rotL_pgs, h3, hz]; rfl
 have hrl := rotL_len wf.pos
 have hpos := wf.pos
 refine ⟨⟨.inl rfl, t.hno, h2, t.all, t.hl, fun _ => ⟨0, by omega, hc, fun r hr => (by cases hr), fun _ => rfl, fun q => absurd (show (4 : Nat) = 7 from q) (by decide)⟩, fun q => absurd (show (4 : Nat) = 9 from q) (by decide)⟩, ?_⟩
 show 2 * (e.with_ ++ [z.page]).length + 2 = _
 rw [hc]; unfold pgs; rw [List.length_map, hrl]
theorem HB.inv {rs : List Pr} {no pl p0 : Int} {x0 : Lg} {tb0 : Tb} {K : Nat} (wf : Wf rs) (hp0 : p0 ∈ pgs rs) (hK : K + 1 < 18446744073709551616) (hx0 : x0.rs.length < 50) : HInv (HB rs no pl p0 x0 tb0 K) where
 pre m x tb z h := by
  have e1 := h.lg.no
  have h5 := h.len
  have h6 := h.t.hno
  have h9 := h.tok
  rcases h.at_ with ⟨h0, _, _, h3⟩ | ⟨h0, _, _, _, _, h3⟩ | ⟨h0, hb, _, h3⟩ | ⟨h0, _⟩
  ·exact ⟨by omega, fun q => by omega, fun q => by omega, by omega⟩
  ·exact ⟨by omega, fun q => by omega, fun q => by omega, by omega⟩
  ·have hat : z.co.at_ = z.at_ := rfl
   have h7 := hb.at_
   have h8 : z.c.txn = no := hb.txn
   exact ⟨by omega, fun q => hb.clr0 (by omega), fun q => by omega, by omega⟩
  ·exact ⟨by omega, fun q => by omega, fun q => by omega, by omega⟩
 step m x tb z b z2 x2 tb2 h hs := by
  have e1 := h.lg.no
  have h5 := h.len
  have h6 := h.t.hno
  have h9 := h.tok
  have hpos := wf.pos
  rcases h.at_ with ⟨h0, hpg, h2, h3⟩ | ⟨h0, hpg, htx, hmd, h2, h3⟩ | ⟨h0, hb, h2, h3⟩ | ⟨h0, he, hcl⟩
  ·cases hs with
   | begin _ =>
    obtain ⟨r, hr, hrp⟩ := List.mem_map.1 hp0
    have hat5 : z.at_ ≤ 5 := by omega
    rw [if_pos hat5] at h5
    rcases h.t.all r hr with ⟨e, g1, g2, g3, g4, g5⟩ | hcd
    ·obtain ⟨bb, hg⟩ := Tb.ent_get g1
     by_cases hl : r.page = leadOf rs
     ·have q1 : z.begins tb = (false, z.leads e) := by unfold Hm.begins; rw [hpg, ← hrp, hg]; exact (if_neg (show ¬ e.txn = 0 by omega)).trans (if_pos (show e.lead = r.page by rw [g4, hl]))
      obtain ⟨q2, q3⟩ := leads_bph wf h.t (z := z) (by rw [hpg, ← hrp, hl]) g3 (g5 hl)
      rw [q1]
      exact .inr ⟨rfl, 2 * rs.length + 2, by omega, ⟨h.lg, h.t, h.cl, h.xno, by show x.rs.length + 1 ≤ _; omega, h9, .inr (.inr (.inl ⟨Nat.le_refl 4, q2, Nat.le_of_eq q3, by show tb.tok + (z.leads e).co.mu x tb ≤ K; omega⟩))⟩⟩
     ·have q1 : z.begins tb = (false, ({ z with page := e.lead, c := { z.c with txn := e.txn } } : Hm).go 1) := by unfold Hm.begins; rw [hpg, ← hrp, hg]; exact (if_neg (show ¬ e.txn = 0 by omega)).trans (if_neg (show ¬ e.lead = r.page from fun q => hl (by rw [← q, g4])))
      have hmd : made tb rs no pl (hdP rs) := (h.t.all _ (hd_mem wf)).resolve_right fun q => made_clrd ⟨e, g1, g2, g3, g4, g5⟩ (h.t.hl q r hr) h6.1
      rw [q1]
      exact .inr ⟨rfl, 2 * rs.length + 5, by omega, ⟨h.lg, h.t, h.cl, h.xno, by show x.rs.length + 1 ≤ _; omega, h9, .inr (.inl ⟨rfl, g4, g3, hmd, Nat.le_refl _, h3⟩)⟩⟩
    ·obtain ⟨e, g1, g2, g3⟩ := id hcd
     obtain ⟨bb, hg⟩ := Tb.ent_get g1
     have q1 : z.begins tb = (true, z.fin 0) := by unfold Hm.begins; rw [hpg, ← hrp, hg]; exact if_pos g3
     rw [q1]
     exact .inl ⟨rfl, ⟨h.lg, h.t, h.cl, h.xno, by show x.rs.length + 0 ≤ _; omega, h9, .inr (.inr (.inr ⟨rfl, rfl, fun r' hr' hp' => by rw [nd_inj wf.nd hr' hr (hp'.trans hrp.symm)]; exact hcd⟩))⟩, rfl⟩
   | _ => exfalso; omega
  ·cases hs with
   | follow _ =>
    have hat5 : z.at_ ≤ 5 := by omega
    rw [if_pos hat5] at h5
    obtain ⟨e, g1, g2, g3, g4, g5⟩ := hmd
    obtain ⟨bb, hg⟩ := Tb.ent_get g1
    have q1 : z.follows tb = (false, z.leads e) := by unfold Hm.follows; rw [hpg, show leadOf rs = (hdP rs).page from rfl, hg]; exact if_neg (fun q => q (show e.txn = z.c.txn by omega))
    obtain ⟨q2, q3⟩ := leads_bph wf h.t (z := z) hpg g3 (g5 rfl)
    rw [q1]
    exact .inr ⟨rfl, 2 * rs.length + 2, by omega, ⟨h.lg, h.t, h.cl, h.xno, by show x.rs.length + 1 ≤ _; omega, h9, .inr (.inr (.inl ⟨Nat.le_refl 4, q2, Nat.le_of_eq q3, by show tb.tok + (z.leads e).co.mu x tb ≤ K; omega⟩))⟩⟩
   | _ => exfalso; omega
  ·have hc := hs.co h0
   have w := hb.step wf h.lg (by omega) hc
   have hat : z.co.at_ = z.at_ := rfl
   have hat2 : z2.co.at_ = z2.at_ := rfl
   have hl := w.len
   rw [hat, hat2] at hl
   have ht := w.tok
   have hx := w.xno
   have h7 := w.ph.at_
   have hx0' := h.xno
   have hcl2 : ∀ r ∈ rs, clrd tb0 no pl r → clrd tb2 no pl r := fun r hr q => w.cl r hr (h.cl r hr q)
   rcases w.mu with h9' | hlt
   ·have hm0 := mu_9 (x := x) (tb := tb) h9'
    cases hs with
    | nil _ => exact .inl ⟨rfl, ⟨h.lg, h.t, h.cl, h.xno, h.len, h9, .inr (.inr (.inl ⟨h0, hb, by omega, h3⟩))⟩, h9'⟩
    | _ => exfalso; omega
   ·cases b with
    | true =>
     have h10 := w.b.1 rfl
     have hm0 := mu_9 (x := x2) (tb := tb2) h10
     exact .inl ⟨rfl, ⟨w.lg, w.ph.tb, hcl2, by omega, by omega, by omega, .inr (.inr (.inl ⟨by omega, w.ph, by omega, by omega⟩))⟩, h10⟩
    | false => exact .inr ⟨rfl, z2.co.mu x2 tb2, by omega, ⟨w.lg, w.ph.tb, hcl2, by omega, by omega, by omega, .inr (.inr (.inl ⟨by omega, w.ph, Nat.le_refl _, by omega⟩))⟩⟩
  ·cases hs with
   | nil _ => exact .inl ⟨rfl, ⟨h.lg, h.t, h.cl, h.xno, h.len, h9, .inr (.inr (.inr ⟨h0, he, hcl⟩))⟩, h0⟩
   | _ => exfalso; omega

end Go.Hp
