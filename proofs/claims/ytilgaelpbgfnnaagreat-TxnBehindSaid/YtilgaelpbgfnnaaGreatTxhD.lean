import Derived.Test.YtilgaelpbgfnnaaGreatTxhC
set_option linter.unusedVariables false
set_option linter.unusedSimpArgs false
namespace Go.Hp
open Go Go.Proofs

structure Co where
 at_ : Nat
 c : Cm
def Co.past (c : Cm) : Bool × Co := if c.clear.tail = [] then (true, ⟨9, { c with clear := [], e := 0 }⟩) else (false, ⟨6, { c with clear := c.clear.tail }⟩)
def Co.looks (tb : Tb) (c : Cm) : Bool × Co := match tb.get (c.clear.headD 0) with
 | none => Co.past c
 | some e => if e.2.txn ≠ c.txn then Co.past c else (false, ⟨7, { c with ent := e.2 }⟩)
def Co.clears (c : Cm) (r : Int) : Bool × Co := if r = 5 then (false, ⟨6, c⟩) else Co.past c
def Co.commits (c : Cm) (e : Int) : Bool × Co := if e = 0 then (false, ⟨6, c⟩) else if e = 5 then (false, ⟨4, c⟩) else (true, ⟨9, { c with e := e }⟩)
inductive CSt (x : Lg) (tb : Tb) (z : Co) : Bool → Co → Lg → Tb → Prop
 | take (h : z.at_ = 4) : CSt x tb z false ⟨5, { z.c with hn := x.no, hp := x.pl }⟩ x tb
 | commit (h : z.at_ = 5) {e : Int} {x2 : Lg} (he : e = x.apE z.c.hn z.c.hp 4 (numB z.c.txn.toNat)) (ha : ApK x 4 (numB z.c.txn.toNat) e x2) : CSt x tb z (Co.commits z.c e).1 (Co.commits z.c e).2 x2 tb
 | look (h : z.at_ = 6) : CSt x tb z (Co.looks tb z.c).1 (Co.looks tb z.c).2 x tb
 | clear (h : z.at_ = 7) (h0 : 0 < z.c.clear.length) {r : Int} {tb2 : Tb} (hs : SwR tb (z.c.clear[0]'h0) z.c.ent.tok z.c.ent.clr r tb2) : CSt x tb z (Co.clears z.c r).1 (Co.clears z.c r).2 x tb2
 | nil (h : 9 ≤ z.at_) : CSt x tb z true z x tb
def Hm.co (z : Hm) : Co := ⟨z.at_, z.c⟩
def Gp.co (z : Gp) : Co := ⟨z.at_, z.c⟩
theorem Hm.past_co (z : Hm) : z.past.1 = (Co.past z.c).1 ∧ z.past.2.co = (Co.past z.c).2 := by unfold Hm.past Co.past; split <;> exact ⟨rfl, rfl⟩
theorem Hm.commits_co (z : Hm) (e : Int) : (z.commits e).1 = (Co.commits z.c e).1 ∧ (z.commits e).2.co = (Co.commits z.c e).2 := by
 unfold Hm.commits Co.commits; split
 ·exact ⟨rfl, rfl⟩
 ·split <;> exact ⟨rfl, rfl⟩
theorem Hm.clears_co (z : Hm) (r : Int) (h : z.at_ = 7) : (z.clears r).1 = (Co.clears z.c r).1 ∧ (z.clears r).2.co = (Co.clears z.c r).2 := by
 unfold Hm.clears Co.clears; split
 ·exact ⟨rfl, rfl⟩
 ·exact z.past_co
theorem Hm.looks_co (z : Hm) (tb : Tb) : (z.looks tb).1 = (Co.looks tb z.c).1 ∧ (z.looks tb).2.co = (Co.looks tb z.c).2 := by
 unfold Hm.looks Co.looks
 cases tb.get (z.c.clear.headD 0) with
 | none => exact z.past_co
 | some e => dsimp only; split; exact z.past_co; exact ⟨rfl, rfl⟩
theorem HSt.co {x x2 : Lg} {tb tb2 : Tb} {z z2 : Hm} {b : Bool} (h : HSt x tb z b z2 x2 tb2) (h4 : 4 ≤ z.at_) : CSt x tb z.co b z2.co x2 tb2 := by
 cases h with
 | begin h => omega
 | follow h => omega
 | take h => exact .take h
 | @commit h e _ he ha => rw [(z.commits_co e).1, (z.commits_co e).2]; exact .commit (z := z.co) h he ha
 | look h => rw [(z.looks_co tb).1, (z.looks_co tb).2]; exact .look (z := z.co) h
 | @clear h h0 r _ hs => rw [(z.clears_co r h).1, (z.clears_co r h).2]; exact .clear (z := z.co) h h0 hs
 | nil h => exact .nil h
/-- What stays of a Group. -/
structure Gp.like (z z2 : Gp) : Prop where
 pages : z2.pages = z.pages
 tok : z2.tok = z.tok
 place : z2.place = z.place
 left : ∀ y ∈ z2.left, y ∈ z.left
theorem Gp.like.refl (z : Gp) : z.like z := ⟨rfl, rfl, rfl, fun _ h => h⟩
theorem Gp.past_co {z : Gp} (hn : thoseL z.pages 0 false = []) : z.past.1 = (Co.past z.c).1 ∧ z.past.2.co = (Co.past z.c).2 ∧ z.like z.past.2 := by
 unfold Gp.past Co.past; split
 ·have e : (z.setC { z.c with clear := [] }).cleared = (true, ((z.setC { z.c with clear := [] }).setL []).fin 0) := if_pos hn
  rw [e]; exact ⟨rfl, rfl, rfl, rfl, rfl, fun y h => by cases h⟩
 ·exact ⟨rfl, rfl, rfl, rfl, rfl, fun y h => h⟩
theorem Gp.commits_co (z : Gp) (e : Int) : (z.commits e).1 = (Co.commits z.c e).1 ∧ (z.commits e).2.co = (Co.commits z.c e).2 ∧ z.like (z.commits e).2 := by
 unfold Gp.commits Co.commits; split
 ·exact ⟨rfl, rfl, rfl, rfl, rfl, fun y h => h⟩
 ·split <;> exact ⟨rfl, rfl, rfl, rfl, rfl, fun y h => h⟩
theorem Gp.clears_co {z : Gp} (hn : thoseL z.pages 0 false = []) (r : Int) : (z.clears r).1 = (Co.clears z.c r).1 ∧ (z.clears r).2.co = (Co.clears z.c r).2 ∧ z.like (z.clears r).2 := by
 unfold Gp.clears Co.clears; split
 ·exact ⟨rfl, rfl, rfl, rfl, rfl, fun y h => h⟩
 ·exact Gp.past_co hn
theorem Gp.looks_co {z : Gp} (hn : thoseL z.pages 0 false = []) (tb : Tb) : (z.looks tb).1 = (Co.looks tb z.c).1 ∧ (z.looks tb).2.co = (Co.looks tb z.c).2 ∧ z.like (z.looks tb).2 := by
 unfold Gp.looks Co.looks
 cases tb.get (z.c.clear.headD 0) with
 | none => exact Gp.past_co hn
 | some e => dsimp only; split; exact Gp.past_co hn; exact ⟨rfl, rfl, rfl, rfl, rfl, fun y h => h⟩
theorem Stp.co {x x2 : Lg} {tb tb2 : Tb} {z z2 : Gp} {b : Bool} (h : Stp x tb z b z2 x2 tb2) (h4 : 4 ≤ z.at_) (h8 : z.at_ ≠ 8) (hn : thoseL z.pages 0 false = []) : CSt x tb z.co b z2.co x2 tb2 ∧ z.like z2 := by
 cases h with
 | begin h => omega
 | append h => omega
 | put h => omega
 | swap h => omega
 | take h => exact ⟨.take h, rfl, rfl, rfl, fun y h => h⟩
 | @commit h e _ he ha => obtain ⟨h1, h2, h3⟩ := z.commits_co e; rw [h1, h2]; exact ⟨.commit (z := z.co) h he ha, h3⟩
 | look h => obtain ⟨h1, h2, h3⟩ := Gp.looks_co hn tb; rw [h1, h2]; exact ⟨.look (z := z.co) h, h3⟩
 | @clear h h0 r _ hs => obtain ⟨h1, h2, h3⟩ := Gp.clears_co hn r; rw [h1, h2]; exact ⟨.clear (z := z.co) h h0 hs, h3⟩
 | free h => omega
 | nil h => exact ⟨.nil h, .refl _⟩
/-- A group has come to be: each of its pages is as it has it, and some are cleared. -/
structure Bph (rs : List Pr) (no pl : Int) (x : Lg) (tb : Tb) (z : Co) : Prop where
 at_ : z.at_ = 4 ∨ z.at_ = 5 ∨ z.at_ = 6 ∨ z.at_ = 7 ∨ z.at_ = 9
 hno : 1 ≤ no ∧ no ≤ (x.no : Int)
 txn : z.c.txn = no
 all : ∀ r ∈ rs, made tb rs no pl r ∨ clrd tb no pl r
 hl : clrd tb no pl (hdP rs) → ∀ r ∈ rs, clrd tb no pl r
 k : z.at_ ≠ 9 → ∃ k, ∃ hk : k < (rotL rs).length, z.c.clear = pgs ((rotL rs).drop k) ∧ (∀ r ∈ (rotL rs).take k, clrd tb no pl r) ∧ (z.at_ ≤ 5 → k = 0) ∧ (z.at_ = 7 → Mk ((rotL rs)[k]'hk) no pl z.c.ent)
 fin : z.at_ = 9 → z.c.e = 0 ∧ ∀ r ∈ rs, clrd tb no pl r
theorem Bph.stay {rs : List Pr} {no pl : Int} {x x' : Lg} {tb tb' : Tb} {z : Co} (h : Bph rs no pl x tb z) (wf : Wf rs) (hx : x.no ≤ x'.no) (all : ∀ r ∈ rs, made tb' rs no pl r ∨ clrd tb' no pl r) (hl : clrd tb' no pl (hdP rs) → ∀ r ∈ rs, clrd tb' no pl r) (cl : ∀ r ∈ rs, clrd tb no pl r → clrd tb' no pl r) : Bph rs no pl x' tb' z :=
 ⟨h.at_, ⟨h.hno.1, by have := h.hno.2; omega⟩, h.txn, all, hl, fun h9 => by
  obtain ⟨k, hk, h1, h2, h3, h4⟩ := h.k h9
  exact ⟨k, hk, h1, fun r hr => cl r ((rotL_mem wf.pos r).1 (List.mem_of_mem_take hr)) (h2 r hr), h3, h4⟩, fun h9 => ⟨(h.fin h9).1, fun r hr => cl r hr ((h.fin h9).2 r hr)⟩⟩
theorem made_clrd {tb : Tb} {rs : List Pr} {no pl : Int} {r : Pr} (h : made tb rs no pl r) (k : clrd tb no pl r) (h1 : 1 ≤ no) : False := by
 obtain ⟨e, h2, _, h3, _⟩ := h
 obtain ⟨f, k2, _, k3⟩ := k
 rw [h2] at k2; cases k2; omega
theorem hd_drop {rs : List Pr} {k : Nat} (hk : k < (rotL rs).length) : hdP rs ∈ (rotL rs).drop k := by
 unfold rotL at hk ⊢
 rw [List.length_append, List.length_singleton] at hk
 rw [List.drop_append_of_le_length (by omega)]
 exact List.mem_append_right _ (List.mem_singleton.2 rfl)
theorem Ph.bph {rs : List Pr} {T : Nat} {x : Lg} {tb : Tb} {z : Gp} (hp : Ph rs T x tb z) (wf : Wf rs) (h : 4 ≤ z.at_) : Bph rs z.c.txn z.place x tb z.co := by
 have hrl := rotL_len wf.pos
 have hpos := wf.pos
 have hd : hdP rs ∈ rs := hd_mem wf
 cases hp with
 | c0 h1 => omega
 | c1 h1 => omega
 | c2 h1 => omega
 | c3 h1 => omega
 | c4 h1 hn hc hm => exact ⟨(by have h2 : z.co.at_ = z.at_ := rfl; omega), hn, rfl, fun r hr => .inl (hm r hr), fun q => (made_clrd (hm _ hd) q hn.1).elim, fun _ => ⟨0, by omega, hc, fun r hr => (by cases hr), fun _ => rfl, fun q => by have : z.at_ = 7 := q; omega⟩, fun q => by have : z.at_ = 9 := q; omega⟩
 | c6 h1 hn k hk hc hcl hm he =>
  refine ⟨(by have h2 : z.co.at_ = z.at_ := rfl; omega), hn, rfl, fun r hr => ?_, fun q => (made_clrd (hm _ (hd_drop hk)) q hn.1).elim, fun _ => ⟨k, hk, hc, hcl, fun q => by have : z.at_ ≤ 5 := q; omega, fun q => ?_⟩, fun q => by have : z.at_ = 9 := q; omega⟩
  ·have hr2 := (rotL_mem wf.pos r).2 hr
   rw [← List.take_append_drop k (rotL rs)] at hr2
   rcases List.mem_append.1 hr2 with h2 | h2
   ·exact .inr (hcl r h2)
   ·exact .inl (hm r h2)
  ·have e1 : z.c.clear.headD 0 = ((rotL rs)[k]'hk).page := by rw [hc, List.drop_eq_getElem_cons hk]; rfl
   have e2 := he q
   rw [e1] at e2
   obtain ⟨e, h2, h3, _⟩ := hm ((rotL rs)[k]'hk) (by rw [List.drop_eq_getElem_cons hk]; exact List.mem_cons_self)
   rw [e2] at h2; cases h2; exact h3
 | c9 h1 hn he hcl => exact ⟨(by have h2 : z.co.at_ = z.at_ := rfl; omega), hn, rfl, fun r hr => .inr (hcl r hr), fun _ => hcl, fun q => absurd h1 q, fun _ => ⟨he, hcl⟩⟩
/-- Steps that are left, when it is stepped alone. -/
def Co.mu (z : Co) (x : Lg) (tb : Tb) : Nat :=
 if z.at_ = 4 then 2 * z.c.clear.length + 2 else if z.at_ = 5 then (if z.c.hn = x.no ∧ z.c.hp = x.pl then 2 * z.c.clear.length + 1 else 2 * z.c.clear.length + 3) else if z.at_ = 6 then 2 * z.c.clear.length
 else if z.at_ = 7 then (if (tb.ent (z.c.clear.headD 0)).map (·.tok) = some z.c.ent.tok then 2 * z.c.clear.length - 1 else 2 * z.c.clear.length + 1) else 0
theorem Co.mu_le (z : Co) (x : Lg) (tb : Tb) : z.mu x tb ≤ 2 * z.c.clear.length + 3 := by unfold Co.mu; (repeat' split) <;> omega
structure BWent (rs : List Pr) (no pl : Int) (x : Lg) (tb : Tb) (z : Co) (b : Bool) (z2 : Co) (x2 : Lg) (tb2 : Tb) : Prop where
 ph : Bph rs no pl x2 tb2 z2
 lg : LgB x2
 xs : x2 = x ∨ ∃ r : Rc, r.kind = 4 ∧ r.b = numB no.toNat ∧ x2 = x.push r
 len : x2.rs.length + (if z2.at_ ≤ 5 then 1 else 0) ≤ x.rs.length + (if z.at_ ≤ 5 then 1 else 0)
 xno : x.no ≤ x2.no
 ent : ∀ k, k ∉ pgs rs → tb2.ent k = tb.ent k
 cl : ∀ r ∈ rs, clrd tb no pl r → clrd tb2 no pl r
 tok : tb2.tok ≤ tb.tok + 1
 b : b = true ↔ z2.at_ = 9
 clr : z2.c.clear.length ≤ z.c.clear.length
 mu : z.at_ = 9 ∨ z2.mu x2 tb2 < z.mu x tb
section
variable {rs : List Pr} {no pl : Int} {x : Lg} {tb : Tb} {z : Co}
theorem Co.past_clr (c : Cm) : (Co.past c).2.c.clear.length ≤ c.clear.length := by unfold Co.past; split; exact Nat.zero_le _; show c.clear.tail.length ≤ _; rw [List.length_tail]; omega
theorem Co.past_at (c : Cm) : (Co.past c).1 = true ↔ (Co.past c).2.at_ = 9 := by unfold Co.past; split; exact ⟨fun _ => rfl, fun _ => rfl⟩; exact ⟨fun h => (by cases h), fun h => absurd (show (6 : Nat) = 9 from h) (by decide)⟩
theorem Bph.pastP (wf : Wf rs) {c : Cm} {k : Nat} (hk : k < (rotL rs).length) (hc : c.clear = pgs ((rotL rs).drop k)) (hn : 1 ≤ no ∧ no ≤ (x.no : Int)) (ht : c.txn = no) (all : ∀ r ∈ rs, made tb rs no pl r ∨ clrd tb no pl r) (hl : clrd tb no pl (hdP rs) → ∀ r ∈ rs, clrd tb no pl r) (hcl : ∀ r ∈ (rotL rs).take (k + 1), clrd tb no pl r) : Bph rs no pl x tb (Co.past c).2 ∧ (Co.past c).2.mu x tb < 2 * c.clear.length - 1 := by
 have hcl0 : c.clear.length = (rotL rs).length - k := by rw [hc]; unfold pgs; rw [List.length_map, List.length_drop]
 have htl : c.clear.tail = pgs ((rotL rs).drop (k + 1)) := by rw [hc]; unfold pgs; rw [List.map_drop, List.map_drop, List.tail_drop]
 have htl2 : c.clear.tail.length = (rotL rs).length - (k + 1) := by rw [htl]; unfold pgs; rw [List.length_map, List.length_drop]
 unfold Co.past
 by_cases h0 : c.clear.tail = []
 ·rw [if_pos h0]
  rw [h0] at htl2
  have hk1 : k + 1 = (rotL rs).length := by simp at htl2; omega
  rw [hk1, List.take_length] at hcl
  have hall : ∀ r ∈ rs, clrd tb no pl r := fun r hr => hcl r ((rotL_mem wf.pos r).2 hr)
  exact ⟨⟨.inr (.inr (.inr (.inr rfl))), hn, ht, all, hl, fun q => absurd rfl q, fun _ => ⟨rfl, hall⟩⟩, by show (Co.mu ⟨9, _⟩ x tb) < _; simp only [Co.mu]; simp; omega⟩
 ·rw [if_neg h0]
  have hlp := List.length_pos_iff.2 h0
  exact ⟨⟨.inr (.inr (.inl rfl)), hn, ht, all, hl, fun _ => ⟨k + 1, by omega, htl, hcl, fun q => absurd (show (6 : Nat) ≤ 5 from q) (by decide), fun q => absurd (show (6 : Nat) = 7 from q) (by decide)⟩, fun q => absurd (show (6 : Nat) = 9 from q) (by decide)⟩, by show (Co.mu ⟨6, _⟩ x tb) < _; simp only [Co.mu]; simp; omega⟩
end

end Go.Hp
