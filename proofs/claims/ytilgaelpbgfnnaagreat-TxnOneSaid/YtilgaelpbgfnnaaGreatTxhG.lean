import Derived.Test.YtilgaelpbgfnnaaGreatTxhC
import Derived.Test.YtilgaelpbgfnnaaGreatRdF
set_option linter.unusedVariables false
set_option linter.unusedSimpArgs false
namespace Go.Hp
open Go Go.Proofs

structure Co where
 at_ : Nat
 c : Cm
def Co.past (c : Cm) : Bool × Co := if c.clear.tail = [] then (true, ⟨9, { c with clear := [], e := 0 }⟩) else (false, ⟨6, { c with clear := c.clear.tail }⟩)
def Co.looks (tb : Tb) (c : Cm) : Bool × Co := match tb.get (c.clear.headD 0) with
 | none => Co.past c
 | some e => if e.2.txn ≠ c.txn then Co.past c else (false, ⟨7, { c with ent := e.2 }⟩)
def Co.clears (c : Cm) (r : Int) : Bool × Co := if r = 5 then (false, ⟨6, c⟩) else Co.past c
def Co.commits (c : Cm) (e : Int) : Bool × Co := if e = 0 then (false, ⟨6, c⟩) else if e = 5 then (false, ⟨4, c⟩) else (true, ⟨9, { c with e := e }⟩)
inductive CSt (x : Lg) (tb : Tb) (z : Co) : Bool → Co → Lg → Tb → Prop
 | take (h : z.at_ = 4) : CSt x tb z false ⟨5, { z.c with hn := x.no, hp := x.pl }⟩ x tb
 | commit (h : z.at_ = 5) {e : Int} {x2 : Lg} (he : e = x.apE z.c.hn z.c.hp 4 (numB z.c.txn.toNat)) (ha : ApK x 4 (numB z.c.txn.toNat) e x2) : CSt x tb z (Co.commits z.c e).1 (Co.commits z.c e).2 x2 tb
 | look (h : z.at_ = 6) : CSt x tb z (Co.looks tb z.c).1 (Co.looks tb z.c).2 x tb
 | clear (h : z.at_ = 7) (h0 : 0 < z.c.clear.length) {r : Int} {tb2 : Tb} (hs : SwR tb (z.c.clear[0]'h0) z.c.ent.tok z.c.ent.clr r tb2) : CSt x tb z (Co.clears z.c r).1 (Co.clears z.c r).2 x tb2
 | nil (h : 9 ≤ z.at_) : CSt x tb z true z x tb
def Hm.co (z : Hm) : Co := ⟨z.at_, z.c⟩
def Gp.co (z : Gp) : Co := ⟨z.at_, z.c⟩
theorem Hm.past_co (z : Hm) : z.past.1 = (Co.past z.c).1 ∧ z.past.2.co = (Co.past z.c).2 := by unfold Hm.past Co.past; split <;> exact ⟨rfl, rfl⟩
theorem Hm.commits_co (z : Hm) (e : Int) : (z.commits e).1 = (Co.commits z.c e).1 ∧ (z.commits e).2.co = (Co.commits z.c e).2 := by
 unfold Hm.commits Co.commits; split
 ·exact ⟨rfl, rfl⟩
 ·split <;> exact ⟨rfl, rfl⟩
theorem Hm.clears_co (z : Hm) (r : Int) (h : z.at_ = 7) : (z.clears r).1 = (Co.clears z.c r).1 ∧ (z.clears r).2.co = (Co.clears z.c r).2 := by
 unfold Hm.clears Co.clears; split
 ·exact ⟨rfl, rfl⟩
 ·exact z.past_co
theorem Hm.looks_co (z : Hm) (tb : Tb) : (z.looks tb).1 = (Co.looks tb z.c).1 ∧ (z.looks tb).2.co = (Co.looks tb z.c).2 := by
 unfold Hm.looks Co.looks
 cases tb.get (z.c.clear.headD 0) with
 | none => exact z.past_co
 | some e => dsimp only; split; exact z.past_co; exact ⟨rfl, rfl⟩
theorem HSt.co {x x2 : Lg} {tb tb2 : Tb} {z z2 : Hm} {b : Bool} (h : HSt x tb z b z2 x2 tb2) (h4 : 4 ≤ z.at_) : CSt x tb z.co b z2.co x2 tb2 := by
 cases h with
 | begin h => omega
 | follow h => omega
 | take h => exact .take h
 | @commit h e _ he ha => rw [(z.commits_co e).1, (z.commits_co e).2]; exact .commit (z := z.co) h he ha
 | look h => rw [(z.looks_co tb).1, (z.looks_co tb).2]; exact .look (z := z.co) h
 | @clear h h0 r _ hs => rw [(z.clears_co r h).1, (z.clears_co r h).2]; exact .clear (z := z.co) h h0 hs
 | nil h => exact .nil h
/-- What stays of a Group. -/
structure Gp.like (z z2 : Gp) : Prop where
 pages : z2.pages = z.pages
 tok : z2.tok = z.tok
 place : z2.place = z.place
 left : ∀ y ∈ z2.left, y ∈ z.left
theorem Gp.like.refl (z : Gp) : z.like z := ⟨rfl, rfl, rfl, fun _ h => h⟩
theorem Gp.past_co {z : Gp} (hn : thoseL z.pages 0 false = []) : z.past.1 = (Co.past z.c).1 ∧ z.past.2.co = (Co.past z.c).2 ∧ z.like z.past.2 := by
 unfold Gp.past Co.past; split
 ·have e : (z.setC { z.c with clear := [] }).cleared = (true, ((z.setC { z.c with clear := [] }).setL []).fin 0) := if_pos hn
  rw [e]; exact ⟨rfl, rfl, rfl, rfl, rfl, fun y h => by cases h⟩
 ·exact ⟨rfl, rfl, rfl, rfl, rfl, fun y h => h⟩
theorem Gp.commits_co (z : Gp) (e : Int) : (z.commits e).1 = (Co.commits z.c e).1 ∧ (z.commits e).2.co = (Co.commits z.c e).2 ∧ z.like (z.commits e).2 := by
 unfold Gp.commits Co.commits; split
 ·exact ⟨rfl, rfl, rfl, rfl, rfl, fun y h => h⟩
 ·split <;> exact ⟨rfl, rfl, rfl, rfl, rfl, fun y h => h⟩
theorem Gp.clears_co {z : Gp} (hn : thoseL z.pages 0 false = []) (r : Int) : (z.clears r).1 = (Co.clears z.c r).1 ∧ (z.clears r).2.co = (Co.clears z.c r).2 ∧ z.like (z.clears r).2 := by
 unfold Gp.clears Co.clears; split
 ·exact ⟨rfl, rfl, rfl, rfl, rfl, fun y h => h⟩
 ·exact Gp.past_co hn
theorem Gp.looks_co {z : Gp} (hn : thoseL z.pages 0 false = []) (tb : Tb) : (z.looks tb).1 = (Co.looks tb z.c).1 ∧ (z.looks tb).2.co = (Co.looks tb z.c).2 ∧ z.like (z.looks tb).2 := by
 unfold Gp.looks Co.looks
 cases tb.get (z.c.clear.headD 0) with
 | none => exact Gp.past_co hn
 | some e => dsimp only; split; exact Gp.past_co hn; exact ⟨rfl, rfl, rfl, rfl, rfl, fun y h => h⟩
theorem Stp.co {x x2 : Lg} {tb tb2 : Tb} {z z2 : Gp} {b : Bool} (h : Stp x tb z b z2 x2 tb2) (h4 : 4 ≤ z.at_) (h8 : z.at_ ≠ 8) (hn : thoseL z.pages 0 false = []) : CSt x tb z.co b z2.co x2 tb2 ∧ z.like z2 := by
 cases h with
 | begin h => omega
 | append h => omega
 | put h => omega
 | swap h => omega
 | take h => exact ⟨.take h, rfl, rfl, rfl, fun y h => h⟩
 | @commit h e _ he ha => obtain ⟨h1, h2, h3⟩ := z.commits_co e; rw [h1, h2]; exact ⟨.commit (z := z.co) h he ha, h3⟩
 | look h => obtain ⟨h1, h2, h3⟩ := Gp.looks_co hn tb; rw [h1, h2]; exact ⟨.look (z := z.co) h, h3⟩
 | @clear h h0 r _ hs => obtain ⟨h1, h2, h3⟩ := Gp.clears_co hn r; rw [h1, h2]; exact ⟨.clear (z := z.co) h h0 hs, h3⟩
 | free h => omega
 | nil h => exact ⟨.nil h, .refl _⟩
/-- A group has come to be: each of its pages is as it has it, and some are cleared. -/
structure Bph (rs : List Pr) (no pl : Int) (x : Lg) (tb : Tb) (z : Co) : Prop where
 at_ : z.at_ = 4 ∨ z.at_ = 5 ∨ z.at_ = 6 ∨ z.at_ = 7 ∨ z.at_ = 9
 hno : 1 ≤ no ∧ no ≤ (x.no : Int)
 txn : z.c.txn = no
 all : ∀ r ∈ rs, made tb rs no pl r ∨ clrd tb no pl r
 hl : clrd tb no pl (hdP rs) → ∀ r ∈ rs, clrd tb no pl r
 k : z.at_ ≠ 9 → ∃ k, ∃ hk : k < (rotL rs).length, z.c.clear = pgs ((rotL rs).drop k) ∧ (∀ r ∈ (rotL rs).take k, clrd tb no pl r) ∧ (z.at_ ≤ 5 → k = 0) ∧ (z.at_ = 7 → Mk ((rotL rs)[k]'hk) no pl z.c.ent)
 fin : z.at_ = 9 → z.c.e = 0 ∧ ∀ r ∈ rs, clrd tb no pl r
theorem Bph.stay {rs : List Pr} {no pl : Int} {x x' : Lg} {tb tb' : Tb} {z : Co} (h : Bph rs no pl x tb z) (wf : Wf rs) (hx : x.no ≤ x'.no) (all : ∀ r ∈ rs, made tb' rs no pl r ∨ clrd tb' no pl r) (hl : clrd tb' no pl (hdP rs) → ∀ r ∈ rs, clrd tb' no pl r) (cl : ∀ r ∈ rs, clrd tb no pl r → clrd tb' no pl r) : Bph rs no pl x' tb' z :=
 ⟨h.at_, ⟨h.hno.1, by have := h.hno.2; omega⟩, h.txn, all, hl, fun h9 => by
  obtain ⟨k, hk, h1, h2, h3, h4⟩ := h.k h9
  exact ⟨k, hk, h1, fun r hr => cl r ((rotL_mem wf.pos r).1 (List.mem_of_mem_take hr)) (h2 r hr), h3, h4⟩, fun h9 => ⟨(h.fin h9).1, fun r hr => cl r hr ((h.fin h9).2 r hr)⟩⟩
theorem made_clrd {tb : Tb} {rs : List Pr} {no pl : Int} {r : Pr} (h : made tb rs no pl r) (k : clrd tb no pl r) (h1 : 1 ≤ no) : False := by
 obtain ⟨e, h2, _, h3, _⟩ := h
 obtain ⟨f, k2, _, k3⟩ := k
 rw [h2] at k2; cases k2; omega
theorem hd_drop {rs : List Pr} {k : Nat} (hk : k < (rotL rs).length) : hdP rs ∈ (rotL rs).drop k := by
 unfold rotL at hk ⊢
 rw [List.length_append, List.length_singleton] at hk
 rw [List.drop_append_of_le_length (by omega)]
 exact List.mem_append_right _ (List.mem_singleton.2 rfl)
theorem Ph.bph {rs : List Pr} {T : Nat} {x : Lg} {tb : Tb} {z : Gp} (hp : Ph rs T x tb z) (wf : Wf rs) (h : 4 ≤ z.at_) : Bph rs z.c.txn z.place x tb z.co := by
 have hrl := rotL_len wf.pos
 have hpos := wf.pos
 have hd : hdP rs ∈ rs := hd_mem wf
 cases hp with
 | c0 h1 => omega
 | c1 h1 => omega
 | c2 h1 => omega
 | c3 h1 => omega
 | c4 h1 hn hc hm => exact ⟨(by have h2 : z.co.at_ = z.at_ := rfl; omega), hn, rfl, fun r hr => .inl (hm r hr), fun q => (made_clrd (hm _ hd) q hn.1).elim, fun _ => ⟨0, by omega, hc, fun r hr => (by cases hr), fun _ => rfl, fun q => by have : z.at_ = 7 := q; omega⟩, fun q => by have : z.at_ = 9 := q; omega⟩
 | c6 h1 hn k hk hc hcl hm he =>
  refine ⟨(by have h2 : z.co.at_ = z.at_ := rfl; omega), hn, rfl, fun r hr => ?_, fun q => (made_clrd (hm _ (hd_drop hk)) q hn.1).elim, fun _ => ⟨k, hk, hc, hcl, fun q => by have : z.at_ ≤ 5 := q; omega, fun q => ?_⟩, fun q => by have : z.at_ = 9 := q; omega⟩
  ·have hr2 := (rotL_mem wf.pos r).2 hr
   rw [← List.take_append_drop k (rotL rs)] at hr2
   rcases List.mem_append.1 hr2 with h2 | h2
   ·exact .inr (hcl r h2)
   ·exact .inl (hm r h2)
  ·have e1 : z.c.clear.headD 0 = ((rotL rs)[k]'hk).page := by rw [hc, List.drop_eq_getElem_cons hk]; rfl
   have e2 := he q
   rw [e1] at e2
   obtain ⟨e, h2, h3, _⟩ := hm ((rotL rs)[k]'hk) (by rw [List.drop_eq_getElem_cons hk]; exact List.mem_cons_self)
   rw [e2] at h2; cases h2; exact h3
 | c9 h1 hn he hcl => exact ⟨(by have h2 : z.co.at_ = z.at_ := rfl; omega), hn, rfl, fun r hr => .inr (hcl r hr), fun _ => hcl, fun q => absurd h1 q, fun _ => ⟨he, hcl⟩⟩
/-- Steps that are left, when it is stepped alone. -/
def Co.mu (z : Co) (x : Lg) (tb : Tb) : Nat :=
 if z.at_ = 4 then 2 * z.c.clear.length + 2 else if z.at_ = 5 then (if z.c.hn = x.no ∧ z.c.hp = x.pl then 2 * z.c.clear.length + 1 else 2 * z.c.clear.length + 3) else if z.at_ = 6 then 2 * z.c.clear.length
 else if z.at_ = 7 then (if (tb.ent (z.c.clear.headD 0)).map (·.tok) = some z.c.ent.tok then 2 * z.c.clear.length - 1 else 2 * z.c.clear.length + 1) else 0
theorem Co.mu_le (z : Co) (x : Lg) (tb : Tb) : z.mu x tb ≤ 2 * z.c.clear.length + 3 := by unfold Co.mu; (repeat' split) <;> omega
structure BWent (rs : List Pr) (no pl : Int) (x : Lg) (tb : Tb) (z : Co) (b : Bool) (z2 : Co) (x2 : Lg) (tb2 : Tb) : Prop where
 ph : Bph rs no pl x2 tb2 z2
 lg : LgB x2
 xs : x2 = x ∨ ∃ r : Rc, r.kind = 4 ∧ r.b = numB no.toNat ∧ x2 = x.push r
 len : x2.rs.length + (if z2.at_ ≤ 5 then 1 else 0) ≤ x.rs.length + (if z.at_ ≤ 5 then 1 else 0)
 xno : x.no ≤ x2.no
 ent : ∀ k, k ∉ pgs rs → tb2.ent k = tb.ent k
 cl : ∀ r ∈ rs, clrd tb no pl r → clrd tb2 no pl r
 tok : tb2.tok ≤ tb.tok + 1
 b : b = true ↔ z2.at_ = 9
 clr : z2.c.clear.length ≤ z.c.clear.length
 mu : z.at_ = 9 ∨ z2.mu x2 tb2 < z.mu x tb
section
variable {rs : List Pr} {no pl : Int} {x : Lg} {tb : Tb} {z : Co}
theorem Co.past_clr (c : Cm) : (Co.past c).2.c.clear.length ≤ c.clear.length := by unfold Co.past; split; exact Nat.zero_le _; show c.clear.tail.length ≤ _; rw [List.length_tail]; omega
theorem Co.past_at (c : Cm) : (Co.past c).1 = true ↔ (Co.past c).2.at_ = 9 := by unfold Co.past; split; exact ⟨fun _ => rfl, fun _ => rfl⟩; exact ⟨fun h => (by cases h), fun h => absurd (show (6 : Nat) = 9 from h) (by decide)⟩
theorem Bph.pastP (wf : Wf rs) {c : Cm} {k : Nat} (hk : k < (rotL rs).length) (hc : c.clear = pgs ((rotL rs).drop k)) (hn : 1 ≤ no ∧ no ≤ (x.no : Int)) (ht : c.txn = no) (all : ∀ r ∈ rs, made tb rs no pl r ∨ clrd tb no pl r) (hl : clrd tb no pl (hdP rs) → ∀ r ∈ rs, clrd tb no pl r) (hcl : ∀ r ∈ (rotL rs).take (k + 1), clrd tb no pl r) : Bph rs no pl x tb (Co.past c).2 ∧ (Co.past c).2.mu x tb < 2 * c.clear.length - 1 := by
 have hcl0 : c.clear.length = (rotL rs).length - k := by rw [hc]; unfold pgs; rw [List.length_map, List.length_drop]
 have htl : c.clear.tail = pgs ((rotL rs).drop (k + 1)) := by rw [hc]; unfold pgs; rw [List.map_drop, List.map_drop, List.tail_drop]
 have htl2 : c.clear.tail.length = (rotL rs).length - (k + 1) := by rw [htl]; unfold pgs; rw [List.length_map, List.length_drop]
 unfold Co.past
 by_cases h0 : c.clear.tail = []
 ·rw [if_pos h0]
  rw [h0] at htl2
  have hk1 : k + 1 = (rotL rs).length := by simp at htl2; omega
  rw [hk1, List.take_length] at hcl
  have hall : ∀ r ∈ rs, clrd tb no pl r := fun r hr => hcl r ((rotL_mem wf.pos r).2 hr)
  exact ⟨⟨.inr (.inr (.inr (.inr rfl))), hn, ht, all, hl, fun q => absurd rfl q, fun _ => ⟨rfl, hall⟩⟩, by show (Co.mu ⟨9, _⟩ x tb) < _; simp only [Co.mu]; simp; omega⟩
 ·rw [if_neg h0]
  have hlp := List.length_pos_iff.2 h0
  exact ⟨⟨.inr (.inr (.inl rfl)), hn, ht, all, hl, fun _ => ⟨k + 1, by omega, htl, hcl, fun q => absurd (show (6 : Nat) ≤ 5 from q) (by decide), fun q => absurd (show (6 : Nat) = 7 from q) (by decide)⟩, fun q => absurd (show (6 : Nat) = 9 from q) (by decide)⟩, by show (Co.mu ⟨6, _⟩ x tb) < _; simp only [Co.mu]; simp; omega⟩
end

theorem nd_inj : ∀ {l : List Pr}, (pgs l).Nodup → ∀ {a b : Pr}, a ∈ l → b ∈ l → a.page = b.page → a = b
 | [], _, a, b, ha, _, _ => by cases ha
 | c :: l, h, a, b, ha, hb, he => by
  obtain ⟨h1, h2⟩ := List.nodup_cons.1 (show (c.page :: pgs l).Nodup from h)
  rcases List.mem_cons.1 ha with ha2 | ha2
  ·rcases List.mem_cons.1 hb with hb2 | hb2
   ·rw [ha2, hb2]
   ·exact absurd (by rw [← ha2, he]; exact pgs_mem hb2) h1
  ·rcases List.mem_cons.1 hb with hb2 | hb2
   ·exact absurd (by rw [← hb2, ← he]; exact pgs_mem ha2) h1
   ·exact nd_inj h2 ha2 hb2 he
theorem ent_get {tb : Tb} {p : Int} {e : Ent} (h : tb.ent p = some e) : ∃ b, tb.get p = some (b, e) := by
 unfold Tb.ent at h
 obtain ⟨y, hy, rfl⟩ := Option.map_eq_some_iff.1 h
 exact ⟨y.1, hy⟩
section
variable {rs : List Pr} {no pl : Int} {x : Lg} {tb : Tb} {z : Co}
theorem Bph.step (wf : Wf rs) (hl : LgB x) (hm : x.rs.length < 58) (hp : Bph rs no pl x tb z) {b : Bool} {z2 : Co} {x2 : Lg} {tb2 : Tb} (hs : CSt x tb z b z2 x2 tb2) : BWent rs no pl x tb z b z2 x2 tb2 := by
 have hno := hp.hno
 cases hs with
 | take h =>
  obtain ⟨k, hk, hc, hcl, h5, h7⟩ := hp.k (by omega)
  exact ⟨⟨.inr (.inl rfl), hp.hno, hp.txn, hp.all, hp.hl, fun _ => ⟨k, hk, hc, hcl, fun _ => h5 (by omega), fun q => absurd (show (5 : Nat) = 7 from q) (by decide)⟩, fun q => absurd (show (5 : Nat) = 9 from q) (by decide)⟩, hl, .inl rfl, by simp [h], Nat.le_refl _, fun _ _ => rfl, fun _ _ q => q, Nat.le_succ _, ⟨fun q => (by cases q), fun q => absurd (show (5 : Nat) = 9 from q) (by decide)⟩, Nat.le_refl _, .inr (by simp [Co.mu, h])⟩
 | @commit h e x2 he ha =>
  obtain ⟨k, hk, hc, hcl, h5, h7⟩ := hp.k (by omega)
  have e1 := hl.no
  rw [hp.txn] at he ha
  have hbl : (numB no.toNat).length < 198 := by have := numB_10 (n := no.toNat) (by omega); omega
  rw [hl.apE (by omega) hbl (.inr rfl)] at he
  by_cases hcur : z.c.hn = x.no ∧ z.c.hp = x.pl
  ·rw [if_pos hcur] at he
   subst he
   obtain ⟨_, r, hk1, hrb, rfl⟩ := ha.resolve_left (fun q => q.1 rfl)
   have hnp := x.no_push r
   have e : Co.commits z.c 0 = (false, ⟨6, z.c⟩) := if_pos rfl
   rw [e]
   exact ⟨⟨.inr (.inr (.inl rfl)), ⟨hno.1, by omega⟩, hp.txn, hp.all, hp.hl, fun _ => ⟨k, hk, hc, hcl, fun q => absurd (show (6 : Nat) ≤ 5 from q) (by decide), fun q => absurd (show (6 : Nat) = 7 from q) (by decide)⟩, fun q => absurd (show (6 : Nat) = 9 from q) (by decide)⟩, hl.push (by rw [hrb]; exact hbl), .inr ⟨r, hk1, hrb, rfl⟩, by simp [Lg.push, h], by omega, fun _ _ => rfl, fun _ _ q => q, Nat.le_succ _, ⟨fun q => (by cases q), fun q => absurd (show (6 : Nat) = 9 from q) (by decide)⟩, Nat.le_refl _, .inr (by simp [Co.mu, h, hcur])⟩
  ·rw [if_neg hcur] at he
   subst he
   obtain ⟨_, rfl⟩ := ha.resolve_right (fun q => by cases q.1)
   have e : Co.commits z.c 5 = (false, ⟨4, z.c⟩) := (if_neg (by decide)).trans (if_pos rfl)
   rw [e]
   exact ⟨⟨.inl rfl, hp.hno, hp.txn, hp.all, hp.hl, fun _ => ⟨k, hk, hc, hcl, fun _ => h5 (by omega), fun q => absurd (show (4 : Nat) = 7 from q) (by decide)⟩, fun q => absurd (show (4 : Nat) = 9 from q) (by decide)⟩, hl, .inl rfl, by simp [h], Nat.le_refl _, fun _ _ => rfl, fun _ _ q => q, Nat.le_succ _, ⟨fun q => (by cases q), fun q => absurd (show (4 : Nat) = 9 from q) (by decide)⟩, Nat.le_refl _, .inr (by simp [Co.mu, h, hcur])⟩
 | look h =>
  obtain ⟨k, hk, hc, hcl, h5, h7⟩ := hp.k (by omega)
  have hqm : (rotL rs)[k] ∈ rs := (rotL_mem wf.pos _).1 (List.getElem_mem hk)
  have hd0 : z.c.clear.headD 0 = ((rotL rs)[k]).page := by rw [hc, List.drop_eq_getElem_cons hk]; rfl
  have hcl0 : z.c.clear.length = (rotL rs).length - k := by rw [hc]; unfold pgs; rw [List.length_map, List.length_drop]
  rcases hp.all _ hqm with ⟨e, h1, h2, h3, h4⟩ | ⟨e, h1, h2, h3⟩
  ·obtain ⟨bb, hg⟩ := ent_get h1
   have e1 : Co.looks tb z.c = (false, ⟨7, { z.c with ent := e }⟩) := by unfold Co.looks; rw [hd0, hg]; exact if_neg (fun q => q (by rw [hp.txn]; exact h3))
   rw [e1]
   exact ⟨⟨.inr (.inr (.inr (.inl rfl))), hp.hno, hp.txn, hp.all, hp.hl, fun _ => ⟨k, hk, hc, hcl, fun q => absurd (show (7 : Nat) ≤ 5 from q) (by decide), fun _ => h2⟩, fun q => absurd (show (7 : Nat) = 9 from q) (by decide)⟩, hl, .inl rfl, by simp [h], Nat.le_refl _, fun _ _ => rfl, fun _ _ q => q, Nat.le_succ _, ⟨fun q => (by cases q), fun q => absurd (show (7 : Nat) = 9 from q) (by decide)⟩, Nat.le_refl _, .inr (by
    have hmu : (tb.ent (z.c.clear.headD 0)).map (·.tok) = some e.tok := by rw [hd0, h1]; rfl
    simp only [Co.mu, h]; simp only [hmu]; simp; omega)⟩
  ·obtain ⟨bb, hg⟩ := ent_get h1
   have e1 : Co.looks tb z.c = Co.past z.c := by unfold Co.looks; rw [hd0, hg]; exact if_pos (fun q => by rw [hp.txn] at q; have : e.txn = no := q; omega)
   rw [e1]
   obtain ⟨q1, q2⟩ := Bph.pastP (x := x) wf hk hc hp.hno hp.txn hp.all hp.hl (fun r hr => by
    rw [List.take_succ_eq_append_getElem hk] at hr
    rcases List.mem_append.1 hr with hr | hr
    ·exact hcl r hr
    ·cases List.mem_singleton.1 hr; exact ⟨e, h1, h2, h3⟩)
   exact ⟨q1, hl, .inl rfl, by rw [if_neg (by omega : ¬ z.at_ ≤ 5)]; have := q1.at_; unfold Co.past; split <;> simp, Nat.le_refl _, fun _ _ => rfl, fun _ _ q => q, Nat.le_succ _, Co.past_at _, Co.past_clr _, .inr (by have hmu6 : z.mu x tb = 2 * z.c.clear.length := (by unfold Co.mu; rw [if_neg (by omega), if_neg (by omega), if_pos h]); omega)⟩
 | @clear h h0 r tb2 hs =>
  obtain ⟨k, hk, hc, hcl, h5, h7⟩ := hp.k (by omega)
  have hqm : (rotL rs)[k] ∈ rs := (rotL_mem wf.pos _).1 (List.getElem_mem hk)
  have hd0 : z.c.clear.headD 0 = ((rotL rs)[k]).page := by rw [hc, List.drop_eq_getElem_cons hk]; rfl
  have hq0 : z.c.clear[0]'h0 = ((rotL rs)[k]).page := by rw [← hd0, headD_0 h0]
  have hcl0 : z.c.clear.length = (rotL rs).length - k := by rw [hc]; unfold pgs; rw [List.length_map, List.length_drop]
  have hMk := h7 h
  obtain ⟨q, hq⟩ : ∃ q, q = (rotL rs)[k] := ⟨_, rfl⟩
  rw [hq0] at hs
  rw [← hq] at hqm hd0 hMk hs
  have hex : ∃ e0, tb.ent q.page = some e0 := by rcases hp.all q hqm with ⟨e, h1, _⟩ | ⟨e, h1, _⟩ <;> exact ⟨e, h1⟩
  rcases hs with ⟨hnone, _⟩ | ⟨e0, hg, ⟨hbad, _⟩ | ⟨_, hne, rfl, htb⟩ | ⟨_, heq, rfl, hsw⟩⟩
  ·obtain ⟨e, he⟩ := hex; rw [Tb.ent_none hnone] at he; cases he
  ·exact absurd hMk.clr.1 hbad
  ·have htb2 := htb.symm
   subst htb2
   have e1 : Co.clears z.c 5 = (false, ⟨6, z.c⟩) := if_pos rfl
   rw [e1]
   exact ⟨⟨.inr (.inr (.inl rfl)), hp.hno, hp.txn, hp.all, hp.hl, fun _ => ⟨k, hk, hc, hcl, fun q => absurd (show (6 : Nat) ≤ 5 from q) (by decide), fun q => absurd (show (6 : Nat) = 7 from q) (by decide)⟩, fun q => absurd (show (6 : Nat) = 9 from q) (by decide)⟩, hl, .inl rfl, by simp [h], Nat.le_refl _, fun _ _ => rfl, fun _ _ q => q, Nat.le_succ _, ⟨fun q => (by cases q), fun q => absurd (show (6 : Nat) = 9 from q) (by decide)⟩, Nat.le_refl _, .inr (by
    have hmu : ¬ (tb.ent (z.c.clear.headD 0)).map (·.tok) = some z.c.ent.tok := by rw [hd0, Tb.ent_some hg]; exact fun q => hne (Option.some.inj q)
    have hmu7 : z.mu x tb = 2 * z.c.clear.length + 1 := by unfold Co.mu; rw [if_neg (by omega), if_neg (by omega), if_neg (by omega), if_pos h, if_neg hmu]
    have hmu6 : Co.mu ⟨6, z.c⟩ x tb = 2 * z.c.clear.length := rfl
    show Co.mu ⟨6, z.c⟩ x tb < _; omega)⟩
  ·have e1 : Co.clears z.c 0 = Co.past z.c := if_neg (by decide)
   rw [e1]
   have hent := hsw.ent
   have hqc : clrd tb2 no pl q := ⟨_, (hent _).trans (if_pos rfl), ⟨mayP.tok hMk.clr.1 _, hMk.clr.2.1, hMk.clr.2.2.1, hMk.clr.2.2.2⟩, rfl⟩
   have hne : ∀ r ∈ rs, r ≠ q → tb2.ent r.page = tb.ent r.page := fun r hr hrq => by rw [hent, if_neg (fun e => hrq (nd_inj wf.nd hr hqm e))]
   have hcl' : ∀ r ∈ rs, clrd tb no pl r → clrd tb2 no pl r := fun r hr hc' => by
    by_cases e : r.page = q.page
    ·rw [nd_inj wf.nd hr hqm e]; exact hqc
    ·exact hc'.of (by rw [hent, if_neg e])
   have hall : ∀ r ∈ rs, made tb2 rs no pl r ∨ clrd tb2 no pl r := fun r hr => by
    by_cases e : r.page = q.page
    ·rw [nd_inj wf.nd hr hqm e]; exact .inr hqc
    ·have e' : tb2.ent r.page = tb.ent r.page := by rw [hent, if_neg e]
     exact (hp.all r hr).imp (fun h => h.of e') (fun h => h.of e')
   have htake : ∀ r ∈ (rotL rs).take (k + 1), clrd tb2 no pl r := fun r hr => by
    rw [List.take_succ_eq_append_getElem hk, ← hq] at hr
    rcases List.mem_append.1 hr with hr | hr
    ·exact hcl' r ((rotL_mem wf.pos r).1 (List.mem_of_mem_take hr)) (hcl r hr)
    ·cases List.mem_singleton.1 hr; exact hqc
   have hhl : clrd tb2 no pl (hdP rs) → ∀ r ∈ rs, clrd tb2 no pl r := fun hh => by
    by_cases e : (hdP rs).page = q.page
    ·have hk1 : k + 1 = (rotL rs).length := by
      rcases Nat.lt_or_ge (k + 1) (rotL rs).length with hlt | hge
      ·have hnd := rotL_nd wf.pos wf.nd
       rw [split_at hk, ← hq] at hnd
       exact absurd e ((nd_mid hnd).2 _ (hd_drop hlt))
      ·omega
     intro r hr
     have hr2 := (rotL_mem wf.pos r).2 hr
     exact htake r (by rw [hk1, List.take_length]; exact hr2)
    ·intro r hr
     exact hcl' r hr (hp.hl (hh.of (by rw [hent, if_neg e])) r hr)
   have htk := hsw.tok
   obtain ⟨q1, q2⟩ := Bph.pastP (x := x) (tb := tb2) wf hk hc hp.hno hp.txn hall hhl htake
   refine ⟨q1, hl, .inl rfl, by rw [if_neg (by omega : ¬ z.at_ ≤ 5)]; unfold Co.past; split <;> simp, Nat.le_refl _, fun j hj => by rw [hent, if_neg (fun e => hj (by rw [e]; exact pgs_mem hqm))], hcl', by omega, Co.past_at _, Co.past_clr _, .inr ?_⟩
   have hmu7 : 2 * z.c.clear.length - 1 ≤ z.mu x tb := by unfold Co.mu; rw [if_neg (by omega), if_neg (by omega), if_neg (by omega), if_pos h]; split <;> omega
   omega
 | nil h =>
  have h9 : z.at_ = 9 := by have := hp.at_; omega
  exact ⟨hp, hl, .inl rfl, Nat.le_refl _, Nat.le_refl _, fun _ _ => rfl, fun _ _ q => q, Nat.le_succ _, ⟨fun _ => h9, fun _ => rfl⟩, Nat.le_refl _, .inl h9⟩
end

/-- A Group behind its swap, until it ends. -/
structure GB (rs : List Pr) (T : Nat) (no pl : Int) (K m : Nat) (x : Lg) (tb : Tb) (z : Gp) : Prop where
 ph : Bph rs no pl x tb z.co
 c : PhC rs T z
 lg : LgB x
 len : x.rs.length + (if z.at_ ≤ 5 then 1 else 0) ≤ 50
 tok : tb.tok + z.co.mu x tb ≤ K
 mu : z.co.mu x tb ≤ m
theorem thoseF {rs : List Pr} {T : Nat} {z : Gp} (wf : Wf rs) (h : PhC rs T z) : thoseL z.pages 0 false = [] := those_f (by rw [h.pages]; exact wf.nn) 0
theorem Gp.like.phc {rs : List Pr} {T : Nat} {z z2 : Gp} (k : z.like z2) (h : PhC rs T z) : PhC rs T z2 := ⟨by rw [k.pages]; exact h.pages, k.tok.trans h.tok, fun y hy => by rw [k.pages]; exact h.lf y (k.left y hy)⟩
theorem Bph.clr0 {rs : List Pr} {no pl : Int} {x : Lg} {tb : Tb} {z : Co} (h : Bph rs no pl x tb z) (h9 : z.at_ ≠ 9) : 0 < z.c.clear.length := by
 obtain ⟨k, hk, hc, _⟩ := h.k h9
 rw [hc]; unfold pgs; rw [List.length_map, List.length_drop]; omega
theorem mu_9 {z : Co} {x : Lg} {tb : Tb} (h : z.at_ = 9) : z.mu x tb = 0 := by simp [Co.mu, h]
theorem GB.inv {rs : List Pr} {T : Nat} {no pl : Int} {K : Nat} (wf : Wf rs) (hK : K + 1 < 18446744073709551616) : GInv (GB rs T no pl K) where
 pre m x tb z h := by
  have hpl : z.pages.length = rs.length := by rw [← prs_len, h.c.pages]
  have h8 := wf.may.2.1
  have hpos := wf.pos
  have e1 := h.lg.no
  have hat : z.co.at_ = z.at_ := rfl
  have htx : z.c.txn = no := h.ph.txn
  have h3 := h.ph.at_
  have h4 := h.tok
  have h5 := h.len
  have h6 := h.ph.hno
  refine ⟨by omega, by omega, by omega, Gp.sz_of (by rw [h.c.pages]; exact wf), h.c.lf, fun q => by omega, fun q => h.ph.clr0 (by omega), fun q => ?_⟩
  omega
 step m x tb z b z2 x2 tb2 h hs := by
  have hat : z.co.at_ = z.at_ := rfl
  have h3 := h.ph.at_
  have h5 := h.len
  obtain ⟨hc, hlk⟩ := hs.co (by omega) (by omega) (thoseF wf h.c)
  have w := h.ph.step wf h.lg (by omega) hc
  have hat2 : z2.co.at_ = z2.at_ := rfl
  have hb := w.b
  have hl := w.len
  have ht := w.tok
  have h4 := h.tok
  have h6 := h.mu
  have hphc := hlk.phc h.c
  rcases w.mu with h9 | hlt
  ·have hb1 : b = true := by
    cases hs with
    | nil _ => rfl
    | _ => exfalso; omega
   obtain ⟨rfl, rfl, rfl⟩ : z2 = z ∧ x2 = x ∧ tb2 = tb := by
    cases hs with
    | nil _ => exact ⟨rfl, rfl, rfl⟩
    | _ => exfalso; omega
   have hm0 := mu_9 (x := x2) (tb := tb2) h9
   exact .inl ⟨hb1, ⟨h.ph, h.c, h.lg, h.len, h.tok, by omega⟩, h9⟩
  ·cases b with
   | true =>
    have h9 := hb.1 rfl
    have hm0 := mu_9 (x := x2) (tb := tb2) h9
    exact .inl ⟨rfl, ⟨w.ph, hphc, w.lg, by rw [hat, hat2] at hl; omega, by omega, by omega⟩, h9⟩
   | false => exact .inr ⟨rfl, z2.co.mu x2 tb2, by omega, ⟨w.ph, hphc, w.lg, by rw [hat, hat2] at hl; omega, by omega, Nat.le_refl _⟩⟩
/-- A page that the group has not made yet. -/
def raw (tb : Tb) (r : Pr) : Prop := ∃ e, tb.ent r.page = some e ∧ e.txn = 0 ∧ e.nodes = []
theorem raw.of {tb tb' : Tb} {r : Pr} (h : raw tb r) (he : tb'.ent r.page = tb.ent r.page) : raw tb' r := by
 obtain ⟨e, h1, h2⟩ := h; exact ⟨e, he.trans h1, h2⟩
/-- The group has not come to be. -/
structure TA (rs : List Pr) (no pl : Int) (tb : Tb) : Prop where
 hd : raw tb (hdP rs)
 tl : ∀ r ∈ rs.tail, raw tb r ∨ made tb rs no pl r
/-- A Help, when the group has not come to be. -/
structure HA (rs : List Pr) (no pl : Int) (p0 : Int) (x0 : Lg) (tb0 : Tb) (m : Nat) (x : Lg) (tb : Tb) (z : Hm) : Prop where
 x : x = x0
 tb : tb = tb0
 at_ : (z.at_ = 0 ∧ z.page = p0 ∧ 2 ≤ m) ∨ (z.at_ = 1 ∧ z.page = leadOf rs ∧ z.c.txn = no ∧ p0 ≠ leadOf rs ∧ 1 ≤ m) ∨ (z.at_ = 9 ∧ (z.c.e = 0 ∨ (z.c.e = 132 ∧ p0 ≠ leadOf rs)))
theorem HA.inv {rs : List Pr} {no pl p0 : Int} {x0 : Lg} {tb0 : Tb} (wf : Wf rs) (hno : 1 ≤ no) (hp0 : p0 ∈ pgs rs) (hA : TA rs no pl tb0) (htk : tb0.tok + 1 < 18446744073709551616) : HInv (HA rs no pl p0 x0 tb0) where
 pre m x tb z h := ⟨by rw [h.tb]; exact htk, fun q => by have := h.at_; omega, fun q => by have := h.at_; omega, by have := h.at_; omega⟩
 step m x tb z b z2 x2 tb2 h hs := by
  obtain ⟨rfl, rfl, hat⟩ := h
  rcases hat with ⟨h0, hpg, hm⟩ | ⟨h1, hpg, htx, hne, hm⟩ | ⟨h9, he⟩
  ·cases hs with
   | begin _ =>
    obtain ⟨r, hr, hrp⟩ := List.mem_map.1 hp0
    have hrd : r = hdP rs ∨ r ∈ rs.tail := by
     have hr2 := hr; rw [hdP_cons wf.pos] at hr2; exact List.mem_cons.1 hr2
    have key : raw tb r ∨ (made tb rs no pl r ∧ r ∈ rs.tail) := by
     rcases hrd with rfl | hrt
     ·exact .inl hA.hd
     ·exact (hA.tl r hrt).imp id fun h => ⟨h, hrt⟩
    rcases key with ⟨e, h2, h3, _⟩ | ⟨⟨e, h2, _, h3, h4, _⟩, hrt⟩
    ·obtain ⟨bb, hg⟩ := Tb.ent_get h2
     have e1 : z.begins tb = (true, z.fin 0) := by unfold Hm.begins; rw [hpg, ← hrp, hg]; exact if_pos h3
     rw [e1]; exact .inl ⟨rfl, ⟨rfl, rfl, .inr (.inr ⟨rfl, .inl rfl⟩)⟩, rfl⟩
    ·obtain ⟨bb, hg⟩ := Tb.ent_get h2
     have hrl := tail_ne wf hrt
     have e1 : z.begins tb = (false, ({ z with page := e.lead, c := { z.c with txn := e.txn } } : Hm).go 1) := by unfold Hm.begins; rw [hpg, ← hrp, hg]; exact (if_neg (show ¬ e.txn = 0 by omega)).trans (if_neg (show ¬ e.lead = r.page from fun q => hrl (by rw [← q, h4])))
     rw [e1]; exact .inr ⟨rfl, 1, by omega, ⟨rfl, rfl, .inr (.inl ⟨rfl, h4, h3, fun q => hrl (by rw [hrp, q]), Nat.le_refl _⟩)⟩⟩
   | _ => exfalso; omega
  ·cases hs with
   | follow _ =>
    obtain ⟨e, h2, h3, _⟩ := hA.hd
    obtain ⟨bb, hg⟩ := Tb.ent_get h2
    have e1 : z.follows tb = (true, z.fin 132) := by unfold Hm.follows; rw [hpg, show leadOf rs = (hdP rs).page from rfl, hg]; exact if_pos (show e.txn ≠ z.c.txn by omega)
    rw [e1]; exact .inl ⟨rfl, ⟨rfl, rfl, .inr (.inr ⟨rfl, .inr ⟨rfl, hne⟩⟩)⟩, rfl⟩
   | _ => exfalso; omega
  ·cases hs with
   | nil _ => exact .inl ⟨rfl, ⟨rfl, rfl, .inr (.inr ⟨h9, he⟩)⟩, h9⟩
   | _ => exfalso; omega
/-- Each page is as the group has it. -/
structure TB (rs : List Pr) (no pl : Int) (x : Lg) (tb : Tb) : Prop where
 hno : 1 ≤ no ∧ no ≤ (x.no : Int)
 all : ∀ r ∈ rs, made tb rs no pl r ∨ clrd tb no pl r
 hl : clrd tb no pl (hdP rs) → ∀ r ∈ rs, clrd tb no pl r
theorem Bph.tb {rs : List Pr} {no pl : Int} {x : Lg} {tb : Tb} {z : Co} (h : Bph rs no pl x tb z) : TB rs no pl x tb := ⟨h.hno, h.all, h.hl⟩
/-- A Help, when the group has come to be. -/
structure HB (rs : List Pr) (no pl : Int) (p0 : Int) (x0 : Lg) (tb0 : Tb) (K m : Nat) (x : Lg) (tb : Tb) (z : Hm) : Prop where
 lg : LgB x
 t : TB rs no pl x tb
 cl : ∀ r ∈ rs, clrd tb0 no pl r → clrd tb no pl r
 xno : x0.no ≤ x.no
 len : x.rs.length + (if z.at_ ≤ 5 then 1 else 0) ≤ x0.rs.length + 1
 tok : tb.tok ≤ K
 at_ : (z.at_ = 0 ∧ z.page = p0 ∧ 2 * rs.length + 6 ≤ m ∧ tb.tok + 2 * rs.length + 6 ≤ K) ∨ (z.at_ = 1 ∧ z.page = leadOf rs ∧ z.c.txn = no ∧ made tb rs no pl (hdP rs) ∧ 2 * rs.length + 5 ≤ m ∧ tb.tok + 2 * rs.length + 6 ≤ K) ∨ (4 ≤ z.at_ ∧ Bph rs no pl x tb z.co ∧ z.co.mu x tb ≤ m ∧ tb.tok + z.co.mu x tb ≤ K) ∨ (z.at_ = 9 ∧ z.c.e = 0 ∧ (∀ r ∈ rs, r.page = p0 → clrd tb no pl r))
theorem leads_bph {rs : List Pr} {no pl : Int} {x : Lg} {tb : Tb} (wf : Wf rs) (t : TB rs no pl x tb) {z : Hm} {e : Ent} (hz : z.page = leadOf rs) (h2 : e.txn = no) (h3 : e.with_ = pgs rs.tail) : Bph rs no pl x tb (z.leads e).co ∧ (z.leads e).co.mu x tb = 2 * rs.length + 2 := by
 have hc : e.with_ ++ [z.page] = pgs (rotL rs) := by rw [rotL_pgs, h3, hz]; rfl
 have hrl := rotL_len wf.pos
 have hpos := wf.pos
 refine ⟨⟨.inl rfl, t.hno, h2, t.all, t.hl, fun _ => ⟨0, by omega, hc, fun r hr => (by cases hr), fun _ => rfl, fun q => absurd (show (4 : Nat) = 7 from q) (by decide)⟩, fun q => absurd (show (4 : Nat) = 9 from q) (by decide)⟩, ?_⟩
 show 2 * (e.with_ ++ [z.page]).length + 2 = _
 rw [hc]; unfold pgs; rw [List.length_map, hrl]
theorem HB.inv {rs : List Pr} {no pl p0 : Int} {x0 : Lg} {tb0 : Tb} {K : Nat} (wf : Wf rs) (hp0 : p0 ∈ pgs rs) (hK : K + 1 < 18446744073709551616) (hx0 : x0.rs.length < 50) : HInv (HB rs no pl p0 x0 tb0 K) where
 pre m x tb z h := by
  have e1 := h.lg.no
  have h5 := h.len
  have h6 := h.t.hno
  have h9 := h.tok
  rcases h.at_ with ⟨h0, _, _, h3⟩ | ⟨h0, _, _, _, _, h3⟩ | ⟨h0, hb, _, h3⟩ | ⟨h0, _⟩
  ·exact ⟨by omega, fun q => by omega, fun q => by omega, by omega⟩
  ·exact ⟨by omega, fun q => by omega, fun q => by omega, by omega⟩
  ·have hat : z.co.at_ = z.at_ := rfl
   have h7 := hb.at_
   have h8 : z.c.txn = no := hb.txn
   exact ⟨by omega, fun q => hb.clr0 (by omega), fun q => by omega, by omega⟩
  ·exact ⟨by omega, fun q => by omega, fun q => by omega, by omega⟩
 step m x tb z b z2 x2 tb2 h hs := by
  have e1 := h.lg.no
  have h5 := h.len
  have h6 := h.t.hno
  have h9 := h.tok
  have hpos := wf.pos
  rcases h.at_ with ⟨h0, hpg, h2, h3⟩ | ⟨h0, hpg, htx, hmd, h2, h3⟩ | ⟨h0, hb, h2, h3⟩ | ⟨h0, he, hcl⟩
  ·cases hs with
   | begin _ =>
    obtain ⟨r, hr, hrp⟩ := List.mem_map.1 hp0
    have hat5 : z.at_ ≤ 5 := by omega
    rw [if_pos hat5] at h5
    rcases h.t.all r hr with ⟨e, g1, g2, g3, g4, g5⟩ | hcd
    ·obtain ⟨bb, hg⟩ := Tb.ent_get g1
     by_cases hl : r.page = leadOf rs
     ·have q1 : z.begins tb = (false, z.leads e) := by unfold Hm.begins; rw [hpg, ← hrp, hg]; exact (if_neg (show ¬ e.txn = 0 by omega)).trans (if_pos (show e.lead = r.page by rw [g4, hl]))
      obtain ⟨q2, q3⟩ := leads_bph wf h.t (z := z) (by rw [hpg, ← hrp, hl]) g3 (g5 hl)
      rw [q1]
      exact .inr ⟨rfl, 2 * rs.length + 2, by omega, ⟨h.lg, h.t, h.cl, h.xno, by show x.rs.length + 1 ≤ _; omega, h9, .inr (.inr (.inl ⟨Nat.le_refl 4, q2, Nat.le_of_eq q3, by show tb.tok + (z.leads e).co.mu x tb ≤ K; omega⟩))⟩⟩
     ·have q1 : z.begins tb = (false, ({ z with page := e.lead, c := { z.c with txn := e.txn } } : Hm).go 1) := by unfold Hm.begins; rw [hpg, ← hrp, hg]; exact (if_neg (show ¬ e.txn = 0 by omega)).trans (if_neg (show ¬ e.lead = r.page from fun q => hl (by rw [← q, g4])))
      have hmd : made tb rs no pl (hdP rs) := (h.t.all _ (hd_mem wf)).resolve_right fun q => made_clrd ⟨e, g1, g2, g3, g4, g5⟩ (h.t.hl q r hr) h6.1
      rw [q1]
      exact .inr ⟨rfl, 2 * rs.length + 5, by omega, ⟨h.lg, h.t, h.cl, h.xno, by show x.rs.length + 1 ≤ _; omega, h9, .inr (.inl ⟨rfl, g4, g3, hmd, Nat.le_refl _, h3⟩)⟩⟩
    ·obtain ⟨e, g1, g2, g3⟩ := id hcd
     obtain ⟨bb, hg⟩ := Tb.ent_get g1
     have q1 : z.begins tb = (true, z.fin 0) := by unfold Hm.begins; rw [hpg, ← hrp, hg]; exact if_pos g3
     rw [q1]
     exact .inl ⟨rfl, ⟨h.lg, h.t, h.cl, h.xno, by show x.rs.length + 0 ≤ _; omega, h9, .inr (.inr (.inr ⟨rfl, rfl, fun r' hr' hp' => by rw [nd_inj wf.nd hr' hr (hp'.trans hrp.symm)]; exact hcd⟩))⟩, rfl⟩
   | _ => exfalso; omega
  ·cases hs with
   | follow _ =>
    have hat5 : z.at_ ≤ 5 := by omega
    rw [if_pos hat5] at h5
    obtain ⟨e, g1, g2, g3, g4, g5⟩ := hmd
    obtain ⟨bb, hg⟩ := Tb.ent_get g1
    have q1 : z.follows tb = (false, z.leads e) := by unfold Hm.follows; rw [hpg, show leadOf rs = (hdP rs).page from rfl, hg]; exact if_neg (fun q => q (show e.txn = z.c.txn by omega))
    obtain ⟨q2, q3⟩ := leads_bph wf h.t (z := z) hpg g3 (g5 rfl)
    rw [q1]
    exact .inr ⟨rfl, 2 * rs.length + 2, by omega, ⟨h.lg, h.t, h.cl, h.xno, by show x.rs.length + 1 ≤ _; omega, h9, .inr (.inr (.inl ⟨Nat.le_refl 4, q2, Nat.le_of_eq q3, by show tb.tok + (z.leads e).co.mu x tb ≤ K; omega⟩))⟩⟩
   | _ => exfalso; omega
  ·have hc := hs.co h0
   have w := hb.step wf h.lg (by omega) hc
   have hat : z.co.at_ = z.at_ := rfl
   have hat2 : z2.co.at_ = z2.at_ := rfl
   have hl := w.len
   rw [hat, hat2] at hl
   have ht := w.tok
   have hx := w.xno
   have h7 := w.ph.at_
   have hx0' := h.xno
   have hcl2 : ∀ r ∈ rs, clrd tb0 no pl r → clrd tb2 no pl r := fun r hr q => w.cl r hr (h.cl r hr q)
   rcases w.mu with h9' | hlt
   ·have hm0 := mu_9 (x := x) (tb := tb) h9'
    cases hs with
    | nil _ => exact .inl ⟨rfl, ⟨h.lg, h.t, h.cl, h.xno, h.len, h9, .inr (.inr (.inl ⟨h0, hb, by omega, h3⟩))⟩, h9'⟩
    | _ => exfalso; omega
   ·cases b with
    | true =>
     have h10 := w.b.1 rfl
     have hm0 := mu_9 (x := x2) (tb := tb2) h10
     exact .inl ⟨rfl, ⟨w.lg, w.ph.tb, hcl2, by omega, by omega, by omega, .inr (.inr (.inl ⟨by omega, w.ph, by omega, by omega⟩))⟩, h10⟩
    | false => exact .inr ⟨rfl, z2.co.mu x2 tb2, by omega, ⟨w.lg, w.ph.tb, hcl2, by omega, by omega, by omega, .inr (.inr (.inl ⟨by omega, w.ph, Nat.le_refl _, by omega⟩))⟩⟩
  ·cases hs with
   | nil _ => exact .inl ⟨rfl, ⟨h.lg, h.t, h.cl, h.xno, h.len, h9, .inr (.inr (.inr ⟨h0, he, hcl⟩))⟩, h0⟩
   | _ => exfalso; omega

instance (bs : List UInt8) : Decidable (okC bs) := inferInstanceAs (Decidable (_ ∧ _))
def comN (n : Int) (r : Rc) : Bool := decide (r.kind = 4 ∧ okC r.b ∧ (n = 0 ∨ ((rNum 1099511627776 ⟨r.b, 0⟩).1 : Int) = n))
structure CnX where
 k : Nat
 J : Imm
theorem law_commits {I : Imm} {l : Nat} {s d n : Nat} {x : Lg} {y : Dk} {Ll : Chunks} (hlg : IsLog I l s d n x y Ll) {nn : Int} (hb0 : x.lo = 0) (hrl : ∀ r ∈ x.rs, r.b.length ≤ 1099511627776) (hrn : x.rs.length ≤ 1099511627776) (hbs : x.base = 0) : Spec Tryz.prog 21 [.pointer (some ⟨l, 0, none⟩), .int .i64 nn] I Ll (fun v J L => v = .int .i64 ((x.rs.filter (comN nn)).length : Int) ∧ IsLog J l s d n x y L) := by
 refine Spec.of Tryz.func21 rfl Tryz.ntmps21 (Nat.le_of_ble_eq_true rfl) (fun F => ?_)
 try simp only [nf]
 dsimp only [argsEnv]
 refine WP.seq ?_; refine WP.region [0] rfl ?_; refine WP.mv rfl rfl ?_; refine WP.nil (WP.next (WP.seq ?_))
 refine WP.region [0] rfl ?_; refine WP.mv rfl rfl ?_; refine WP.nil (WP.next (WP.seq (WP.seq ?_)))
 refine WP.region [0] rfl ?_; refine WP.mv rfl rfl ?_; refine WP.nil (WP.next (WP.block ?_))
 refine WP.loop (X := CnX) (fun u : CnX => [(0, .pointer (some ⟨l, 0, none⟩)), (1, .int .i64 nn), (5, .int .i64 ((((x.rs.take (u.k)).filter (comN nn)).length : Nat) : Int)), (6, .int .i64 ((x.base + u.k + 1 : Nat) : Int))]) (fun u => u.J) (fun _ : CnX => Ll ++ F) (fun u : CnX => u.k ≤ x.rs.length ∧ I.le u.J) (fun u => x.rs.length - u.k) ⟨0, I⟩ ⟨Nat.zero_le _, Imm.le_refl _⟩ ⟨rfl, rfl, rfl, congrArg (fun z => some (Value.int .i64 z)) (show (1 : Int) = ((x.base + 0 + 1 : Nat) : Int) by omega), trivial⟩ rfl zA ?_; rintro ⟨k, J⟩ ⟨hkl, hJ⟩; dsimp only at hkl hJ
 try dsimp only
 try simp only [nf]
 refine WP.seq (WP.seq ?_)
 refine WP.region [0, 1, 2, 3, 4] rfl ?_; iterate 2 refine WP.mv rfl rfl ?_
 refine WP.loud rfl rfl ?_; refine Op.cl (log_Head (hlg.mono hJ)) rfl Tryz.func18 rfl rfl rfl rfl ?_; rintro v J L1 - ⟨rfl, rfl, rfl⟩
 try simp only [nf]
 refine WP.vl rfl (Yld.field rfl ty_fl_56_0 ty_sc_3 rfl rfl) ?_; refine WP.split rfl rfl rfl rfl (Yld.leq rfl rfl rfl) (fun hle => ?_) (fun hle => ?_)
 ·have hno : x.no = x.base + x.rs.length := rfl
  have hk : k < x.rs.length := by omega
  have hfl : ((x.rs.take k).filter (comN nn)).length ≤ k := Nat.le_trans (List.length_filter_le _ _) (by rw [List.length_take]; omega)
  refine WP.nil ?_; refine WP.sub [(0, _), (1, _), (5, _), (6, _), (17, _)] ?_ ⟨rfl, rfl, rfl, rfl, rfl, trivial⟩
  refine WP.next ?_; refine WP.condT rfl ?_; refine WP.skip (WP.next (WP.seq (WP.block (WP.seq ?_))))
  refine WP.region [0, 1, 2, 3, 4, 5, 6, 7, 8, 9, 10, 11] rfl ?_; iterate 2 refine WP.mv rfl rfl ?_
  refine WP.loud rfl rfl ?_; refine Op.cl (log_Record (hlg.mono hJ) hk (by omega)) rfl Tryz.func56 rfl rfl rfl rfl ?_; rintro v J L5 - ⟨rfl, vb, Lc, rfl, hvb, rfl⟩
  try simp only [nf]
  obtain ⟨Av, cv, rfl, _⟩ := hvb.slice
  refine WP.mv rfl rfl ?_; iterate 4 refine WP.vl rfl (Yld.extract rfl rfl rfl) ?_
  iterate 4 refine WP.mv rfl rfl ?_
  refine WP.nil ?_; refine WP.sub [(0, _), (1, _), (5, _), (6, _), (7, _), (9, _), (10, _), (17, _)] ?_ ⟨rfl, rfl, rfl, rfl, rfl, rfl, rfl, rfl, trivial⟩
  refine WP.shO hvb (fun J2 hJ2 hb2 => ?_)
  refine WP.next (WP.seq ?_)
  refine WP.region [0, 1, 2, 3, 4, 5, 6] rfl ?_; refine WP.mv rfl rfl ?_; refine WP.loud rfl rfl ?_; refine Op.cl (txn_DecodeCommitU hb2 (by obtain ⟨_, _, _, h, _⟩ := hb2; have := hrl x.rs[k] (List.getElem_mem hk); omega)) rfl Tryz.func34 rfl rfl rfl rfl ?_; rintro v J3 L6 hJ3 ⟨rfl, n1, e1, rfl, hdc⟩
  try simp only [nf]
  refine WP.mv rfl rfl ?_; iterate 2 refine WP.vl rfl (Yld.extract rfl rfl rfl) ?_
  iterate 2 refine WP.mv rfl rfl ?_
  refine WP.nil ?_; refine WP.sub [(0, _), (1, _), (5, _), (6, _), (7, _), (9, _), (10, _), (11, _), (12, _), (17, _)] ?_ ⟨rfl, rfl, rfl, rfl, rfl, rfl, rfl, rfl, rfl, rfl, trivial⟩
  refine WP.next (WP.seq ?_)
  refine WP.region [0, 1, 2, 3, 4, 5, 6, 7, 8, 9, 10, 11, 12, 13, 14, 15, 16, 17] rfl ?_; iterate 2 refine WP.mv rfl rfl ?_
  refine WP.valG rfl rfl rfl rfl rfl rfl rfl (Yld.move rfl rfl) ?_; refine WP.splitG rfl rfl rfl rfl rfl rfl rfl (Yld.eql rfl rfl rfl) (fun h73 => ?_) (fun h73 => ?_)
  ·refine WP.vl rfl (Yld.pickT rfl rfl rfl) ?_
   refine WP.mv rfl rfl ?_; refine WP.valG rfl rfl rfl rfl rfl rfl rfl (Yld.move rfl rfl) ?_; refine WP.splitG rfl rfl rfl rfl rfl rfl rfl (Yld.eql rfl rfl rfl) (fun h77 => ?_) (fun h77 => ?_)
   ·refine WP.vl rfl (Yld.pickT rfl rfl rfl) ?_
    refine WP.mv rfl rfl ?_; refine WP.valG rfl rfl rfl rfl rfl rfl rfl (Yld.move rfl rfl) ?_; refine WP.splitG rfl rfl rfl rfl rfl rfl rfl (Yld.eql rfl rfl rfl) (fun h711 => ?_) (fun h711 => ?_)
    ·refine WP.valG rfl rfl rfl rfl rfl rfl rfl (Yld.move rfl rfl) ?_
     iterate 3 refine WP.passG rfl rfl rfl rfl rfl rfl rfl rfl ?_
     refine WP.valG rfl rfl rfl rfl rfl rfl rfl (Yld.pickT rfl rfl rfl) ?_; refine WP.vl rfl (Yld.pickT rfl rfl rfl) ?_; refine WP.nil ?_; refine WP.sub [(0, _), (1, _), (5, _), (6, _), (7, _), (9, _), (10, _), (11, _), (12, _), (17, _), (50, _)] ?_ ⟨rfl, rfl, rfl, rfl, rfl, rfl, rfl, rfl, rfl, rfl, rfl, trivial⟩
     refine WP.next ?_; refine WP.condT rfl ?_; refine WP.region [0, 1, 2] rfl ?_; refine WP.mv rfl rfl ?_; refine WP.vl rfl (Yld.add64 rfl rfl rfl (by omega)) ?_; refine WP.mv rfl rfl ?_; refine WP.nil ?_; refine WP.sub [(0, _), (1, _), (5, _), (6, _), (7, _), (9, _), (10, _), (11, _), (12, _), (17, _), (50, _)] ?_ ⟨rfl, rfl, rfl, rfl, rfl, rfl, rfl, rfl, rfl, rfl, rfl, trivial⟩
     refine WP.leave (WP.next ?_)
     refine WP.region [0, 1, 2] rfl ?_; refine WP.mv rfl rfl ?_; refine WP.vl rfl (Yld.add64 rfl rfl rfl (by omega)) ?_; refine WP.mv rfl rfl ?_; refine WP.nil ?_; refine WP.sub [(0, _), (1, _), (5, _), (6, _), (7, _), (9, _), (10, _), (11, _), (12, _), (17, _), (50, _)] ?_ ⟨rfl, rfl, rfl, rfl, rfl, rfl, rfl, rfl, rfl, rfl, rfl, trivial⟩
     obtain ⟨hok, hn1, _⟩ := hdc.resolve_right (fun h => by have := h.2.2; omega)
     have hcp : comN nn x.rs[k] = true := decide_eq_true ⟨h73, hok, .inl h711⟩
     exact WP.again ⟨k + 1, J3⟩ ⟨Nat.succ_le_of_lt hk, Imm.le_trans hJ (Imm.le_trans hJ2 hJ3)⟩ (show x.rs.length - (k + 1) < x.rs.length - k by omega) ⟨rfl, rfl, congrArg (fun z => some (Value.int .i64 z)) (by dsimp only; rw [filter_succ _ hk, List.length_append, hcp]; simp), rfl, trivial⟩ rfl zA
    ·refine WP.valG rfl rfl rfl rfl rfl rfl rfl (Yld.move rfl rfl) ?_
     iterate 2 refine WP.valG rfl rfl rfl rfl rfl rfl rfl (Yld.move rfl rfl) ?_
     refine WP.splitG rfl rfl rfl rfl rfl rfl rfl (Yld.eql rfl rfl rfl) (fun h715 => ?_) (fun h715 => ?_)
     ·refine WP.valG rfl rfl rfl rfl rfl rfl rfl (Yld.pickF rfl rfl rfl) ?_
      refine WP.vl rfl (Yld.pickT rfl rfl rfl) ?_; refine WP.nil ?_; refine WP.sub [(0, _), (1, _), (5, _), (6, _), (7, _), (9, _), (10, _), (11, _), (12, _), (17, _), (50, _)] ?_ ⟨rfl, rfl, rfl, rfl, rfl, rfl, rfl, rfl, rfl, rfl, rfl, trivial⟩
      refine WP.next ?_; refine WP.condT rfl ?_; refine WP.region [0, 1, 2] rfl ?_; refine WP.mv rfl rfl ?_; refine WP.vl rfl (Yld.add64 rfl rfl rfl (by omega)) ?_; refine WP.mv rfl rfl ?_; refine WP.nil ?_; refine WP.sub [(0, _), (1, _), (5, _), (6, _), (7, _), (9, _), (10, _), (11, _), (12, _), (17, _), (50, _)] ?_ ⟨rfl, rfl, rfl, rfl, rfl, rfl, rfl, rfl, rfl, rfl, rfl, trivial⟩
      refine WP.leave (WP.next ?_)
      refine WP.region [0, 1, 2] rfl ?_; refine WP.mv rfl rfl ?_; refine WP.vl rfl (Yld.add64 rfl rfl rfl (by omega)) ?_; refine WP.mv rfl rfl ?_; refine WP.nil ?_; refine WP.sub [(0, _), (1, _), (5, _), (6, _), (7, _), (9, _), (10, _), (11, _), (12, _), (17, _), (50, _)] ?_ ⟨rfl, rfl, rfl, rfl, rfl, rfl, rfl, rfl, rfl, rfl, rfl, trivial⟩
      obtain ⟨hok, hn1, _⟩ := hdc.resolve_right (fun h => by have := h.2.2; omega)
      have hcp : comN nn x.rs[k] = true := decide_eq_true ⟨h73, hok, .inr (by rw [← hn1]; exact h715)⟩
      exact WP.again ⟨k + 1, J3⟩ ⟨Nat.succ_le_of_lt hk, Imm.le_trans hJ (Imm.le_trans hJ2 hJ3)⟩ (show x.rs.length - (k + 1) < x.rs.length - k by omega) ⟨rfl, rfl, congrArg (fun z => some (Value.int .i64 z)) (by dsimp only; rw [filter_succ _ hk, List.length_append, hcp]; simp), rfl, trivial⟩ rfl zA
     ·refine WP.valG rfl rfl rfl rfl rfl rfl rfl (Yld.pickF rfl rfl rfl) ?_
      refine WP.vl rfl (Yld.pickT rfl rfl rfl) ?_; refine WP.nil ?_; refine WP.sub [(0, _), (1, _), (5, _), (6, _), (7, _), (9, _), (10, _), (11, _), (12, _), (17, _), (50, _)] ?_ ⟨rfl, rfl, rfl, rfl, rfl, rfl, rfl, rfl, rfl, rfl, rfl, trivial⟩
      refine WP.next ?_; refine WP.condF rfl ?_; refine WP.skip (WP.leave (WP.next ?_))
      refine WP.region [0, 1, 2] rfl ?_; refine WP.mv rfl rfl ?_; refine WP.vl rfl (Yld.add64 rfl rfl rfl (by omega)) ?_; refine WP.mv rfl rfl ?_; refine WP.nil ?_; refine WP.sub [(0, _), (1, _), (5, _), (6, _), (7, _), (9, _), (10, _), (11, _), (12, _), (17, _), (50, _)] ?_ ⟨rfl, rfl, rfl, rfl, rfl, rfl, rfl, rfl, rfl, rfl, rfl, trivial⟩
      obtain ⟨hok, hn1, _⟩ := hdc.resolve_right (fun h => by have := h.2.2; omega)
      have hcp : comN nn x.rs[k] = false := decide_eq_false (fun q => by have q1 := q.1; have q2 := q.2.1; have q3 := q.2.2; first | exact h73 q1 | exact hnok q2 | (rcases q3 with q3 | q3; exact h711 q3; exact h715 (by rw [hn1]; exact q3)))
      exact WP.again ⟨k + 1, J3⟩ ⟨Nat.succ_le_of_lt hk, Imm.le_trans hJ (Imm.le_trans hJ2 hJ3)⟩ (show x.rs.length - (k + 1) < x.rs.length - k by omega) ⟨rfl, rfl, congrArg (fun z => some (Value.int .i64 z)) (by dsimp only; rw [filter_succ _ hk, List.length_append, hcp]; simp), rfl, trivial⟩ rfl zA
   ·refine WP.vl rfl (Yld.pickT rfl rfl rfl) ?_
    refine WP.mv rfl rfl ?_; iterate 7 refine WP.passG rfl rfl rfl rfl rfl rfl rfl rfl ?_
    refine WP.vl rfl (Yld.pickF rfl rfl rfl) ?_; refine WP.nil ?_; refine WP.sub [(0, _), (1, _), (5, _), (6, _), (7, _), (9, _), (10, _), (11, _), (12, _), (17, _), (50, _)] ?_ ⟨rfl, rfl, rfl, rfl, rfl, rfl, rfl, rfl, rfl, rfl, rfl, trivial⟩
    refine WP.next ?_; refine WP.condF rfl ?_; refine WP.skip (WP.leave (WP.next ?_))
    refine WP.region [0, 1, 2] rfl ?_; refine WP.mv rfl rfl ?_; refine WP.vl rfl (Yld.add64 rfl rfl rfl (by omega)) ?_; refine WP.mv rfl rfl ?_; refine WP.nil ?_; refine WP.sub [(0, _), (1, _), (5, _), (6, _), (7, _), (9, _), (10, _), (11, _), (12, _), (17, _), (50, _)] ?_ ⟨rfl, rfl, rfl, rfl, rfl, rfl, rfl, rfl, rfl, rfl, rfl, trivial⟩
    have hnok : ¬ okC x.rs[k].b := fun h => by rcases hdc with ⟨_, _, h3⟩ | ⟨h3, _⟩; exact h77 h3; exact h3 h
    have hcp : comN nn x.rs[k] = false := decide_eq_false (fun q => by have q1 := q.1; have q2 := q.2.1; have q3 := q.2.2; first | exact h73 q1 | exact hnok q2 | (rcases q3 with q3 | q3; exact h711 q3; exact h715 (by rw [hn1]; exact q3)))
    exact WP.again ⟨k + 1, J3⟩ ⟨Nat.succ_le_of_lt hk, Imm.le_trans hJ (Imm.le_trans hJ2 hJ3)⟩ (show x.rs.length - (k + 1) < x.rs.length - k by omega) ⟨rfl, rfl, congrArg (fun z => some (Value.int .i64 z)) (by dsimp only; rw [filter_succ _ hk, List.length_append, hcp]; simp), rfl, trivial⟩ rfl zA
  ·refine WP.vl rfl (Yld.pickT rfl rfl rfl) ?_
   refine WP.mv rfl rfl ?_; iterate 2 refine WP.passG rfl rfl rfl rfl rfl rfl rfl rfl ?_
   refine WP.vl rfl (Yld.pickF rfl rfl rfl) ?_; refine WP.mv rfl rfl ?_; iterate 7 refine WP.passG rfl rfl rfl rfl rfl rfl rfl rfl ?_
   refine WP.vl rfl (Yld.pickF rfl rfl rfl) ?_; refine WP.nil ?_; refine WP.sub [(0, _), (1, _), (5, _), (6, _), (7, _), (9, _), (10, _), (11, _), (12, _), (17, _), (50, _)] ?_ ⟨rfl, rfl, rfl, rfl, rfl, rfl, rfl, rfl, rfl, rfl, rfl, trivial⟩
   refine WP.next ?_; refine WP.condF rfl ?_; refine WP.skip (WP.leave (WP.next ?_))
   refine WP.region [0, 1, 2] rfl ?_; refine WP.mv rfl rfl ?_; refine WP.vl rfl (Yld.add64 rfl rfl rfl (by omega)) ?_; refine WP.mv rfl rfl ?_; refine WP.nil ?_; refine WP.sub [(0, _), (1, _), (5, _), (6, _), (7, _), (9, _), (10, _), (11, _), (12, _), (17, _), (50, _)] ?_ ⟨rfl, rfl, rfl, rfl, rfl, rfl, rfl, rfl, rfl, rfl, rfl, trivial⟩
   have hcp : comN nn x.rs[k] = false := decide_eq_false (fun q => by have q1 := q.1; have q2 := q.2.1; have q3 := q.2.2; first | exact h73 q1 | exact hnok q2 | (rcases q3 with q3 | q3; exact h711 q3; exact h715 (by rw [hn1]; exact q3)))
   exact WP.again ⟨k + 1, J3⟩ ⟨Nat.succ_le_of_lt hk, Imm.le_trans hJ (Imm.le_trans hJ2 hJ3)⟩ (show x.rs.length - (k + 1) < x.rs.length - k by omega) ⟨rfl, rfl, congrArg (fun z => some (Value.int .i64 z)) (by dsimp only; rw [filter_succ _ hk, List.length_append, hcp]; simp), rfl, trivial⟩ rfl zA
 ·have hno : x.no = x.base + x.rs.length := rfl
  obtain rfl : k = x.rs.length := by omega
  rw [List.take_length]
  refine WP.nil ?_; refine WP.sub [(0, _), (1, _), (5, _), (6, _), (17, _)] ?_ ⟨rfl, rfl, rfl, rfl, rfl, trivial⟩
  refine WP.next ?_; refine WP.condF rfl ?_; refine WP.exit (WP.thenE (WP.thenE (WP.hit (WP.next (WP.seq ?_)))))
  refine WP.region [0, 1] rfl ?_; iterate 2 refine WP.mv rfl rfl ?_
  refine WP.nil ?_; refine WP.sub [(0, _), (1, _), (4, _), (5, _), (6, _), (17, _)] ?_ ⟨rfl, rfl, rfl, rfl, rfl, rfl, trivial⟩
  refine WP.next (WP.ret ?_)
  refine WP.fn .ret (.inr rfl) (res1 rfl rfl) Ll hJ ?_; exact ⟨rfl, hlg.mono hJ⟩


/-- A group of small pages that is alone, and is stepped. -/
structure SI (rs : List Pr) (n : Nat) (x : Lg) (tb : Tb) (z : Gp) : Prop where
 ph : Ph rs 1 x tb z
 c : PhC rs 1 z
 lg : LgB x
 al : alone x z
 lo : x.lo = 0
 tok : tb.tok ≤ n + z.W rs.length
 kd : z.at_ ≤ 3 → ∀ r ∈ x.rs, r.kind = 3
 hd : z.at_ ≤ 3 → raw tb (hdP rs)
 t1 : z.at_ ≤ 1 → ∀ r ∈ rs.tail, raw tb r
 t2 : z.at_ = 2 → ∀ r ∈ prs z.left, raw tb r
theorem SI.pre {rs : List Pr} {n : Nat} {x : Lg} {tb : Tb} {z : Gp} (h : SI rs n x tb z) (wf : Wf rs) (hn : n ≤ 1000) : z.pre tb := by
 have h1 := h.al.1; have h2 := z.V_le; have h3 := h.tok; have h4 := z.W_le rs.length; have h5 := wf.may.2.1
 exact h.ph.pre wf h.c h.lg (by omega) (by omega)
theorem SI.step {rs : List Pr} {n : Nat} {x x2 : Lg} {tb tb2 : Tb} {z z2 : Gp} {b : Bool} (h : SI rs n x tb z) (wf : Wf rs) (hs : Stp x tb z b z2 x2 tb2) : SI rs n x2 tb2 z2 := by
 have h1 := h.al.1; have h2 := z.V_le
 have w := hs.went wf h.c h.lg (by omega) h.ph
 have hal := h.al.went h.lg w
 have htk := w.tok
 have h3 := h.tok
 have key : x2.lo = 0 ∧ (z2.at_ ≤ 3 → ∀ r ∈ x2.rs, r.kind = 3) ∧ (z2.at_ ≤ 3 → raw tb2 (hdP rs)) ∧ (z2.at_ ≤ 1 → ∀ r ∈ rs.tail, raw tb2 r) ∧ (z2.at_ = 2 → ∀ r ∈ prs z2.left, raw tb2 r) := by
  by_cases h4 : 4 ≤ z.at_
  ·have hp := h.ph.i0p
   by_cases h9 : z.at_ = 9 ∨ z.at_ = 8
   ·have hz : z.at_ = 9 := (h.ph.i9 (by omega)).1
    cases hs with
    | nil _ => exact ⟨h.lo, fun q => by omega, fun q => by omega, fun q => by omega, fun q => by omega⟩
    | _ => exfalso; omega
   ·obtain ⟨hc, _⟩ := hs.co h4 (by omega) (thoseF wf h.c)
    have w2 := (h.ph.bph wf h4).step wf h.lg (by omega) hc
    have h5 := w2.ph.at_
    have hat : z2.co.at_ = z2.at_ := rfl
    refine ⟨?_, fun q => by omega, fun q => by omega, fun q => by omega, fun q => by omega⟩
    rcases w2.xs with e | ⟨r, _, _, e⟩ <;> rw [e] <;> exact h.lo
  ·cases hs with
   | begin h0 =>
    have e : z.begins x = (false, ((z.setB (groupB rs)).setC { z.c with hn := x.no, hp := x.pl }).go 1) := by unfold Gp.begins; rw [h.c.pages, encE_wf wf]; rfl
    rw [e]
    exact ⟨h.lo, fun _ => h.kd (by omega), fun _ => h.hd (by omega), fun _ => h.t1 (by omega), fun q => absurd (show (1 : Nat) = 2 from q) (by decide)⟩
   | @append h0 e x2 he ha =>
    have hlo : x2.lo = 0 := by rcases ha with ⟨_, rfl⟩ | ⟨_, r, _, _, rfl⟩ <;> exact h.lo
    have hkd : ∀ r ∈ x2.rs, r.kind = 3 := by
     rcases ha with ⟨_, rfl⟩ | ⟨_, r, hk, _, rfl⟩
     ·exact h.kd (by omega)
     ·intro q hq
      rcases List.mem_append.1 hq with hq | hq
      ·exact h.kd (by omega) q hq
      ·cases List.mem_singleton.1 hq; exact hk
    have hth : thoseL z.pages 1 true = z.pages.drop 1 := those_t (by rw [h.c.pages]; exact wf.nn) 1
    have hpl : (prs (z.pages.drop 1)) = rs.tail := by rw [prs_drop, h.c.pages, List.drop_one]
    have hr := h.t1 (by omega)
    refine ⟨hlo, fun _ => hkd, fun _ => h.hd (by omega), fun _ => hr, fun q => ?_⟩
    unfold Gp.appends at q ⊢
    split at q
    ·split at q
     ·exact absurd (show (3 : Nat) = 2 from q) (by decide)
     ·rename_i g1 g2
      rw [if_pos g1, if_neg g2]
      show ∀ r ∈ prs (thoseL z.pages 1 true), raw tb r
      rw [hth, hpl]; exact hr
    ·split at q
     ·exact absurd (show (0 : Nat) = 2 from q) (by decide)
     ·exact absurd (show (9 : Nat) = 2 from q) (by decide)
   | @put h0 h1' r tb2 hp =>
    obtain ⟨hn, hpl, ⟨k, hk, hlf, hmd⟩, hpt⟩ := h.ph.i2 h0
    obtain ⟨q, hq⟩ : ∃ q, q = rs.tail[k] := ⟨_, rfl⟩
    have hqm : q ∈ rs.tail := by rw [hq]; exact List.getElem_mem _
    have hL : (z.left[0]'h1').1 = q := by
     have g1 : (prs z.left)[0]? = some q := by rw [hlf, List.drop_eq_getElem_cons hk, hq]; rfl
     rw [List.getElem?_eq_getElem (by rw [prs_len]; exact h1'), prs_at h1'] at g1
     exact Option.some.inj g1
    rw [hL] at hp
    have hent : ∀ j, j ≠ q.page → tb2.ent j = tb.ent j := by
     rcases hp with ⟨_, _, rfl⟩ | ⟨_, _, hu⟩
     ·exact fun _ _ => rfl
     ·exact fun j hj => by rw [hu.ent, if_neg hj]
    have htl : prs z.left.tail = rs.tail.drop (k + 1) := by rw [prs_tail, hlf, List.tail_drop]
    have hnd : (pgs (rs.tail.take k ++ q :: rs.tail.drop (k + 1))).Nodup := by rw [hq, ← split_at hk]; exact tail_nd wf
    have hhd := (h.hd (by omega)).of (hent _ (fun e => tail_ne wf hqm e.symm))
    have hrest : ∀ r ∈ prs z.left.tail, raw tb2 r := fun r hr => by
     have hr2 : r ∈ prs z.left := by rw [prs_tail] at hr; exact List.mem_of_mem_tail hr
     rw [htl] at hr
     exact (h.t2 h0 r hr2).of (hent _ ((nd_mid hnd).2 r hr))
    refine ⟨h.lo, fun _ => h.kd (by omega), fun _ => hhd, fun q => ?_, fun q => ?_⟩
    ·unfold Gp.puts at q
     split at q
     ·split at q
      ·exact absurd (show (3 : Nat) ≤ 1 from q) (by decide)
      ·have : z.at_ ≤ 1 := q; omega
     ·exact absurd (show (9 : Nat) ≤ 1 from q) (by decide)
    ·unfold Gp.puts at q ⊢
     split at q
     ·split at q
      ·exact absurd (show (3 : Nat) = 2 from q) (by decide)
      ·rename_i g1 g2
       rw [if_pos g1, if_neg g2]; exact hrest
     ·exact absurd (show (9 : Nat) = 2 from q) (by decide)
   | @swap h0 r tb2 hsw =>
    have h5 : 4 ≤ (z.swaps r).2.at_ := by unfold Gp.swaps; split; exact Nat.le_refl 4; exact (by decide : 4 ≤ 9)
    exact ⟨h.lo, fun q => by omega, fun q => by omega, fun q => by omega, fun q => by omega⟩
   | _ => exfalso; omega
 exact ⟨w.ph, w.c, w.lg, hal, key.1, by omega, key.2.1, key.2.2.1, key.2.2.2.1, key.2.2.2.2⟩

end Go.Hp
