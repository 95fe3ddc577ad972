import Derived.Test.YtcebcphnmbhcpaaGreatCacE
set_option linter.unusedVariables false
set_option linter.unusedSimpArgs false
namespace Go.Hp
open Go Go.Proofs

abbrev Nds := List (Bool × List UInt8)
/-- A page's nodes: the last one, and no other, is a base. -/
structure NForm (N : Nds) : Prop where
 pos : 1 ≤ N.length
 most : N.length ≤ 64
 base : ∀ i (h : i < N.length), N[i].1 = decide (i + 1 = N.length)
/-- What a record at a place says of a page. -/
structure RecAt (x : Lg) (p : Int) (q : Nat) (r : Pr) : Prop where
 ex : ∃ k, ∃ hk : k < x.rs.length, x.endP k = q ∧ x.rs[k].kind = 2 ∧ x.rs[k].b = pageB r
 may : r.may
 len : (pageB r).length ≤ 12671
 page : r.page = p
 prev : r.prev < (q : Int)
theorem endP_inj {x : Lg} {i j : Nat} (hi : i < x.rs.length) (hj : j < x.rs.length) (h : x.endP i = x.endP j) : i = j := by
 rcases Nat.lt_trichotomy i j with h1 | h1 | h1
 ·have := x.endP_lt h1 hi; have := (x.rs[i]).pos; omega
 ·exact h1
 ·have := x.endP_lt h1 hj; have := (x.rs[j]).pos; omega
theorem RecAt.uniq {x : Lg} {p p' : Int} {q : Nat} {r r' : Pr} (h : RecAt x p q r) (h' : RecAt x p' q r') : r = r' := by
 obtain ⟨k, hk, e1, _, e2⟩ := h.ex
 obtain ⟨k', hk', e1', _, e2'⟩ := h'.ex
 obtain rfl := endP_inj hk hk' (e1.trans e1'.symm)
 have e3 : pageB r = pageB r' := e2.symm.trans e2'
 have h1 := (okP_lay h.may h.len).2
 have h2 := (okP_lay h'.may h'.len).2
 rw [← h1, ← h2, e3]
theorem RecAt.push {x : Lg} {p : Int} {q : Nat} {r : Pr} (h : RecAt x p q r) (s : Rc) : RecAt (x.push s) p q r := by
 obtain ⟨k, hk, e1, e2, e3⟩ := h.ex
 have hk2 : k < (x.push s).rs.length := by show k < (x.rs ++ [s]).length; rw [List.length_append]; omega
 have e : (x.push s).rs[k] = x.rs[k] := List.getElem_append_left hk
 exact ⟨⟨k, hk2, by rw [x.endP_push s (Nat.le_of_lt hk)]; exact e1, by rw [e]; exact e2, by rw [e]; exact e3⟩, h.may, h.len, h.page, h.prev⟩
theorem RecAt.lt {x : Lg} {p : Int} {q : Nat} {r : Pr} (h : RecAt x p q r) : q < x.pl := by
 obtain ⟨k, hk, e1, _, _⟩ := h.ex
 have h1 := x.endP_succ hk
 have h2 := x.endP_pl (k + 1)
 have h3 := (x.rs[k]).pos
 omega
/-- A page's chain in the log. -/
inductive Ch (x : Lg) (p : Int) : Nat → Nds → Prop
 | last {q : Nat} {r : Pr} (h : RecAt x p q r) (hv : r.prev = 0) : Ch x p q r.nodes
 | more {q q' : Nat} {r : Pr} {N : Nds} (h : RecAt x p q r) (hv : r.prev = (q' : Int)) (h0 : 0 < q') (hc : Ch x p q' N) : Ch x p q (r.nodes ++ N)
theorem Ch.push {x : Lg} {p : Int} {q : Nat} {N : Nds} (h : Ch x p q N) (s : Rc) : Ch (x.push s) p q N := by
 induction h with
 | last h hv => exact .last (h.push s) hv
 | more h hv h0 _ ih => exact .more (h.push s) hv h0 ih
theorem Ch.lt {x : Lg} {p : Int} {q : Nat} {N : Nds} (h : Ch x p q N) : q < x.pl := by cases h with | last h _ => exact h.lt | more h _ _ _ => exact h.lt
theorem Ch.pos {x : Lg} {p : Int} {q : Nat} {N : Nds} (h : Ch x p q N) : 1 ≤ N.length := by
 cases h with
 | last h _ => exact h.may.2.2.2.1
 | more h _ _ _ => have := h.may.2.2.2.1; rw [List.length_append]; omega
theorem Ch.find {x : Lg} {p : Int} {q : Nat} {N : Nds} (h : Ch x p q N) : ∃ r, RecAt x p q r ∧ ((r.prev = 0 ∧ N = r.nodes) ∨ ∃ (q' : Nat) (N' : Nds), r.prev = (q' : Int) ∧ 0 < q' ∧ Ch x p q' N' ∧ N = r.nodes ++ N') := by
 cases h with
 | last h hv => exact ⟨_, h, .inl ⟨hv, rfl⟩⟩
 | more h hv h0 hc => exact ⟨_, h, .inr ⟨_, _, hv, h0, hc, rfl⟩⟩
theorem ch_uniq {x : Lg} {p p' : Int} {q : Nat} {N N' : Nds} (h : Ch x p q N) (h' : Ch x p' q N') : N = N' := by
 induction h generalizing N' with
 | last h hv =>
  obtain ⟨r, h1, ⟨h2, h3⟩ | ⟨q', M, h2, h3, _⟩⟩ := h'.find
  ·rw [h3, h.uniq h1]
  ·rw [h.uniq h1] at hv; omega
 | more h hv h0 hc ih =>
  obtain ⟨r, h1, ⟨h2, h3⟩ | ⟨q', M, h2, h3, h4, h5⟩⟩ := h'.find
  ·rw [h.uniq h1] at hv; omega
  ·have e := h.uniq h1
   rw [e] at hv
   obtain rfl : _ = q' := Int.ofNat.inj (hv.symm.trans h2)
   rw [h5, e, ih h4]
/-- The log of such a world. -/
structure LgW (m : Nat) (x : Lg) : Prop where
 g : x.g = ⟨m, 1, 1⟩
 base : x.base = 0
 p0 : x.p0 = 8
 mno : x.mno = 0
 wr : x.wr = 0
 pb : x.pl ≤ (1 + m) * 8
 m60 : m ≤ 60
theorem apE_zero {x : Lg} {hn hp : Nat} {k : Int} {b : List UInt8} (h : x.apE hn hp k b = 0) : hn = x.no ∧ hp = x.pl ∧ ((x.pl + kmany b : Nat) : Int) ≤ x.room k := by
 unfold Lg.apE at h
 split at h; · cases h
 split at h; · cases h
 split at h; · cases h
 split at h; · cases h
 split at h; · cases h
 rename_i h1 h2 h3 h4 h5
 have h3 := Decidable.not_not.1 h3
 exact ⟨h3.1, h3.2, by omega⟩
theorem LgW.ende {m : Nat} {x : Lg} (h : LgW m x) : x.ende = ((1 + m) * 8 : Nat) := by
 unfold Lg.ende; rw [h.g]
theorem LgW.lo {m : Nat} {x : Lg} (h : LgW m x) : x.lo = 0 := by unfold Lg.lo; rw [h.mno]; exact Nat.zero_min _
theorem LgW.push {m : Nat} {x : Lg} (h : LgW m x) {r : Rc} {hn hp : Nat} {k : Int} (ha : x.apE hn hp k r.b = 0) : LgW m (x.push r) := by
 refine ⟨h.g, h.base, h.p0, h.mno, h.wr, ?_, h.m60⟩
 have h1 := (apE_zero ha).2.2
 have h2 := x.room_le k
 have h3 := h.ende
 have h4 : r.n = kmany r.b := rfl
 rw [x.pl_push, h4]; omega
/-- How long a node's bytes, and a page's chain, may be. -/
structure Bd where
 b : Nat
 k : Nat
/-- An entry of a page whose nodes are N. -/
structure EOk (B : Bd) (x : Lg) (p : Int) (N : Nds) (e : Ent) : Prop where
 nf : NForm N
 txn : e.txn = 0
 wt : e.with_ = []
 ld : e.lead = 0
 no : 0 ≤ e.no
 low : 0 ≤ e.low
 sz : N.length ≤ B.k ∧ ∀ y ∈ N, y.2.length ≤ B.b
 st : (e.place = 0 ∧ e.kept = 0 ∧ e.nodes = N) ∨ ∃ q : Nat, e.place = (q : Int) ∧ 0 < q ∧ ((e.nodes = [] ∧ e.kept = 0 ∧ Ch x p q N) ∨ (e.nodes = N ∧ ∃ j : Nat, e.kept = (j : Int) ∧ j ≤ N.length ∧ Ch x p q (N.drop (N.length - j))))
theorem EOk.mono {B : Bd} {x x2 : Lg} {p : Int} {N : Nds} {e : Ent} (h : EOk B x p N e) (hx : ∀ {q M}, Ch x p q M → Ch x2 p q M) : EOk B x2 p N e :=
 ⟨h.nf, h.txn, h.wt, h.ld, h.no, h.low, h.sz, by
  rcases h.st with h | ⟨q, h1, h2, ⟨h3, h4, h5⟩ | ⟨h3, j, h4, h5, h6⟩⟩
  ·exact .inl h
  ·exact .inr ⟨q, h1, h2, .inl ⟨h3, h4, hx h5⟩⟩
  ·exact .inr ⟨q, h1, h2, .inr ⟨h3, j, h4, h5, hx h6⟩⟩⟩
theorem EOk.nds {B : Bd} {x : Lg} {p : Int} {N : Nds} {e : Ent} (h : EOk B x p N e) : e.nodes = [] ∨ e.nodes = N := by
 rcases h.st with ⟨_, _, h⟩ | ⟨_, _, _, ⟨h, _⟩ | ⟨h, _⟩⟩
 ·exact .inr h
 ·exact .inl h
 ·exact .inr h
theorem EOk.kept {B : Bd} {x : Lg} {p : Int} {N : Nds} {e : Ent} (h : EOk B x p N e) : 0 ≤ e.kept ∧ e.kept ≤ (e.nodes.length : Int) := by
 rcases h.st with ⟨_, h, _⟩ | ⟨_, _, _, ⟨_, h, _⟩ | ⟨h, j, h4, h5, _⟩⟩
 ·omega
 ·omega
 ·rw [h]; omega
theorem EOk.place {B : Bd} {x : Lg} {p : Int} {N : Nds} {e : Ent} (h : EOk B x p N e) : 0 ≤ e.place ∧ (e.place = 0 ∨ e.place < (x.pl : Int)) := by
 rcases h.st with ⟨h, _, _⟩ | ⟨q, h1, h2, ⟨_, _, h⟩ | ⟨_, j, _, _, h⟩⟩
 ·omega
 ·have := h.lt; omega
 ·have := h.lt; omega
theorem EOk.len {B : Bd} {x : Lg} {p : Int} {N : Nds} {e : Ent} (h : EOk B x p N e) : e.nodes.length ≤ 64 := by
 rcases h.nds with h1 | h1
 ·rw [h1]; exact Nat.zero_le _
 ·rw [h1]; exact h.nf.most
theorem EOk.szn {B : Bd} {x : Lg} {p : Int} {N : Nds} {e : Ent} (h : EOk B x p N e) : ∀ y ∈ e.nodes, y.2.length ≤ B.b := by
 rcases h.nds with h1 | h1
 ·rw [h1]; intro y hy; cases hy
 ·rw [h1]; exact h.sz.2
theorem NForm.fst {N : Nds} (h : NForm N) (i : Nat) (x : Bool × List UInt8) (hi : i + 1 < N.length) (hx : N[i]? = some x) : x.1 = false := by
 have := h.base i (by omega)
 rw [List.getElem?_eq_getElem (by omega)] at hx
 cases hx
 rw [this]; exact decide_eq_false (by omega)
theorem EOk.mayP {B : Bd} {x : Lg} {p : Int} {N : Nds} {e : Ent} (h : EOk B x p N e) : e.mayP := by
 have h1 := h.kept
 have h2 := h.place
 have h3 := h.no
 have h4 := h.low
 refine ⟨h.len, by rw [h.txn, h.ld]; omega, h1.2, by rw [h.ld]; decide, by rw [h.wt]; decide, fun w hw => (by rw [h.wt] at hw; cases hw), fun i y hi hy => ?_⟩
 rcases h.nds with h5 | h5
 ·rw [h5] at hi; exact absurd hi (Nat.not_lt_zero _)
 ·rw [h5] at hi hy; exact h.nf.fst i y hi hy
theorem EOk.sized {B : Bd} (hB : B.b ≤ 1099511627776) {x : Lg} {p : Int} {N : Nds} {e : Ent} (h : EOk B x p N e) : e.sized := ⟨by have := h.len; omega, fun y hy => by have := h.szn y hy; omega, by rw [h.wt]; exact Nat.zero_le _⟩
/-- The world: each page that is one has the nodes W. -/
structure CW (m : Nat) (B : Bd) (W : Int → Nds) (tb : Tb) (x : Lg) : Prop where
 lg : LgW m x
 pg : ∀ p, W p ≠ [] → pageOk p
 en : ∀ p, W p ≠ [] → ∃ e, tb.ent p = some e ∧ e.tok ≤ tb.tok ∧ EOk B x p (W p) e
/-- What becomes of a world. -/
structure Gro (tb tb2 : Tb) (x x2 : Lg) : Prop where
 ch : ∀ {p q N}, Ch x p q N → Ch x2 p q N
 tok : tb.tok ≤ tb2.tok
 ent : ∀ p, tb2.ent p = tb.ent p ∨ ∃ e, tb2.ent p = some e ∧ tb.tok < e.tok
theorem Gro.refl (tb : Tb) (x : Lg) : Gro tb tb x x := ⟨id, Nat.le_refl _, fun _ => .inl rfl⟩
theorem Gro.trans {t1 t2 t3 : Tb} {x1 x2 x3 : Lg} (h : Gro t1 t2 x1 x2) (k : Gro t2 t3 x2 x3) : Gro t1 t3 x1 x3 := by
 refine ⟨fun q => k.ch (h.ch q), Nat.le_trans h.tok k.tok, fun p => ?_⟩
 rcases k.ent p with e | ⟨e, h1, h2⟩
 ·rcases h.ent p with e' | ⟨e', h1, h2⟩
  ·exact .inl (e.trans e')
  ·exact .inr ⟨e', e.trans h1, h2⟩
 ·exact .inr ⟨e, h1, Nat.lt_of_le_of_lt h.tok h2⟩
theorem Gro.push (tb : Tb) (x : Lg) (r : Rc) : Gro tb tb x (x.push r) := ⟨fun h => h.push r, Nat.le_refl _, fun _ => .inl rfl⟩
theorem Gro.swap {tb tb2 : Tb} {p : Int} {e : Ent} (h : tb.Swapped tb2 p e) (x : Lg) : Gro tb tb2 x x := by
 refine ⟨id, by rw [h.tok]; exact Nat.le_succ _, fun k => ?_⟩
 rw [h.ent k]
 split
 ·exact .inr ⟨_, rfl, Nat.lt_succ_self _⟩
 ·exact .inl rfl
/-- An entry that a page had. -/
structure Held (B : Bd) (tb : Tb) (x : Lg) (p : Int) (N : Nds) (e : Ent) : Prop where
 ok : EOk B x p N e
 tok : e.tok ≤ tb.tok
 cur : ∀ e', tb.ent p = some e' → e'.tok = e.tok → e' = e
theorem Held.gro {B : Bd} {tb tb2 : Tb} {x x2 : Lg} {p : Int} {N : Nds} {e : Ent} (h : Held B tb x p N e) (g : Gro tb tb2 x x2) : Held B tb2 x2 p N e := by
 refine ⟨h.ok.mono g.ch, Nat.le_trans h.tok g.tok, fun e' h1 h2 => ?_⟩
 rcases g.ent p with h3 | ⟨e3, h3, h4⟩
 ·exact h.cur e' (h3 ▸ h1) h2
 ·rw [h3] at h1; cases h1; have := h.tok; omega
theorem CW.held {m : Nat} {B : Bd} {W : Int → Nds} {tb : Tb} {x : Lg} (h : CW m B W tb x) {p : Int} (hp : W p ≠ []) {e : Ent} (he : tb.ent p = some e) : Held B tb x p (W p) e := by
 obtain ⟨e', h1, h2, h3⟩ := h.en p hp
 rw [he] at h1; cases h1
 exact ⟨h3, h2, fun e' h _ => by rw [he] at h; cases h; rfl⟩
/-- A swap that has gone, with an entry of the same nodes. -/
theorem CW.swap {m : Nat} {B : Bd} {W W2 : Int → Nds} {tb tb2 : Tb} {x : Lg} (h : CW m B W tb x) {p : Int} (hp : pageOk p) {e : Ent} (hs : tb.Swapped tb2 p e) (hW : ∀ k, k ≠ p → W2 k = W k) (he : EOk B x p (W2 p) e) : CW m B W2 tb2 x := by
 refine ⟨h.lg, fun k hk => ?_, fun k hk => ?_⟩
 ·by_cases e : k = p
  ·rw [e]; exact hp
  ·rw [hW k e] at hk; exact h.pg k hk
 ·rw [hs.ent k]
  by_cases e1 : k = p
  ·rw [if_pos e1, e1]
   exact ⟨_, rfl, by rw [hs.tok]; exact Nat.le_refl _, ⟨he.nf, he.txn, he.wt, he.ld, he.no, he.low, he.sz, he.st⟩⟩
  ·rw [if_neg e1]
   rw [hW k e1] at hk ⊢
   obtain ⟨e2, h1, h2, h3⟩ := h.en k hk
   exact ⟨e2, h1, by rw [hs.tok]; omega, h3⟩
theorem CW.push {m : Nat} {B : Bd} {W : Int → Nds} {tb : Tb} {x : Lg} (h : CW m B W tb x) {r : Rc} {hn hp : Nat} {k : Int} (ha : x.apE hn hp k r.b = 0) : CW m B W tb (x.push r) :=
 ⟨h.lg.push ha, h.pg, fun p hp => by obtain ⟨e, h1, h2, h3⟩ := h.en p hp; exact ⟨e, h1, h2, h3.mono fun q => q.push r⟩⟩
/-- What a step of a flush does. -/
inductive FlS (tb : Tb) (x : Lg) (z : Fl) : Bool → Fl → Tb → Lg → Prop
 | loads {e : Ent} (h : z.at_ = 1) (he : tb.ent z.c.page = some e) : FlS tb x z (z.loads e).1 (z.loads e).2 tb x
 | takes (h : z.at_ = 2) : FlS tb x z false (({ z with hn := x.no, hp := x.pl } : Fl).go 3) tb x
 | bad {e : Int} (h : z.at_ = 3) (hb : ¬ z.okR) (he : e = 120 ∨ e = 2) : FlS tb x z true ((z.setR z.rc).fin z.c.ent e) tb x
 | app {e : Int} {x2 : Lg} (h : z.at_ = 3) (hb : z.okR) (he : e = x.apE z.hn z.hp 2 (pageB z.rc)) (hk : ApK x 2 (pageB z.rc) e x2) : FlS tb x z ((z.setR z.rc).appends e x2.no).1 ((z.setR z.rc).appends e x2.no).2 tb x2
 | swaps {r : Int} {tb2 : Tb} (h : z.at_ = 4) (hs : SwR tb z.c.page z.c.ent.tok z.ent2 r tb2) : FlS tb x z (z.swaps r).1 (z.swaps r).2 tb2 x
 | done (h : z.at_ = 9) : FlS tb x z true z tb x
/-- Where a flush may be. -/
structure FlI (B : Bd) (tb : Tb) (x : Lg) (z : Fl) : Prop where
 at_ : z.at_ = 1 ∨ z.at_ = 2 ∨ z.at_ = 3 ∨ z.at_ = 4 ∨ z.at_ = 9
 held : z.at_ = 2 ∨ z.at_ = 3 ∨ z.at_ = 4 → ∃ N, Held B tb x z.c.page N z.c.ent ∧ z.c.ent.nodes = N
 may : z.at_ = 2 ∨ z.at_ = 3 ∨ z.at_ = 4 → ¬ (z.c.ent.kept = z.c.ent.nodes.length ∧ z.full = false)
 app : z.at_ = 4 → Ch x z.c.page z.hp z.c.ent.nodes ∧ z.r = z.rc
theorem FlI.gro {B : Bd} {tb tb2 : Tb} {x x2 : Lg} {z : Fl} (h : FlI B tb x z) (g : Gro tb tb2 x x2) : FlI B tb2 x2 z :=
 ⟨h.at_, fun q => by obtain ⟨N, h1, h2⟩ := h.held q; exact ⟨N, h1.gro g, h2⟩, h.may, fun q => ⟨g.ch (h.app q).1, (h.app q).2⟩⟩
theorem FlI.new (B : Bd) (tb : Tb) (x : Lg) (p : Int) (b : Bool) : FlI B tb x (fl0 p b) := ⟨.inl rfl, fun h => (by rcases h with h | h | h <;> cases h), fun h => (by rcases h with h | h | h <;> cases h), fun h => (by cases h)⟩
/-- What a step leaves as it was. -/
structure FlK (z z2 : Fl) : Prop where
 page : z2.c.page = z.c.page
 full : z2.full = z.full
theorem take_base {N : Nds} (h : NForm N) {k : Nat} (hk : k < N.length) : ∀ i (hi : i < (N.take k).length), (N.take k)[i].1 = false := by
 intro i hi
 rw [List.length_take] at hi
 rw [List.getElem_take, h.base i (by omega)]
 exact decide_eq_false (by omega)
theorem Fl.loads_at {z : Fl} {e : Ent} : ((z.loads e).1 = true ∧ (z.loads e).2.at_ = 9 ∧ (z.loads e).2.c.page = z.c.page ∧ (z.loads e).2.full = z.full) ∨ ((z.loads e).1 = false ∧ (z.loads e).2 = (z.setE e).go 2 ∧ ¬ e.nodes.length = 0 ∧ ¬ (e.kept = e.nodes.length ∧ z.full = false)) := by
 unfold Fl.loads
 split
 ·exact .inl ⟨rfl, rfl, rfl, rfl⟩
 ·split
  ·exact .inl ⟨rfl, rfl, rfl, rfl⟩
  ·rename_i h; exact .inr ⟨rfl, rfl, fun q => h (.inl q), fun q => h (.inr q)⟩
/-- A record that was appended at a place says what the entry's nodes are. -/
theorem app_ch {B : Bd} {x : Lg} {z : Fl} {N : Nds} (he : EOk B x z.c.page N z.c.ent) (hn : z.c.ent.nodes = N) (hb : z.okR) {s : Rc} (hk : s.kind = 2) (hs : s.b = pageB z.rc) (hp : 0 < x.pl) : Ch (x.push s) z.c.page x.pl z.c.ent.nodes := by
 have hrs : (x.push s).rs = x.rs ++ [s] := rfl
 have hlen : x.rs.length < (x.push s).rs.length := by rw [hrs, List.length_append]; exact Nat.lt_succ_self _
 have hget : (x.push s).rs[x.rs.length] = s := by simp [hrs]
 have hend : (x.push s).endP x.rs.length = x.pl := (x.endP_push s (Nat.le_refl _)).trans x.endP_len
 by_cases hc : z.full = false ∧ 0 < z.c.ent.place
 ·have er : z.rc = ⟨z.c.page, z.c.ent.place, z.c.ent.nodes.take (z.c.ent.nodes.length - z.c.ent.kept.toNat)⟩ := if_pos hc
  obtain ⟨q, h1, h2, h3⟩ := he.st.resolve_left (fun q => by omega)
  rcases h3 with ⟨h4, _⟩ | ⟨h4, j, h5, h6, h7⟩
  ·exfalso; have := he.nf.pos; rw [← hn, h4] at this; exact absurd this (Nat.not_lt_zero _)
  ·have hr : RecAt (x.push s) z.c.page x.pl z.rc := ⟨⟨_, hlen, hend, by rw [hget]; exact hk, by rw [hget]; exact hs⟩, hb.1, hb.2, by rw [er], by rw [er]; show z.c.ent.place < _; have := h7.lt; omega⟩
   have hc2 : Ch (x.push s) z.c.page q (N.drop (N.length - j)) := h7.push s
   have := Ch.more hr (q' := q) (by rw [er]; exact h1) h2 hc2
   have e : z.rc.nodes ++ N.drop (N.length - j) = z.c.ent.nodes := by
    rw [er]
    show z.c.ent.nodes.take (z.c.ent.nodes.length - z.c.ent.kept.toNat) ++ _ = _
    rw [hn, show z.c.ent.kept.toNat = j by omega]; exact List.take_append_drop _ _
   rwa [e] at this
 ·have er : z.rc = ⟨z.c.page, 0, z.c.ent.nodes⟩ := if_neg hc
  have hr : RecAt (x.push s) z.c.page x.pl z.rc := ⟨⟨_, hlen, hend, by rw [hget]; exact hk, by rw [hget]; exact hs⟩, hb.1, hb.2, by rw [er], by rw [er]; show (0 : Int) < _; omega⟩
  have := Ch.last hr (by rw [er])
  rwa [er] at this
theorem Held.swapped {B : Bd} {tb tb2 : Tb} {x : Lg} {W : Int → Nds} {m : Nat} (w : CW m B W tb x) {p : Int} (hp : W p ≠ []) {N : Nds} {e e2 : Ent} (h : Held B tb x p N e) {r : Int} (hs : SwR tb p e.tok e2 r tb2) (hN : EOk B x p N e2) : (r = 5 ∧ tb2 = tb ∧ ∃ e0, tb.ent p = some e0 ∧ e0.tok ≠ e.tok) ∨ (r = 0 ∧ N = W p ∧ CW m B W tb2 x ∧ tb.Swapped tb2 p e2 ∧ tb.ent p = some e) := by
 obtain ⟨e1, h1, h2, h3⟩ := w.en p hp
 rcases hs with ⟨g1, _⟩ | ⟨e0, g1, g2⟩
 ·rw [Tb.ent_none g1] at h1; cases h1
 ·have g1 := Tb.ent_some g1
  rcases g2 with ⟨q, _⟩ | ⟨_, q, q1, q2⟩ | ⟨_, q, q1, q2⟩
  ·exact absurd hN.mayP q
  ·exact .inl ⟨q1, q2, _, g1, q⟩
  ·have e3 : e0.2 = e := h.cur _ g1 q
   rw [g1] at h1; cases h1
   rw [e3] at h3 g1
   have hNW : N = W p := by
    rcases h.ok.st with ⟨a1, a2, a3⟩ | ⟨q, a1, a2, ⟨a3, a4, a5⟩ | ⟨a3, j, a4, a5, a6⟩⟩
    ·rcases h3.st with ⟨_, _, b3⟩ | ⟨_, b1, b2, _⟩
     ·rw [← a3, ← b3]
     ·omega
    ·rcases h3.st with ⟨b1, _⟩ | ⟨q', b1, b2, ⟨b3, b4, b5⟩ | ⟨b3, _⟩⟩
     ·omega
     ·have : q = q' := by omega
      subst this
      exact ch_uniq a5 b5
     ·exfalso; have := h3.nf.pos; rw [← b3, a3] at this; exact absurd this (Nat.not_lt_zero _)
    ·rcases h3.st with ⟨b1, _⟩ | ⟨q', b1, b2, ⟨b3, b4, b5⟩ | ⟨b3, _⟩⟩
     ·omega
     ·exfalso; have := h.ok.nf.pos; rw [← a3, b3] at this; exact absurd this (Nat.not_lt_zero _)
     ·rw [← a3, ← b3]
   refine .inr ⟨q1, hNW, w.swap (w.pg p hp) q2 (fun _ _ => rfl) (hNW ▸ hN), q2, g1⟩
/-- A step of a flush: what it makes of the world. -/
theorem FlS.step {m : Nat} {B : Bd} {W : Int → Nds} {tb tb2 : Tb} {x x2 : Lg} {z z2 : Fl} {c : Bool} (w : CW m B W tb x) (hW : W z.c.page ≠ []) (h : FlI B tb x z) (k : FlS tb x z c z2 tb2 x2) :
  CW m B W tb2 x2 ∧ Gro tb tb2 x x2 ∧ tb2.tok ≤ tb.tok + 1 ∧ FlI B tb2 x2 z2 ∧ FlK z z2 ∧ (c = true ↔ z2.at_ = 9) := by
 cases k with
 | @loads e h1 he =>
  have hh := w.held hW he
  rcases Fl.loads_at (z := z) (e := e) with ⟨h2, h3, h4, h5⟩ | ⟨h2, h3, h4, h5⟩
  ·refine ⟨w, .refl _ _, Nat.le_succ _, ⟨by rw [h3]; simp, fun q => by rw [h3] at q; omega, fun q => by rw [h3] at q; omega, fun q => by rw [h3] at q; omega⟩, ⟨h4, h5⟩, by rw [h2, h3]; simp⟩
  ·rw [h2, h3]
   refine ⟨w, .refl _ _, Nat.le_succ _, ⟨.inr (.inl rfl), fun _ => ⟨_, hh, ?_⟩, fun _ => h5, fun q => (by cases q)⟩, ⟨rfl, rfl⟩, by simp [Fl.go]⟩
   rcases hh.ok.nds with h6 | h6
   ·rw [h6] at h4; exact absurd rfl h4
   ·exact h6
 | takes h1 => exact ⟨w, .refl _ _, Nat.le_succ _, ⟨.inr (.inr (.inl rfl)), fun _ => h.held (.inl h1), fun _ => h.may (.inl h1), fun q => (by cases q)⟩, ⟨rfl, rfl⟩, by simp [Fl.go]⟩
 | bad h1 hb he => exact ⟨w, .refl _ _, Nat.le_succ _, ⟨by simp [Fl.fin], fun q => by simp [Fl.fin] at q, fun q => by simp [Fl.fin] at q, fun q => by simp [Fl.fin] at q⟩, ⟨rfl, rfl⟩, by simp [Fl.fin]⟩
 | @app e x2 h1 hb he hk =>
  obtain ⟨N, hh, hN⟩ := h.held (.inr (.inl h1))
  rcases hk with ⟨g1, rfl⟩ | ⟨g1, s, g2, g3, rfl⟩
  ·by_cases h5 : e = 5
   ·rw [show (z.setR z.rc).appends e x2.no = (false, (z.setR z.rc).go 2) from (if_neg g1).trans (if_pos h5)]
    exact ⟨w, .refl _ _, Nat.le_succ _, ⟨.inr (.inl rfl), fun _ => ⟨N, hh, hN⟩, fun _ => h.may (.inr (.inl h1)), fun q => (by cases q)⟩, ⟨rfl, rfl⟩, by simp [Fl.go]⟩
   ·rw [show (z.setR z.rc).appends e x2.no = (true, (z.setR z.rc).fin z.c.ent e) from (if_neg g1).trans (if_neg h5)]
    exact ⟨w, .refl _ _, Nat.le_succ _, ⟨by simp [Fl.fin], fun q => by simp [Fl.fin] at q, fun q => by simp [Fl.fin] at q, fun q => by simp [Fl.fin] at q⟩, ⟨rfl, rfl⟩, by simp [Fl.fin]⟩
  ·rw [show (z.setR z.rc).appends e (x.push s).no = (false, ({ z.setR z.rc with no := (x.push s).no } : Fl).go 4) from if_pos g1]
   have ha : x.apE z.hn z.hp 2 s.b = 0 := by rw [g3, ← he]; exact g1
   have hz := (apE_zero ha).2.1
   have hpl : 0 < x.pl := by have := w.lg.p0; unfold Lg.pl; omega
   have hg := Gro.push tb x s
   refine ⟨w.push ha, hg, Nat.le_succ _, ⟨.inr (.inr (.inr (.inl rfl))), fun _ => ⟨N, hh.gro hg, hN⟩, fun _ => h.may (.inr (.inl h1)), fun _ => ⟨?_, rfl⟩⟩, ⟨rfl, rfl⟩, by simp [Fl.go]⟩
   show Ch (x.push s) z.c.page z.hp z.c.ent.nodes
   rw [hz]
   exact app_ch hh.ok hN hb g2 g3 hpl
 | @swaps r tb2 h1 hs =>
  obtain ⟨N, hh, hN⟩ := h.held (.inr (.inr h1))
  obtain ⟨hc, hr⟩ := h.app h1
  have hhp : 0 < z.hp := by
   obtain ⟨r', ⟨⟨kk, hk, e1, _⟩, _⟩, _⟩ := hc.find
   have := x.endP_mono (Nat.zero_le kk)
   have h0 : x.endP 0 = x.p0 := rfl
   have := w.lg.p0
   omega
  have hE : EOk B x z.c.page N z.ent2 := by
   refine ⟨hh.ok.nf, hh.ok.txn, hh.ok.wt, hh.ok.ld, Int.natCast_nonneg _, ?_, hh.ok.sz, .inr ⟨z.hp, rfl, hhp, .inr ⟨hN, N.length, by show ((z.c.ent.nodes.length : Nat) : Int) = _; rw [hN], Nat.le_refl _, ?_⟩⟩⟩
   ·unfold Fl.ent2; split
    ·exact Int.natCast_nonneg _
    ·exact hh.ok.low
   ·rw [Nat.sub_self, List.drop_zero, ← hN]; exact hc
  rcases hh.swapped w hW hs hE with ⟨g1, rfl, _⟩ | ⟨g1, g2, g3, g4, _⟩
  ·rw [show z.swaps r = (false, z.go 1) from if_pos g1]
   exact ⟨w, .refl _ _, Nat.le_succ _, ⟨.inl rfl, fun q => by simp [Fl.go] at q, fun q => by simp [Fl.go] at q, fun q => by simp [Fl.go] at q⟩, ⟨rfl, rfl⟩, by simp [Fl.go]⟩
  ·rw [show z.swaps r = (true, z.fin z.ent2 r) from if_neg (by omega)]
   exact ⟨g3, .swap g4 _, by rw [g4.tok]; exact Nat.le_refl _, ⟨by simp [Fl.fin], fun q => by simp [Fl.fin] at q, fun q => by simp [Fl.fin] at q, fun q => by simp [Fl.fin] at q⟩, ⟨rfl, rfl⟩, by simp [Fl.fin]⟩
 | done h1 => exact ⟨w, .refl _ _, Nat.le_succ _, h, ⟨rfl, rfl⟩, by simp [h1]⟩
/-- A fault: 1 loads, 2 reads, 3 swaps, 9 has ended. -/
structure Fa where
 at_ : Nat
 c : Mc
 place : Nat
 nodes : List (Bool × List UInt8)
def Fa.loads (z : Fa) (e : Ent) : Bool × Fa := if 0 < e.nodes.length ∨ e.place = 0 then (true, { z with at_ := 9, c := ({ z.c with ent := e } : Mc).fin e 0, nodes := [] }) else (false, { z with at_ := 2, c := { z.c with ent := e }, place := e.place.toNat, nodes := [] })
def Fa.reads (z : Fa) (r : Pr) : Fa := if 0 < r.prev then { z with place := r.prev.toNat, nodes := z.nodes ++ r.nodes } else { z with at_ := 3, nodes := z.nodes ++ r.nodes }
def Fa.ent2 (z : Fa) : Ent := { z.c.ent with nodes := z.nodes, kept := z.nodes.length }
def Fa.swaps (z : Fa) (r : Int) : Bool × Fa := if r = 5 then (false, { z with at_ := 1 }) else (true, { z with at_ := 9, c := z.c.fin z.ent2 r })
def fa0 (p : Int) : Fa := ⟨1, mc0 p, 0, []⟩
inductive FaS (tb : Tb) (x : Lg) (z : Fa) : Bool → Fa → Tb → Prop
 | loads {e : Ent} (h : z.at_ = 1) (he : tb.ent z.c.page = some e) : FaS tb x z (z.loads e).1 (z.loads e).2 tb
 | reads {r : Pr} (h : z.at_ = 2) (hr : RecAt x z.c.page z.place r) : FaS tb x z false (z.reads r) tb
 | swaps {r : Int} {tb2 : Tb} (h : z.at_ = 3) (hs : SwR tb z.c.page z.c.ent.tok z.ent2 r tb2) : FaS tb x z (z.swaps r).1 (z.swaps r).2 tb2
 | done (h : z.at_ = 9) : FaS tb x z true z tb
structure FaI (B : Bd) (tb : Tb) (x : Lg) (z : Fa) : Prop where
 at_ : z.at_ = 1 ∨ z.at_ = 2 ∨ z.at_ = 3 ∨ z.at_ = 9
 reads : z.at_ = 2 → ∃ N M, Held B tb x z.c.page N z.c.ent ∧ z.c.ent.nodes = [] ∧ Ch x z.c.page z.place M ∧ N = z.nodes ++ M
 swaps : z.at_ = 3 → Held B tb x z.c.page z.nodes z.c.ent ∧ z.c.ent.nodes = []
theorem FaI.gro {B : Bd} {tb tb2 : Tb} {x x2 : Lg} {z : Fa} (h : FaI B tb x z) (g : Gro tb tb2 x x2) : FaI B tb2 x2 z :=
 ⟨h.at_, fun q => by obtain ⟨N, M, h1, h2, h3, h4⟩ := h.reads q; exact ⟨N, M, h1.gro g, h2, g.ch h3, h4⟩, fun q => ⟨(h.swaps q).1.gro g, (h.swaps q).2⟩⟩
theorem FaI.new (B : Bd) (tb : Tb) (x : Lg) (p : Int) : FaI B tb x (fa0 p) := ⟨.inl rfl, fun h => (by cases h), fun h => (by cases h)⟩
theorem FaI.room {B : Bd} {tb : Tb} {x : Lg} {z : Fa} (h : FaI B tb x z) (h2 : z.at_ = 2) : ∃ r, RecAt x z.c.page z.place r ∧ z.nodes.length + r.nodes.length ≤ 64 := by
 obtain ⟨N, M, h1, _, h3, h4⟩ := h.reads h2
 obtain ⟨r, g1, g2⟩ := h3.find
 refine ⟨r, g1, ?_⟩
 have := h1.ok.nf.most
 rw [h4, List.length_append] at this
 rcases g2 with ⟨_, g2⟩ | ⟨_, _, _, _, _, g2⟩
 ·rw [g2] at this; exact this
 ·rw [g2, List.length_append] at this; omega
theorem FaS.step {m : Nat} {B : Bd} {W : Int → Nds} {tb tb2 : Tb} {x : Lg} {z z2 : Fa} {c : Bool} (w : CW m B W tb x) (hW : W z.c.page ≠ []) (h : FaI B tb x z) (k : FaS tb x z c z2 tb2) :
  CW m B W tb2 x ∧ Gro tb tb2 x x ∧ tb2.tok ≤ tb.tok + 1 ∧ FaI B tb2 x z2 ∧ z2.c.page = z.c.page ∧ (c = true ↔ z2.at_ = 9) := by
 cases k with
 | @loads e h1 he =>
  have hh := w.held hW he
  unfold Fa.loads
  split
  ·exact ⟨w, .refl _ _, Nat.le_succ _, ⟨by simp, fun q => by simp at q, fun q => by simp at q⟩, rfl, by simp⟩
  ·rename_i hc
   refine ⟨w, .refl _ _, Nat.le_succ _, ⟨by simp, fun _ => ?_, fun q => by simp at q⟩, rfl, by simp⟩
   have hn : e.nodes = [] := by cases hq : e.nodes with | nil => rfl | cons a l => rw [hq] at hc; exact absurd (.inl (Nat.succ_pos _)) hc
   rcases hh.ok.st with ⟨a1, _⟩ | ⟨q, a1, a2, ⟨a3, a4, a5⟩ | ⟨a3, _⟩⟩
   ·exact absurd (.inr a1) hc
   ·exact ⟨_, _, hh, hn, (by show Ch x _ e.place.toNat _; rw [a1]; exact a5), rfl⟩
   ·exfalso; have := hh.ok.nf.pos; rw [← a3, hn] at this; exact absurd this (Nat.not_lt_zero _)
 | @reads r h1 hr =>
  obtain ⟨N, M, hh, hn, hc, hN⟩ := h.reads h1
  obtain ⟨r', g1, g2⟩ := hc.find
  obtain rfl := hr.uniq g1
  rcases g2 with ⟨g2, g3⟩ | ⟨q, M', g2, g3, g4, g5⟩
  ·have e : z.reads r = { z with at_ := 3, nodes := z.nodes ++ r.nodes } := if_neg (by omega)
   rw [e]
   exact ⟨w, .refl _ _, Nat.le_succ _, ⟨by simp, fun q => by simp at q, fun _ => ⟨by show Held B tb x z.c.page (z.nodes ++ r.nodes) z.c.ent; rw [← g3, ← hN]; exact hh, hn⟩⟩, rfl, by simp⟩
  ·have e : z.reads r = { z with place := r.prev.toNat, nodes := z.nodes ++ r.nodes } := if_pos (by omega)
   rw [e]
   exact ⟨w, .refl _ _, Nat.le_succ _, ⟨h.at_, fun _ => ⟨N, M', hh, hn, by show Ch x _ r.prev.toNat _; rw [g2]; exact g4, by rw [hN, g5]; exact (List.append_assoc _ _ _).symm⟩, fun q => by have q : z.at_ = 3 := q; omega⟩, rfl, by simp [h1]⟩
 | @swaps r tb2 h1 hs =>
  obtain ⟨hh, hn⟩ := h.swaps h1
  have hE : EOk B x z.c.page z.nodes z.ent2 := by
   refine ⟨hh.ok.nf, hh.ok.txn, hh.ok.wt, hh.ok.ld, hh.ok.no, hh.ok.low, hh.ok.sz, ?_⟩
   rcases hh.ok.st with ⟨_, _, a3⟩ | ⟨q, a1, a2, ⟨a3, a4, a5⟩ | ⟨a3, _⟩⟩
   ·exfalso; have := hh.ok.nf.pos; rw [← a3, hn] at this; exact absurd this (Nat.not_lt_zero _)
   ·exact .inr ⟨q, a1, a2, .inr ⟨rfl, z.nodes.length, rfl, Nat.le_refl _, by rw [Nat.sub_self, List.drop_zero]; exact a5⟩⟩
   ·exfalso; have := hh.ok.nf.pos; rw [← a3, hn] at this; exact absurd this (Nat.not_lt_zero _)
  rcases hh.swapped w hW hs hE with ⟨g1, rfl, _⟩ | ⟨g1, g2, g3, g4, _⟩
  ·rw [show z.swaps r = (false, { z with at_ := 1 }) from if_pos g1]
   exact ⟨w, .refl _ _, Nat.le_succ _, ⟨by simp, fun q => by simp at q, fun q => by simp at q⟩, rfl, by simp⟩
  ·rw [show z.swaps r = (true, { z with at_ := 9, c := z.c.fin z.ent2 r }) from if_neg (by omega)]
   exact ⟨g3, .swap g4 _, by rw [g4.tok]; exact Nat.le_refl _, ⟨by simp, fun q => by simp at q, fun q => by simp at q⟩, rfl, by simp⟩
 | done h1 => exact ⟨w, .refl _ _, Nat.le_succ _, h, rfl, by simp [h1]⟩
/-- An evict: 1 loads, 2 flushes, 3 swaps, 9 has ended. -/
structure Ec where
 at_ : Nat
 c : Mc
 f : Fl
def Ec.loads (z : Ec) (e : Ent) : Bool × Ec := if e.nodes.length = 0 then (true, { z with at_ := 9, c := ({ z.c with ent := e } : Mc).fin e 0 }) else if e.kept < (e.nodes.length : Int) then (false, { z with at_ := 2, c := { z.c with ent := e }, f := fl0 z.c.page false }) else (false, { z with at_ := 3, c := { z.c with ent := e } })
def Ec.flushes (z : Ec) (c : Bool) (f : Fl) : Bool × Ec := if c = false then (false, { z with f := f }) else if f.c.e ≠ 0 then (true, { z with at_ := 9, c := z.c.fin f.c.out f.c.e, f := f }) else (false, { z with at_ := 1, f := f })
def Ec.ent2 (z : Ec) : Ent := { z.c.ent with nodes := [], kept := 0 }
def Ec.swaps (z : Ec) (r : Int) : Bool × Ec := if r = 5 then (false, { z with at_ := 1 }) else (true, { z with at_ := 9, c := z.c.fin z.ent2 r })
def ec0 (p : Int) : Ec := ⟨1, mc0 p, fl0 p false⟩
inductive EcS (tb : Tb) (x : Lg) (z : Ec) : Bool → Ec → Tb → Lg → Prop
 | loads {e : Ent} (h : z.at_ = 1) (he : tb.ent z.c.page = some e) : EcS tb x z (z.loads e).1 (z.loads e).2 tb x
 | flushes {c : Bool} {f : Fl} {tb2 : Tb} {x2 : Lg} (h : z.at_ = 2) (hf : FlS tb x z.f c f tb2 x2) : EcS tb x z (z.flushes c f).1 (z.flushes c f).2 tb2 x2
 | swaps {r : Int} {tb2 : Tb} (h : z.at_ = 3) (hs : SwR tb z.c.page z.c.ent.tok z.ent2 r tb2) : EcS tb x z (z.swaps r).1 (z.swaps r).2 tb2 x
 | done (h : z.at_ = 9) : EcS tb x z true z tb x
structure EcI (B : Bd) (tb : Tb) (x : Lg) (z : Ec) : Prop where
 at_ : z.at_ = 1 ∨ z.at_ = 2 ∨ z.at_ = 3 ∨ z.at_ = 9
 flushes : z.at_ = 2 → FlI B tb x z.f ∧ z.f.c.page = z.c.page ∧ z.f.full = false ∧ z.f.at_ ≠ 9
 swaps : z.at_ = 3 → ∃ N, Held B tb x z.c.page N z.c.ent ∧ z.c.ent.nodes = N ∧ z.c.ent.kept = z.c.ent.nodes.length
theorem EcI.gro {B : Bd} {tb tb2 : Tb} {x x2 : Lg} {z : Ec} (h : EcI B tb x z) (g : Gro tb tb2 x x2) : EcI B tb2 x2 z :=
 ⟨h.at_, fun q => ⟨(h.flushes q).1.gro g, (h.flushes q).2⟩, fun q => by obtain ⟨N, h1, h2, h3⟩ := h.swaps q; exact ⟨N, h1.gro g, h2, h3⟩⟩
theorem EcI.new (B : Bd) (tb : Tb) (x : Lg) (p : Int) : EcI B tb x (ec0 p) := ⟨.inl rfl, fun h => (by cases h), fun h => (by cases h)⟩
theorem EcS.step {m : Nat} {B : Bd} {W : Int → Nds} {tb tb2 : Tb} {x x2 : Lg} {z z2 : Ec} {c : Bool} (w : CW m B W tb x) (hW : W z.c.page ≠ []) (h : EcI B tb x z) (k : EcS tb x z c z2 tb2 x2) :
  CW m B W tb2 x2 ∧ Gro tb tb2 x x2 ∧ tb2.tok ≤ tb.tok + 1 ∧ EcI B tb2 x2 z2 ∧ z2.c.page = z.c.page ∧ (c = true ↔ z2.at_ = 9) := by
 cases k with
 | @loads e h1 he =>
  have hh := w.held hW he
  unfold Ec.loads
  split
  ·exact ⟨w, .refl _ _, Nat.le_succ _, ⟨by simp, fun q => by simp at q, fun q => by simp at q⟩, rfl, by simp⟩
  ·rename_i hc
   have hn : e.nodes = W z.c.page := by
    rcases hh.ok.nds with h6 | h6
    ·rw [h6] at hc; exact absurd rfl hc
    ·exact h6
   split
   ·exact ⟨w, .refl _ _, Nat.le_succ _, ⟨by simp, fun _ => ⟨.new _ _ _ _ _, rfl, rfl, by simp [fl0]⟩, fun q => by simp at q⟩, rfl, by simp⟩
   ·rename_i hk
    exact ⟨w, .refl _ _, Nat.le_succ _, ⟨by simp, fun q => by simp at q, fun _ => ⟨_, hh, hn, by have := hh.ok.kept; show e.kept = (e.nodes.length : Int); omega⟩⟩, rfl, by simp⟩
 | @flushes c f tb2 x2 h1 hf =>
  obtain ⟨g1, g2, g3, g4⟩ := h.flushes h1
  obtain ⟨k1, k2, k3, k4, k5, k6⟩ := hf.step w (by rw [g2]; exact hW) g1
  unfold Ec.flushes
  split
  ·rename_i hc0
   exact ⟨k1, k2, k3, ⟨h.at_, fun _ => ⟨k4, k5.page.trans g2, k5.full.trans g3, fun q => by rw [hc0] at k6; exact Bool.noConfusion (k6.2 q)⟩, fun q => by have q : z.at_ = 3 := q; omega⟩, rfl, by simp [h1]⟩
  ·split
   ·exact ⟨k1, k2, k3, ⟨by simp, fun q => by simp at q, fun q => by simp at q⟩, rfl, by simp⟩
   ·exact ⟨k1, k2, k3, ⟨by simp, fun q => by simp at q, fun q => by simp at q⟩, rfl, by simp⟩
 | @swaps r tb2 h1 hs =>
  obtain ⟨N, hh, hn, hk⟩ := h.swaps h1
  have hE : EOk B x z.c.page N z.ent2 := by
   refine ⟨hh.ok.nf, hh.ok.txn, hh.ok.wt, hh.ok.ld, hh.ok.no, hh.ok.low, hh.ok.sz, ?_⟩
   rcases hh.ok.st with ⟨a1, a2, a3⟩ | ⟨q, a1, a2, ⟨a3, a4, a5⟩ | ⟨a3, j, a4, a5, a6⟩⟩
   ·exfalso; have := hh.ok.nf.pos; rw [hn] at hk; omega
   ·exfalso; have := hh.ok.nf.pos; rw [hn] at a3; rw [a3] at this; exact absurd this (Nat.not_lt_zero _)
   ·refine .inr ⟨q, a1, a2, .inl ⟨rfl, rfl, ?_⟩⟩
    have : j = N.length := by rw [hn] at hk; omega
    rw [this, Nat.sub_self, List.drop_zero] at a6
    exact a6
  rcases hh.swapped w hW hs hE with ⟨g1, rfl, _⟩ | ⟨g1, g2, g3, g4, _⟩
  ·rw [show z.swaps r = (false, { z with at_ := 1 }) from if_pos g1]
   exact ⟨w, .refl _ _, Nat.le_succ _, ⟨by simp, fun q => by simp at q, fun q => by simp at q⟩, rfl, by simp⟩
  ·rw [show z.swaps r = (true, { z with at_ := 9, c := z.c.fin z.ent2 r }) from if_neg (by omega)]
   exact ⟨g3, .swap g4 _, by rw [g4.tok]; exact Nat.le_refl _, ⟨by simp, fun q => by simp at q, fun q => by simp at q⟩, rfl, by simp⟩
 | done h1 => exact ⟨w, .refl _ _, Nat.le_succ _, h, rfl, by simp [h1]⟩
/-- A machine. -/
inductive Mx
 | fl (z : Fl)
 | fa (z : Fa)
 | ec (z : Ec)
def Mx.at_ : Mx → Nat | .fl z => z.at_ | .fa z => z.at_ | .ec z => z.at_
def Mx.c : Mx → Mc | .fl z => z.c | .fa z => z.c | .ec z => z.c
def MxI (B : Bd) (tb : Tb) (x : Lg) : Mx → Prop | .fl z => FlI B tb x z | .fa z => FaI B tb x z | .ec z => EcI B tb x z
inductive MxS (tb : Tb) (x : Lg) : Mx → Bool → Mx → Tb → Lg → Prop
 | fl {z z2 : Fl} {c : Bool} {tb2 : Tb} {x2 : Lg} (h : FlS tb x z c z2 tb2 x2) : MxS tb x (.fl z) c (.fl z2) tb2 x2
 | fa {z z2 : Fa} {c : Bool} {tb2 : Tb} (h : FaS tb x z c z2 tb2) : MxS tb x (.fa z) c (.fa z2) tb2 x
 | ec {z z2 : Ec} {c : Bool} {tb2 : Tb} {x2 : Lg} (h : EcS tb x z c z2 tb2 x2) : MxS tb x (.ec z) c (.ec z2) tb2 x2
theorem MxI.gro {B : Bd} {tb tb2 : Tb} {x x2 : Lg} {z : Mx} (h : MxI B tb x z) (g : Gro tb tb2 x x2) : MxI B tb2 x2 z := by
 cases z with
 | fl z => exact FlI.gro h g
 | fa z => exact FaI.gro h g
 | ec z => exact EcI.gro h g
theorem MxS.step {m : Nat} {B : Bd} {W : Int → Nds} {tb tb2 : Tb} {x x2 : Lg} {z z2 : Mx} {c : Bool} (w : CW m B W tb x) (hW : W z.c.page ≠ []) (h : MxI B tb x z) (k : MxS tb x z c z2 tb2 x2) :
  CW m B W tb2 x2 ∧ Gro tb tb2 x x2 ∧ tb2.tok ≤ tb.tok + 1 ∧ MxI B tb2 x2 z2 ∧ z2.c.page = z.c.page ∧ (c = true ↔ z2.at_ = 9) := by
 cases k with
 | fl k => obtain ⟨k1, k2, k3, k4, k5, k6⟩ := k.step w hW h; exact ⟨k1, k2, k3, k4, k5.page, k6⟩
 | fa k => exact k.step w hW h
 | ec k => exact k.step w hW h

def faN (b : Nat) : Nat → Value
 | 1 => .func (.func 41) [.pointer (some ⟨b, 0, none⟩)].toArray [].toArray
 | 2 => .func (.func 82) [.pointer (some ⟨b, 0, none⟩)].toArray [].toArray
 | 3 => .func (.func 95) [.pointer (some ⟨b, 0, none⟩)].toArray [].toArray
 | _ => .nilFunc
inductive FaX (J : Imm) (l : Nat) (z : Fa) : Value → Value → Value → Chunks → Prop
 | idle {vr vp vN : Value} (h : z.at_ = 1 ∨ z.at_ = 9) : FaX J l z vr vp vN []
 | reads {r : Nat} {vN : Value} {nv : List (Bool × Value)} {Lo : Chunks} (h : z.at_ = 2) (ho : Own 70 2 vN (nv.flatMap ndV) z.nodes.length Lo) (hn : NodesOk (Imv J) nv z.nodes) : FaX J l z (.pointer (some ⟨r, 0, none⟩)) (.int .i64 (z.place : Int)) vN ((r, row 207 [.pointer (some ⟨l, 0, none⟩), .int .i64 (z.place : Int), .slice none 0 0, .bool false, .int .i64 0, .int .i64 0, .slice none 0 0, .int .i64 1]) :: Lo)
 | swaps {vr vp vN : Value} (h : z.at_ = 3) (hn : RNodes J vN z.nodes) : FaX J l z vr vp vN []
theorem FaX.mono {I J : Imm} {l : Nat} {z : Fa} {a b c : Value} {L : Chunks} (h : FaX I l z a b c L) (hJ : I.le J) : FaX J l z a b c L := by
 cases h with
 | idle h => exact .idle h
 | reads h ho hn => exact .reads h ho (hn.mono (Imv.le hJ))
 | swaps h hn => exact .swaps h (hn.mono hJ)
/-- A fault. -/
inductive IsFa (J : Imm) (f m s l : Nat) (z : Fa) : Chunks → Prop
 | mk {vr vp vN vy : Value} {Lm Lo : Chunks} (hm : IsMc J m s (faN f z.at_) z.c Lm) (hx : FaX J l z vr vp vN Lo) : IsFa J f m s l z (Lm ++ ((f, row 114 [.pointer (some ⟨m, 0, none⟩), vr, vp, vN, vy]) :: Lo))
theorem IsFa.mono {I J : Imm} {f m s l : Nat} {z : Fa} {L : Chunks} (h : IsFa I f m s l z L) (hJ : I.le J) : IsFa J f m s l z L := by
 cases h with
 | mk hm hx => exact .mk (hm.mono hJ) (hx.mono hJ)
theorem fa_from {I : Imm} {m s : Nat} {nx : Value} {z : Mc} {Lm : Chunks} (hm : IsMc I m s nx z Lm) {f : Nat} {vr vp vN vy : Value}  {l t : Nat} (hst : I.blk s = some (row 88 [.pointer (some ⟨t, 0, none⟩), .pointer (some ⟨l, 0, none⟩)])) {q : Nat} : Spec Tryz.prog 74 [.pointer (some ⟨f, 0, none⟩), .int .i64 (q : Int)] I (Lm ++ [(f, row 114 [.pointer (some ⟨m, 0, none⟩), vr, vp, vN, vy])]) (fun v J L => v = .bool false ∧ I = J ∧ ∃ r Lm2, L = Lm2 ++ ((f, row 114 [.pointer (some ⟨m, 0, none⟩), .pointer (some ⟨r, 0, none⟩), .int .i64 (q : Int), vN, vy]) :: [(r, row 207 [.pointer (some ⟨l, 0, none⟩), .int .i64 (q : Int), .slice none 0 0, .bool false, .int .i64 0, .int .i64 0, .slice none 0 0, .int .i64 1])]) ∧ IsMc J m s (faN f 2) z Lm2) := by
 cases hm with
 | @mk vn vw un uw hn hw hs on ow os =>
 refine Spec.of Tryz.func74 rfl Tryz.ntmps74 (Nat.le_of_ble_eq_true rfl) (fun F => ?_)
 try simp only [nf]
 dsimp only [argsEnv]
 refine WP.seq ?_; refine WP.region [0] rfl ?_; refine WP.mv rfl rfl ?_; refine WP.nil (WP.next (WP.seq ?_))
 refine WP.region [0, 1, 2, 3, 4, 5, 6, 7, 8, 9, 10, 11, 12, 13, 14, 15, 16, 17, 18, 19, 20] rfl ?_; iterate 4 refine WP.mv rfl rfl ?_
 refine WP.vl rfl (Yld.nilCheck rfl rfl) ?_; refine WP.vl rfl (Yld.fieldAddr rfl ty_fd_114_0 rfl) ?_; refine WP.vl rfl (Yld.ld (v := .pointer (some ⟨m, 0, none⟩)) rfl ty_sc_55 rfl rfl) ?_; refine WP.vl rfl (Yld.nilCheck rfl rfl) ?_; refine WP.vl rfl (Yld.fieldAddr rfl ty_fd_110_0 rfl) ?_; refine WP.vl rfl (Yld.ld (v := .pointer (some ⟨s, 0, none⟩)) rfl ty_sc_26 rfl rfl) ?_; refine WP.vl rfl (Yld.nilCheck rfl rfl) ?_; refine WP.vl rfl (Yld.fieldAddr rfl ty_fd_88_1 rfl) ?_; refine WP.vl rfl (Yld.ld (v := .pointer (some ⟨l, 0, none⟩)) rfl ty_sc_30 rfl rfl) ?_; refine WP.mv rfl rfl ?_; refine WP.loud rfl rfl ?_; refine Op.cl (log_NewRead0 (l := l) (p := q)) rfl Tryz.func81 rfl rfl rfl rfl ?_; rintro v J L1 - ⟨rfl, r, rfl, rfl⟩
 try simp only [nf]
 refine WP.vl rfl (Yld.nilCheck rfl rfl) ?_; refine WP.vl rfl (Yld.fieldAddr rfl ty_fd_114_2 rfl) ?_; refine WP.loud rfl rfl ?_; refine Op.s1 rfl rfl ty_sz_3 rfl rfl rfl ?_; refine WP.vl rfl (Yld.nilCheck rfl rfl) ?_; refine WP.vl rfl (Yld.fieldAddr rfl ty_fd_114_1 rfl) ?_; refine WP.loud rfl rfl ?_; refine Op.s1 rfl rfl ty_sz_112 rfl rfl rfl ?_; refine WP.nil ?_; refine WP.sub [(0, _), (1, _), (4, _)] ?_ ⟨rfl, rfl, rfl, trivial⟩
 refine WP.next (WP.seq ?_)
 refine WP.region [0, 1, 2, 3, 4, 5, 6, 7] rfl ?_; refine WP.mv rfl rfl ?_; refine WP.vl rfl (Yld.nilCheck rfl rfl) ?_; refine WP.vl rfl (Yld.fieldAddr rfl ty_fd_114_0 rfl) ?_; refine WP.vl rfl (Yld.ld (v := .pointer (some ⟨m, 0, none⟩)) rfl ty_sc_55 rfl rfl) ?_; refine WP.mv rfl rfl ?_; refine WP.vl rfl (Yld.makeFunc rfl (vs := [_]) (us := []) rfl rfl) ?_; refine WP.loud rfl rfl ?_; refine Op.cl (cac_goes (IsMc.mk hn hw hs on ow os : IsMc I m s nx z _)) rfl Tryz.func60 rfl rfl rfl rfl ?_; rintro v J Lm2 - ⟨rfl, rfl, hm2⟩
 try simp only [nf]
 refine WP.mv rfl rfl ?_; refine WP.nil ?_; refine WP.sub [(0, _), (1, _), (4, _)] ?_ ⟨rfl, rfl, rfl, trivial⟩
 refine WP.next (WP.ret ?_)
 refine WP.fn .ret (.inr rfl) (res1 rfl rfl) (Lm2 ++ ((f, row 114 [.pointer (some ⟨m, 0, none⟩), .pointer (some ⟨r, 0, none⟩), .int .i64 (q : Int), vN, vy]) :: [(r, row 207 [.pointer (some ⟨l, 0, none⟩), .int .i64 (q : Int), .slice none 0 0, .bool false, .int .i64 0, .int .i64 0, .slice none 0 0, .int .i64 1])])) (Imm.le_refl _) ?_; exact ⟨rfl, rfl, r, Lm2, rfl, hm2⟩

theorem fa_begins {I : Imm} {m s : Nat} {nx : Value} {z : Mc} {Lm : Chunks} (hm : IsMc I m s nx z Lm) {x : Ent} {xn xw : Value} (hxn : RNodes I xn x.nodes) (hxw : SlRd (Imv I) xw x.with_.length 1 (x.with_.map (Value.int .i64))) (hxs : x.sized) {f : Nat} {vr vp vN vy : Value}  {l t : Nat} (hst : I.blk s = some (row 88 [.pointer (some ⟨t, 0, none⟩), .pointer (some ⟨l, 0, none⟩)])) {k0 : Nat} {p0 : Nat} {N0 : List (Bool × List UInt8)} (hpl : 0 ≤ x.place) : Spec Tryz.prog 62 [.pointer (some ⟨f, 0, none⟩), .agg ([.int .u64 (x.tok : Int), xn, .int .i64 x.place, .int .i64 x.no, .int .i64 x.low, .int .i64 x.kept, .int .i64 x.txn, .int .i64 x.lead, xw]).toArray] I (Lm ++ [(f, row 114 [.pointer (some ⟨m, 0, none⟩), vr, vp, vN, vy])]) (fun v J L => v = .bool ((⟨k0, z, p0, N0⟩ : Fa).loads x).1 ∧ I = J ∧ IsFa J f m s l ((⟨k0, z, p0, N0⟩ : Fa).loads x).2 L) := by
 cases hm with
 | @mk vn vw un uw hn hw hs on ow os =>
 obtain ⟨nvx, hx1, hx2⟩ := id hxn.ex
 obtain ⟨An, cn, rfl, _⟩ := hx1.slice'
 obtain ⟨Aw, cw, rfl, _⟩ := hxw.slice'
 refine Spec.of Tryz.func62 rfl Tryz.ntmps62 (Nat.le_of_ble_eq_true rfl) (fun F => ?_)
 try simp only [nf]
 dsimp only [argsEnv]
 refine WP.seq ?_; refine WP.region [0, 1] rfl ?_; refine WP.loud rfl rfl ?_; refine Op.box rfl rfl rfl rfl rfl (fun b3 => ?_)
 refine WP.mv rfl rfl ?_; refine WP.nil (WP.next (WP.seq ?_))
 refine WD.start Tryzmixed 11 (fun c o => c = f ∧ o = row 114 [.pointer (some ⟨m, 0, none⟩), vr, vp, vN, vy]) (fun c o => c = b3 ∧ o = row 50 [.int .u64 (x.tok : Int), .slice An x.nodes.length cn, .int .i64 x.place, .int .i64 x.no, .int .i64 x.low, .int .i64 x.kept, .int .i64 x.txn, .int .i64 x.lead, .slice Aw x.with_.length cw]) (by rintro _ _ ⟨rfl, rfl⟩; exact zM) (by rintro _ _ ⟨rfl, rfl⟩; exact zM) 12 [false, false, false, false, false, false, false, false, false, false, false, false] rfl rfl ?_; refine WD.vl (i := 0) rfl (Yld.move rfl rfl) ?_; refine WD.vl (i := 1) rfl (Yld.nilCheck rfl rfl) ?_; refine WD.vl (i := 2) rfl (Yld.fieldAddr rfl ty_fd_114_0 rfl) ?_; refine WD.val1 (i := 3) rfl rfl rfl rfl zK rfl zK (Yld.load (v := .pointer (some ⟨m, 0, none⟩)) rfl ty_sc_55 rfl (.inl ⟨rfl, rfl⟩) rfl) ?_; refine WD.vl (i := 4) rfl (Yld.move rfl rfl) ?_; refine WD.val1 (i := 5) rfl rfl rfl rfl zK rfl zK (Yld.loadAgg (vs := [.int .u64 (x.tok : Int), .slice An x.nodes.length cn, .int .i64 x.place, .int .i64 x.no, .int .i64 x.low, .int .i64 x.kept, .int .i64 x.txn, .int .i64 x.lead, .slice Aw x.with_.length cw]) rfl ty_ag_50 rfl (.inr ⟨rfl, rfl⟩) rfl rfl) ?_; refine WD.vl (i := 6) rfl (Yld.nilCheck rfl rfl) ?_; refine WD.vl (i := 7) rfl (Yld.fieldAddr rfl ty_fd_110_3 rfl) ?_; refine WD.loud (i := 8) zK rfl rfl rfl ?_; refine Op.storeN rfl rfl ty_sz_50 rfl rfl rfl rfl (Nat.le_of_ble_eq_true rfl) (show mcV s nx ({ z with ent := x }) (.slice An x.nodes.length cn) (.slice Aw x.with_.length cw) un uw = _ from rfl) (by repeat (first | exact Upd.head | apply Upd.tail | apply Upd.tailS)) ?_
 refine WD.go (.inr (by rintro _ _ ⟨rfl, rfl⟩; exact zM)) (by rintro _ _ ⟨rfl, rfl⟩; exact zM) ?_; refine WD.vl (i := 9) rfl (Yld.nilCheck rfl rfl) ?_; refine WD.vl (i := 10) rfl (Yld.fieldAddr rfl ty_fd_114_3 rfl) ?_; refine WD.loud (i := 11) zK rfl rfl rfl ?_; refine Op.s1 rfl rfl ty_sz_45 rfl rfl rfl ?_; refine WD.go (.inl rfl) (by rintro _ _ ⟨rfl, rfl⟩; exact zM) ?_; refine WD.done zK ?_; refine WP.sub [(0, _), (1, _), (3, _), (4, _)] ?_ ⟨rfl, rfl, rfl, rfl, trivial⟩
 have hmm : IsMc I m s nx ({ z with ent := x }) [(m, row 110 (mcV s (nx) ({ z with ent := x }) (.slice An x.nodes.length cn) (.slice Aw x.with_.length cw) (un) (uw)))] := .mk (z := { z with ent := x }) hxn hxw hxs on ow os
 refine WP.next (WP.seq (WP.seq ?_))
 refine WP.region [0, 1, 2, 3, 4, 5, 6, 7, 8] rfl ?_; refine WP.vl rfl (Yld.fieldAddr rfl ty_fd_50_1 rfl) ?_; refine WP.vl rfl (Yld.ld (v := .slice An x.nodes.length cn) rfl ty_sc_45 rfl rfl) ?_; refine WP.vl rfl (Yld.len rfl ty_sl_45 rfl) ?_; refine WP.split rfl rfl rfl rfl (Yld.gtr rfl rfl rfl) (fun h23 => ?_) (fun h23 => ?_)
 ·refine WP.mv rfl rfl ?_
  iterate 3 refine WP.passG rfl rfl rfl rfl rfl rfl rfl rfl ?_
  refine WP.vl rfl (Yld.pickT rfl rfl rfl) ?_; refine WP.nil ?_; refine WP.sub [(0, _), (1, _), (3, _), (4, _), (23, _)] ?_ ⟨rfl, rfl, rfl, rfl, rfl, trivial⟩
  refine WP.next ?_; refine WP.condT rfl ?_; refine WP.seq ?_; refine WQ.start Tryzmixed 5 zK _ rfl [5, 6] rfl ?_; refine WQ.val rfl rfl rfl (Yld.move rfl rfl) ?_; refine WQ.val rfl rfl rfl (Yld.nilCheck rfl rfl) ?_; refine WQ.val rfl rfl rfl (Yld.fieldAddr rfl ty_fd_114_0 rfl) ?_; refine WQ.val rfl rfl rfl (Yld.ld (v := .pointer (some ⟨m, 0, none⟩)) rfl ty_sc_55 rfl rfl) ?_; refine WQ.val rfl rfl rfl (Yld.ldg (vs := [.int .u64 (x.tok : Int), .slice An x.nodes.length cn, .int .i64 x.place, .int .i64 x.no, .int .i64 x.low, .int .i64 x.kept, .int .i64 x.txn, .int .i64 x.lead, .slice Aw x.with_.length cw]) rfl ty_ag_50 rfl rfl rfl) ?_; refine WQ.nil ?_; refine WP.loud rfl rfl ?_; refine Op.cl (cac_end hmm hxn hxw hxs) rfl Tryz.func59 rfl rfl rfl rfl ?_; rintro v J Lm2 - ⟨rfl, rfl, hm2⟩
  try simp only [nf]
  refine WP.mv rfl rfl ?_; refine WP.nil ?_; refine WP.sub [(0, _), (1, _), (3, _), (4, _), (23, _)] ?_ ⟨rfl, rfl, rfl, rfl, rfl, trivial⟩
  refine WP.next (WP.ret ?_)
  refine WP.fn .ret (.inr rfl) (res1 rfl rfl) (Lm2 ++ ((f, row 114 [.pointer (some ⟨m, 0, none⟩), vr, vp, .slice none 0 0, vy]) :: [])) (Imm.le_refl _) ?_; have e1 : (⟨k0, z, p0, N0⟩ : Fa).loads x = (true, ⟨9, ({ z with ent := x } : Mc).fin x 0, p0, []⟩) := if_pos (.inl (by omega))
  rw [e1]; exact ⟨rfl, rfl, .mk (z := ⟨9, ({ z with ent := x } : Mc).fin x 0, p0, []⟩) hm2 (.idle (.inr rfl))⟩
 ·refine WP.mv rfl rfl ?_
  refine WP.valG rfl rfl rfl rfl rfl rfl rfl (Yld.fieldAddr rfl ty_fd_50_2 rfl) ?_; refine WP.valG rfl rfl rfl rfl rfl rfl rfl (Yld.ld (v := .int .i64 x.place) rfl ty_sc_3 rfl rfl) ?_; refine WP.splitG rfl rfl rfl rfl rfl rfl rfl (Yld.eql rfl rfl rfl) (fun h27 => ?_) (fun h27 => ?_)
  ·refine WP.vl rfl (Yld.pickF rfl rfl rfl) ?_
   refine WP.nil ?_; refine WP.sub [(0, _), (1, _), (3, _), (4, _), (23, _)] ?_ ⟨rfl, rfl, rfl, rfl, rfl, trivial⟩
   refine WP.next ?_; refine WP.condT rfl ?_; refine WP.seq ?_; refine WQ.start Tryzmixed 5 zK _ rfl [5, 6] rfl ?_; refine WQ.val rfl rfl rfl (Yld.move rfl rfl) ?_; refine WQ.val rfl rfl rfl (Yld.nilCheck rfl rfl) ?_; refine WQ.val rfl rfl rfl (Yld.fieldAddr rfl ty_fd_114_0 rfl) ?_; refine WQ.val rfl rfl rfl (Yld.ld (v := .pointer (some ⟨m, 0, none⟩)) rfl ty_sc_55 rfl rfl) ?_; refine WQ.val rfl rfl rfl (Yld.ldg (vs := [.int .u64 (x.tok : Int), .slice An x.nodes.length cn, .int .i64 x.place, .int .i64 x.no, .int .i64 x.low, .int .i64 x.kept, .int .i64 x.txn, .int .i64 x.lead, .slice Aw x.with_.length cw]) rfl ty_ag_50 rfl rfl rfl) ?_; refine WQ.nil ?_; refine WP.loud rfl rfl ?_; refine Op.cl (cac_end hmm hxn hxw hxs) rfl Tryz.func59 rfl rfl rfl rfl ?_; rintro v J Lm2 - ⟨rfl, rfl, hm2⟩
   try simp only [nf]
   refine WP.mv rfl rfl ?_; refine WP.nil ?_; refine WP.sub [(0, _), (1, _), (3, _), (4, _), (23, _)] ?_ ⟨rfl, rfl, rfl, rfl, rfl, trivial⟩
   refine WP.next (WP.ret ?_)
   refine WP.fn .ret (.inr rfl) (res1 rfl rfl) (Lm2 ++ ((f, row 114 [.pointer (some ⟨m, 0, none⟩), vr, vp, .slice none 0 0, vy]) :: [])) (Imm.le_refl _) ?_; have e1 : (⟨k0, z, p0, N0⟩ : Fa).loads x = (true, ⟨9, ({ z with ent := x } : Mc).fin x 0, p0, []⟩) := if_pos (.inr h27)
   rw [e1]; exact ⟨rfl, rfl, .mk (z := ⟨9, ({ z with ent := x } : Mc).fin x 0, p0, []⟩) hm2 (.idle (.inr rfl))⟩
  ·refine WP.vl rfl (Yld.pickF rfl rfl rfl) ?_
   refine WP.nil ?_; refine WP.sub [(0, _), (1, _), (3, _), (4, _), (23, _)] ?_ ⟨rfl, rfl, rfl, rfl, rfl, trivial⟩
   refine WP.next ?_; refine WP.condF rfl ?_; refine WP.skip (WP.next (WP.seq ?_))
   have hqp : x.place = ((x.place.toNat : Nat) : Int) := by omega
   refine WP.region [0, 1, 2, 3, 4] rfl ?_; refine WP.mv rfl rfl ?_; refine WP.vl rfl (Yld.fieldAddr rfl ty_fd_50_2 rfl) ?_; refine WP.vl rfl (Yld.ld (v := .int .i64 (x.place.toNat : Int)) rfl ty_sc_3 rfl (congrArg (fun q : Int => some (Value.int .i64 q)) hqp)) ?_; refine WP.loud rfl rfl ?_; refine Op.cl (fa_from (q := x.place.toNat) hmm hst) rfl Tryz.func74 rfl rfl rfl rfl ?_; rintro v J Lq - ⟨rfl, rfl, r, Lm2, rfl, hm2⟩
   try simp only [nf]
   refine WP.mv rfl rfl ?_; refine WP.nil ?_; refine WP.sub [(0, _), (1, _), (3, _), (4, _), (23, _)] ?_ ⟨rfl, rfl, rfl, rfl, rfl, trivial⟩
   refine WP.next (WP.ret ?_)
   refine WP.fn .ret (.inr rfl) (res1 rfl rfl) (Lm2 ++ ((f, row 114 [.pointer (some ⟨m, 0, none⟩), .pointer (some ⟨r, 0, none⟩), .int .i64 (x.place.toNat : Int), .slice none 0 0, vy]) :: [(r, row 207 [.pointer (some ⟨l, 0, none⟩), .int .i64 (x.place.toNat : Int), .slice none 0 0, .bool false, .int .i64 0, .int .i64 0, .slice none 0 0, .int .i64 1])])) (Imm.le_refl _) ?_; have e1 : (⟨k0, z, p0, N0⟩ : Fa).loads x = (false, ⟨2, { z with ent := x }, x.place.toNat, []⟩) := if_neg (fun q => q.elim (fun q => by omega) h27)
   rw [e1]; exact ⟨rfl, rfl, .mk (z := ⟨2, { z with ent := x }, x.place.toNat, []⟩) hm2 (.reads (nv := []) rfl .none0 ⟨rfl, fun i y hy => by cases hy⟩)⟩

theorem fa_loads {I : Imm} {f m s l : Nat} {z : Fa} {Lf : Chunks} (hf : IsFa I f m s l z Lf) {t : Nat} {tb : Tb} {Lt : Chunks} (hst : I.blk s = some (row 88 [.pointer (some ⟨t, 0, none⟩), .pointer (some ⟨l, 0, none⟩)])) (hT : IsT I t tb Lt) {e : Ent} (hg : tb.ent z.c.page = some e) (hpl : 0 ≤ e.place) (h1 : z.at_ = 1) : Spec Tryz.prog 41 [.pointer (some ⟨f, 0, none⟩)] I (Lf ++ Lt) (fun v J L => v = .bool (z.loads e).1 ∧ ∃ Lf2 Lt2, L = Lf2 ++ Lt2 ∧ IsFa J f m s l (z.loads e).2 Lf2 ∧ IsT J t tb Lt2) := by
 cases hf with
 | @mk vr vp vN vy Lm Lo hm hx =>
 obtain rfl : Lo = [] := by cases hx with | idle _ => rfl | reads h _ _ => omega | swaps h _ => omega
 cases hm with
 | @mk vn vw un uw hn hw hs on ow os =>
 obtain ⟨nvn, hn1, hn2⟩ := id hn.ex
 obtain ⟨An, cn, rfl, _⟩ := hn1.slice'
 obtain ⟨Aw, cw, rfl, _⟩ := hw.slice'
 refine Spec.of Tryz.func41 rfl Tryz.ntmps41 (Nat.le_of_ble_eq_true rfl) (fun F => ?_)
 try simp only [nf]
 dsimp only [argsEnv]
 refine WP.seq ?_; refine WP.region [0] rfl ?_; refine WP.mv rfl rfl ?_; refine WP.nil (WP.next ?_)
 refine WP.cut (X := LdX) (fun u : LdX => [(0, .pointer (some ⟨f, 0, none⟩)), (3, .pointer (some ⟨u.b, 0, none⟩)), (4, .int .i64 0)]) (fun u => u.J) (fun u : LdX => (u.b, row 50 [.int .u64 (e.tok : Int), .slice u.A e.nodes.length u.c, .int .i64 e.place, .int .i64 e.no, .int .i64 e.low, .int .i64 e.kept, .int .i64 e.txn, .int .i64 e.lead, .slice u.B e.with_.length u.d]) :: ((f, row 114 [.pointer (some ⟨m, 0, none⟩), vr, vp, vN, vy]) :: ((m, row 110 (mcV s (faN f z.at_) (z.c) (.slice An z.c.ent.nodes.length cn) (.slice Aw z.c.ent.with_.length cw) (un) (uw))) :: (u.L ++ F)))) (fun u : LdX => I.le u.J ∧ RNodes u.J (.slice u.A e.nodes.length u.c) e.nodes ∧ SlRd (Imv u.J) (.slice u.B e.with_.length u.d) e.with_.length 1 (e.with_.map (Value.int .i64)) ∧ e.sized ∧ IsT u.J t tb u.L) ?_ ?_
 ·skip
  refine WD.start Tryzmixed 17 (fun c o => (c = f ∧ o = row 114 [.pointer (some ⟨m, 0, none⟩), vr, vp, vN, vy]) ∨ (c = m ∧ o = row 110 (mcV s (faN f z.at_) (z.c) (.slice An z.c.ent.nodes.length cn) (.slice Aw z.c.ent.with_.length cw) (un) (uw))) ∨ I.blk c = some o) (fun _ _ => False) (by rintro _ _ (⟨rfl, rfl⟩ | ⟨rfl, rfl⟩ | h); exact zM; exact zM; exact There.i h) (fun _ _ h => h.elim) 24 [false, false, false, false, false, false, false, false, false, false, false, false, false, false, false, false, false, false, false, false, false, false, false, false] rfl rfl ?_; refine WD.vl (i := 0) rfl (Yld.move rfl rfl) ?_; refine WD.vl (i := 1) rfl (Yld.nilCheck rfl rfl) ?_; refine WD.vl (i := 2) rfl (Yld.fieldAddr rfl ty_fd_114_0 rfl) ?_; refine WD.val1 (i := 3) rfl rfl rfl rfl zK rfl zK (Yld.load (v := .pointer (some ⟨m, 0, none⟩)) rfl ty_sc_55 rfl (.inl (.inl ⟨rfl, rfl⟩)) rfl) ?_; refine WD.vl (i := 4) rfl (Yld.nilCheck rfl rfl) ?_; refine WD.vl (i := 5) rfl (Yld.fieldAddr rfl ty_fd_110_0 rfl) ?_; refine WD.val1 (i := 6) rfl rfl rfl rfl zK rfl zK (Yld.load (v := .pointer (some ⟨s, 0, none⟩)) rfl ty_sc_26 rfl (.inl (.inr (.inl ⟨rfl, rfl⟩))) rfl) ?_; refine WD.vl (i := 7) rfl (Yld.nilCheck rfl rfl) ?_; refine WD.vl (i := 8) rfl (Yld.fieldAddr rfl ty_fd_88_0 rfl) ?_; refine WD.val1 (i := 9) rfl rfl rfl rfl zK rfl zK (Yld.load (v := .pointer (some ⟨t, 0, none⟩)) rfl ty_sc_31 rfl (.inl (.inr (.inr hst))) rfl) ?_; refine WD.vl (i := 10) rfl (Yld.move rfl rfl) ?_; refine WD.vl (i := 11) rfl (Yld.nilCheck rfl rfl) ?_
  refine WD.vl (i := 12) rfl (Yld.fieldAddr rfl ty_fd_114_0 rfl) ?_; refine WD.val1 (i := 13) rfl rfl rfl rfl zK rfl zK (Yld.load (v := .pointer (some ⟨m, 0, none⟩)) rfl ty_sc_55 rfl (.inl (.inl ⟨rfl, rfl⟩)) rfl) ?_; refine WD.vl (i := 14) rfl (Yld.nilCheck rfl rfl) ?_; refine WD.vl (i := 15) rfl (Yld.fieldAddr rfl ty_fd_110_2 rfl) ?_; refine WD.val1 (i := 16) rfl rfl rfl rfl zK rfl zK (Yld.load (v := .int .i64 z.c.page) rfl ty_sc_3 rfl (.inl (.inr (.inl ⟨rfl, rfl⟩))) rfl) ?_; refine WD.both (i := 17) (j := 21) zK rfl rfl ?_ ?_
  ·refine WP.oper rfl rfl ?_
   refine Op.cl (tabT_LoadE hT hg) rfl Tryz.func20 rfl rfl rfl rfl ?_; rintro v J2 Lt2 hJ2 ⟨cs, rfl, hre, hT2⟩
   try simp only [nf]
   obtain ⟨vn2, vw2, nv2, rfl, q1, q2, q3⟩ := id hre.ex
   obtain ⟨An2, cn2, rfl, _⟩ := q1.slice'
   obtain ⟨Aw2, cw2, rfl, _⟩ := q3.slice'
   have hes : e.sized := by obtain ⟨_, hg2⟩ := Tb.ent_get hg; exact (hT.ent hg2).1
   have hqn : RNodes J2 (.slice An2 e.nodes.length cn2) e.nodes := ⟨nv2, q1, q2⟩
   refine WD.go (.inl rfl) (fun _ _ h => h.elim) ?_; refine WD.vl (i := 18) rfl (Yld.move rfl rfl) ?_; refine WD.vl (i := 19) rfl (Yld.extract rfl rfl rfl) ?_; refine WD.vl (i := 20) rfl (Yld.extract rfl rfl rfl) ?_; refine WD.loud (i := 21) zK rfl rfl rfl ?_; refine Op.alloc rfl rfl rfl ty_zr_50 (fun b3 => ?_)
   refine WD.go (.inl rfl) (fun _ _ h => h.elim) ?_; refine WD.loud (i := 22) zK rfl rfl rfl ?_; refine Op.sA rfl rfl ty_sz_50 rfl rfl rfl rfl rfl ?_; refine WD.go (.inl rfl) (fun _ _ h => h.elim) ?_; refine WD.vl (i := 23) rfl (Yld.assign rfl rfl) ?_; refine WD.done zK ?_; refine WP.sub [(0, _), (2, _), (3, _), (4, _)] ?_ ⟨rfl, rfl, rfl, rfl, trivial⟩
   exact WP.meet (⟨b3, J2, An2, cn2, Aw2, cw2, Lt2⟩ : LdX) ⟨hJ2, hqn, q3, hes, hT2⟩ ⟨rfl, rfl, rfl, trivial⟩ rfl zA
  ·refine WP.oper rfl rfl ?_
   refine Op.alloc rfl rfl rfl ty_zr_50 (fun b3 => ?_)
   refine WD.go (.inr (by rintro _ _ (⟨rfl, rfl⟩ | ⟨rfl, rfl⟩ | h); exact zM; exact zM; exact There.i h)) (fun _ _ h => h.elim) ?_; refine WD.loud (i := 17) zK rfl rfl rfl ?_; refine Op.cl (tabT_LoadE hT hg) rfl Tryz.func20 rfl rfl rfl rfl ?_; rintro v J2 Lt2 hJ2 ⟨cs, rfl, hre, hT2⟩
   try simp only [nf]
   obtain ⟨vn2, vw2, nv2, rfl, q1, q2, q3⟩ := id hre.ex
   obtain ⟨An2, cn2, rfl, _⟩ := q1.slice'
   obtain ⟨Aw2, cw2, rfl, _⟩ := q3.slice'
   have hes : e.sized := by obtain ⟨_, hg2⟩ := Tb.ent_get hg; exact (hT.ent hg2).1
   have hqn : RNodes J2 (.slice An2 e.nodes.length cn2) e.nodes := ⟨nv2, q1, q2⟩
   refine WD.go (.inl rfl) (fun _ _ h => h.elim) ?_; refine WD.vl (i := 18) rfl (Yld.move rfl rfl) ?_; refine WD.vl (i := 19) rfl (Yld.extract rfl rfl rfl) ?_; refine WD.vl (i := 20) rfl (Yld.extract rfl rfl rfl) ?_; refine WD.loud (i := 22) zK rfl rfl rfl ?_; refine Op.sA rfl rfl ty_sz_50 rfl rfl rfl rfl rfl ?_; refine WD.go (.inl rfl) (fun _ _ h => h.elim) ?_; refine WD.vl (i := 23) rfl (Yld.assign rfl rfl) ?_; refine WD.done zK ?_; refine WP.sub [(0, _), (2, _), (3, _), (4, _)] ?_ ⟨rfl, rfl, rfl, rfl, trivial⟩
   exact WP.meet (⟨b3, J2, An2, cn2, Aw2, cw2, Lt2⟩ : LdX) ⟨hJ2, hqn, q3, hes, hT2⟩ ⟨rfl, rfl, rfl, trivial⟩ rfl zA
 ·rintro ⟨b3, J2, An2, cn2, Aw2, cw2, Lt2⟩ ⟨hJ2, hqn, q3, hes, hT2⟩; dsimp only at hJ2 hqn q3 hes hT2 ⊢
  refine WP.seq (WP.seq ?_)
  refine WP.region [0, 1] rfl ?_; refine WP.mv rfl rfl ?_; refine WP.vl rfl (Yld.neq rfl rfl rfl false (decide_eq_false (by simp))) ?_; refine WP.nil ?_; refine WP.sub [(0, _), (3, _), (4, _), (27, _)] ?_ ⟨rfl, rfl, rfl, rfl, trivial⟩
  refine WP.next ?_; refine WP.condF rfl ?_; refine WP.skip (WP.next (WP.seq ?_))
  have hst2 := hJ2.2 _ _ hst
  have hmm : IsMc J2 m s (faN f z.at_) z.c [(m, row 110 (mcV s (faN f z.at_) (z.c) (.slice An z.c.ent.nodes.length cn) (.slice Aw z.c.ent.with_.length cw) (un) (uw)))] := (IsMc.mk hn hw hs on ow os : IsMc I m s (faN f z.at_) z.c _).mono hJ2
  refine WP.region [0, 1, 2, 3] rfl ?_; refine WP.mv rfl rfl ?_; refine WP.vl rfl (Yld.ldg (vs := [.int .u64 (e.tok : Int), .slice An2 e.nodes.length cn2, .int .i64 e.place, .int .i64 e.no, .int .i64 e.low, .int .i64 e.kept, .int .i64 e.txn, .int .i64 e.lead, .slice Aw2 e.with_.length cw2]) rfl ty_ag_50 rfl rfl rfl) ?_; refine WP.loud rfl rfl ?_; refine Op.cl (fa_begins (k0 := z.at_) (p0 := z.place) (N0 := z.nodes) hmm hqn q3 hes hst2 hpl) rfl Tryz.func62 rfl rfl rfl rfl ?_; rintro v J Lr - ⟨rfl, rfl, hres⟩
  try simp only [nf]
  refine WP.mv rfl rfl ?_; refine WP.nil ?_; refine WP.sub [(0, _), (2, _), (3, _), (4, _), (27, _)] ?_ ⟨rfl, rfl, rfl, rfl, rfl, trivial⟩
  refine WP.next (WP.ret ?_)
  refine WP.fn .ret (.inr rfl) (res1 rfl rfl) (Lr ++ Lt2) hJ2 ?_; exact ⟨rfl, Lr, Lt2, rfl, hres, hT2⟩


theorem read_Step_memP {I : Imm} {l s d n : Nat} {x : Lg} {y : Dk} {L : Chunks} (hl : IsLog I l s d n x y L) {r k p : Nat} (hk : k < x.rs.length) (hlk : x.lo ≤ x.base + k) (hp : x.endP k = p) : Spec Tryz.prog 91 [.pointer (some ⟨r, 0, none⟩)] I ([(r, row 207 [.pointer (some ⟨l, 0, none⟩), .int .i64 (p : Int), .slice none 0 0, .bool false, .int .i64 0, .int .i64 0, .slice none 0 0, .int .i64 1])] ++ L) (fun v J L' => v = .bool true ∧ ∃ (no : Int) (Lr2 L2 : Chunks), L' = Lr2 ++ L2 ∧ IsRead J r l ⟨p, [], true, no, x.rs[k].kind, x.rs[k].b, 0⟩ Lr2 ∧ IsLog J l s d n x y L2) := by
 subst hp
 exact (read_Step_mem hl hk hlk).mono (by rintro v J L' _ ⟨rfl, Lr2, L2, h1, h2, h3⟩; exact ⟨rfl, _, Lr2, L2, h1, h2, h3⟩)
theorem fa_foundR {I : Imm} {f m s p : Nat} {vr vN vy nx vn vw un uw : Value} {z : Mc} {vb : Value} {b : List UInt8} {kd : Int} {r : Pr} (hb : SlRd (Im I) vb b.length 1 (bytesV b)) (hkd : kd = 2) (hbr : b = pageB r) (hm : r.may) (hl : (pageB r).length ≤ 12671) (hpg : r.page = z.page) (hpv : r.prev < (p : Int)) : Spec Tryz.prog 94 [.pointer (some ⟨f, 0, none⟩), .int .i64 kd, vb] I [(m, row 110 (mcV s (nx) z (vn) (vw) (un) (uw))), (f, row 114 [.pointer (some ⟨m, 0, none⟩), vr, .int .i64 (p : Int), vN, vy])]
  (fun v J L => ∃ vq, v = .tuple #[vq, .int .i64 r.prev, .bool true] ∧ RNodes J vq r.nodes ∧ L = [(m, row 110 (mcV s (nx) z (vn) (vw) (un) (uw))), (f, row 114 [.pointer (some ⟨m, 0, none⟩), vr, .int .i64 (p : Int), vN, vy])]) := by
 subst hkd; subst hbr
 obtain ⟨h1, h2⟩ := okP_lay hm hl
 have h := fa_found (f := f) (m := m) (s := s) (p := p) (vr := vr) (vN := vN) (vy := vy) (nx := nx) (vn := vn) (vw := vw) (un := un) (uw := uw) (z := z) hb (by omega) h1 (by rw [h2]; exact hpg) (by rw [h2]; exact hpv)
 rw [h2] at h
 exact h
theorem fa_fromI {I : Imm} {m s : Nat} {nx : Value} {z : Mc} {Lm : Chunks} (hm : IsMc I m s nx z Lm) {f : Nat} {vr vp vN vy : Value}  {l t : Nat} (hst : I.blk s = some (row 88 [.pointer (some ⟨t, 0, none⟩), .pointer (some ⟨l, 0, none⟩)])) {qi : Int} (h0 : 0 ≤ qi) : Spec Tryz.prog 74 [.pointer (some ⟨f, 0, none⟩), .int .i64 qi] I (Lm ++ [(f, row 114 [.pointer (some ⟨m, 0, none⟩), vr, vp, vN, vy])]) (fun v J L => v = .bool false ∧ I = J ∧ ∃ r Lm2, L = Lm2 ++ ((f, row 114 [.pointer (some ⟨m, 0, none⟩), .pointer (some ⟨r, 0, none⟩), .int .i64 (qi.toNat : Int), vN, vy]) :: [(r, row 207 [.pointer (some ⟨l, 0, none⟩), .int .i64 (qi.toNat : Int), .slice none 0 0, .bool false, .int .i64 0, .int .i64 0, .slice none 0 0, .int .i64 1])]) ∧ IsMc J m s (faN f 2) z Lm2) := by
 obtain ⟨q, rfl⟩ : ∃ q : Nat, qi = (q : Int) := ⟨qi.toNat, by omega⟩
 simp only [Int.toNat_natCast]
 exact fa_from (f := f) (vr := vr) (vp := vp) (vN := vN) (vy := vy) hm hst (q := q)

theorem app2 {A B C : Chunks} {x y : Nat × Obj} : A ++ (x :: (y :: (B ++ C))) = (A ++ (x :: (y :: B))) ++ C := by simp
theorem NodesOk.app {V : Nat → Obj → Prop} {nv nv2 : List (Bool × Value)} {l l2 : List (Bool × List UInt8)} (h : NodesOk V nv l) (h2 : NodesOk V nv2 l2) : NodesOk V (nv ++ nv2) (l ++ l2) := by
 refine ⟨by rw [List.length_append, List.length_append, h.len, h2.len], fun i x hx => ?_⟩
 have hl := h.len
 by_cases hi : i < nv.length
 ·rw [List.getElem?_append_left hi] at hx
  obtain ⟨d, h3, h4⟩ := h.at_ i x hx
  exact ⟨d, by rw [List.getElem?_append_left (by omega)]; exact h3, h4⟩
 ·rw [List.getElem?_append_right (by omega)] at hx
  obtain ⟨d, h3, h4⟩ := h2.at_ _ x hx
  exact ⟨d, by rw [List.getElem?_append_right (by omega), ← hl]; exact h3, h4⟩
theorem fa_reads {I : Imm} {f m s l : Nat} {z : Fa} {Lf : Chunks} (hf : IsFa I f m s l z Lf) {t : Nat} (hst : I.blk s = some (row 88 [.pointer (some ⟨t, 0, none⟩), .pointer (some ⟨l, 0, none⟩)])) {sg d n : Nat} {x : Lg} {y : Dk} {Ll : Chunks} (hlg : IsLog I l sg d n x y Ll) {r_ : Pr} (hlk : ∀ k, x.lo ≤ x.base + k) (hr : RecAt x z.c.page z.place r_) (h1 : z.at_ = 2) (h64 : z.nodes.length + r_.nodes.length ≤ 64) : Spec Tryz.prog 82 [.pointer (some ⟨f, 0, none⟩)] I (Lf ++ Ll) (fun v J L => v = .bool false ∧ ∃ Lf2 Ll2, L = Lf2 ++ Ll2 ∧ IsFa J f m s l (z.reads r_) Lf2 ∧ IsLog J l sg d n x y Ll2) := by
 cases hf with
 | @mk vr vp vN vy Lm Lo hm hx =>
 cases hx with
 | idle h => omega
 | swaps h _ => omega
 | @reads r vN nv Lo h2 ho hno =>
 obtain ⟨Ao, co, rfl, _⟩ := ho.slice
 cases hm with
 | @mk vn vw un uw hn hw hs on ow os =>
 obtain ⟨⟨k, hk, hpk, hkd, hbk⟩, hmay, hlen, hpg, hpv⟩ := hr
 have hlk := hlk k
 refine Spec.of Tryz.func82 rfl Tryz.ntmps82 (Nat.le_of_ble_eq_true rfl) (fun F => ?_)
 try simp only [nf]
 dsimp only [argsEnv]
 refine WP.seq ?_; refine WP.region [0] rfl ?_; refine WP.mv rfl rfl ?_; refine WP.nil (WP.next (WP.seq (WP.seq ?_)))
 refine WP.region [0, 1, 2, 3, 4, 5] rfl ?_; refine WP.mv rfl rfl ?_; refine WP.vl rfl (Yld.nilCheck rfl rfl) ?_; refine WP.vl rfl (Yld.fieldAddr rfl ty_fd_114_1 rfl) ?_; refine WP.vl rfl (Yld.ld (v := .pointer (some ⟨r, 0, none⟩)) rfl ty_sc_112 rfl rfl) ?_; refine WP.loud rfl rfl ?_; refine Op.cl (read_Step_memP hlg (k := k) (p := z.place) hk hlk hpk) rfl Tryz.func91 rfl rfl rfl rfl ?_; rintro v J1 L14 hJ1 ⟨rfl, no_, Lr2, Ll2, rfl, hrd, hlg2⟩
 try simp only [nf]
 refine WP.vl rfl (Yld.not rfl rfl) ?_; refine WP.nil ?_; refine WP.sub [(0, _), (2, _), (15, _)] ?_ ⟨rfl, rfl, rfl, trivial⟩
 refine WP.next ?_; refine WP.condF rfl ?_; refine WP.skip (WP.next (WP.seq ?_))
 refine WP.region [0, 1, 2, 3, 4, 5, 6, 7, 8, 9, 10, 11, 12, 13] rfl ?_; refine WP.mv rfl rfl ?_; refine WP.vl rfl (Yld.nilCheck rfl rfl) ?_; refine WP.vl rfl (Yld.fieldAddr rfl ty_fd_114_1 rfl) ?_; refine WP.vl rfl (Yld.ld (v := .pointer (some ⟨r, 0, none⟩)) rfl ty_sc_112 rfl rfl) ?_; refine WP.loud rfl rfl ?_; refine Op.cl (read_Got hrd (by show (x.rs[k].b).length ≤ _; rw [hbk]; omega)) rfl Tryz.func92 rfl rfl rfl rfl ?_; rintro v J L34 - ⟨rfl, vc, Lc, rfl, hoc, rfl⟩
 try simp only [nf]
 obtain ⟨Ac, cc, rfl, _⟩ := hoc.slice
 refine WP.mv rfl rfl ?_; iterate 4 refine WP.vl rfl (Yld.extract rfl rfl rfl) ?_
 iterate 4 refine WP.mv rfl rfl ?_
 refine WP.nil ?_; refine WP.sub [(0, _), (2, _), (4, _), (5, _), (6, _), (15, _)] ?_ ⟨rfl, rfl, rfl, rfl, rfl, rfl, trivial⟩
 refine WP.shO hoc (fun J2 hJ12 hsb => ?_)
 have hJ2 := Imm.le_trans hJ1 hJ12
 refine WP.next (WP.seq (WP.seq ?_))
 refine WP.region [0] rfl ?_; refine WP.mv rfl rfl ?_; refine WP.nil (WP.next (WP.block (WP.seq ?_)))
 refine WP.region [0, 1] rfl ?_; refine WP.vl rfl (Yld.eql rfl rfl rfl true (decide_eq_true (by rfl))) ?_; refine WP.mv rfl rfl ?_; refine WP.nil ?_; refine WP.sub [(0, _), (2, _), (4, _), (5, _), (6, _), (15, _), (26, _), (30, _)] ?_ ⟨rfl, rfl, rfl, rfl, rfl, rfl, rfl, rfl, trivial⟩
 refine WP.next ?_; refine WP.condT rfl ?_; refine WP.skip (WP.leave (WP.next (WP.seq ?_)))
 refine WP.region [0, 1, 2, 3, 4, 5, 6, 7, 8, 9, 10] rfl ?_; iterate 3 refine WP.mv rfl rfl ?_
 refine WP.loud rfl rfl ?_; refine Op.cl (fa_foundR (p := z.place) (r := r_) (b := x.rs[k].b) (kd := x.rs[k].kind) (z := z.c) hsb hkd hbk hmay hlen hpg hpv) rfl Tryz.func94 rfl rfl rfl rfl ?_; rintro v J3 L93 hJ3 ⟨vq, rfl, hrn, rfl⟩
 try simp only [nf]
 have hJ23 := Imm.le_trans hJ2 hJ3
 obtain ⟨nvq, hq1, hq2⟩ := id hrn.ex
 obtain ⟨Aq, cq, rfl, _⟩ := hq1.slice'
 refine WP.mv rfl rfl ?_; iterate 3 refine WP.vl rfl (Yld.extract rfl rfl rfl) ?_
 iterate 3 refine WP.mv rfl rfl ?_
 refine WP.nil ?_; refine WP.sub [(0, _), (2, _), (4, _), (5, _), (6, _), (7, _), (8, _), (9, _), (15, _), (26, _), (30, _)] ?_ ⟨rfl, rfl, rfl, rfl, rfl, rfl, rfl, rfl, rfl, rfl, rfl, trivial⟩
 refine WP.next (WP.seq (WP.seq ?_))
 refine WP.region [0, 1, 2, 3, 4, 5, 6, 7, 8, 9, 10, 11, 12] rfl ?_; refine WP.mv rfl rfl ?_; refine WP.vl rfl (Yld.not rfl rfl) ?_; refine WP.mv rfl rfl ?_; refine WP.valG rfl rfl rfl rfl rfl rfl rfl (Yld.move rfl rfl) ?_; refine WP.valG rfl rfl rfl rfl rfl rfl rfl (Yld.nilCheck rfl rfl) ?_; refine WP.valG rfl rfl rfl rfl rfl rfl rfl (Yld.fieldAddr rfl ty_fd_114_3 rfl) ?_; refine WP.valG rfl rfl rfl rfl rfl rfl rfl (Yld.ld (v := .slice Ao z.nodes.length co) rfl ty_sc_45 rfl rfl) ?_; refine WP.valG rfl rfl rfl rfl rfl rfl rfl (Yld.len rfl ty_sl_45 rfl) ?_; refine WP.valG rfl rfl rfl rfl rfl rfl rfl (Yld.move rfl rfl) ?_; refine WP.valG rfl rfl rfl rfl rfl rfl rfl (Yld.len rfl ty_sl_45 rfl) ?_; refine WP.valG rfl rfl rfl rfl rfl rfl rfl (Yld.add64 rfl rfl rfl (by omega)) ?_; refine WP.valG rfl rfl rfl rfl rfl rfl rfl (Yld.gtr rfl rfl rfl false (decide_eq_false (by omega))) ?_; refine WP.vl rfl (Yld.pickF rfl rfl rfl) ?_; refine WP.nil ?_; refine WP.sub [(0, _), (2, _), (4, _), (5, _), (6, _), (7, _), (8, _), (9, _), (15, _), (26, _), (30, _), (67, _)] ?_ ⟨rfl, rfl, rfl, rfl, rfl, rfl, rfl, rfl, rfl, rfl, rfl, rfl, trivial⟩
 refine WP.next ?_; refine WP.condF rfl ?_; refine WP.skip (WP.next (WP.seq ?_))
 refine WP.region [0, 1, 2, 3, 4, 5, 6, 7, 8, 9] rfl ?_; iterate 2 refine WP.mv rfl rfl ?_
 refine WP.vl rfl (Yld.nilCheck rfl rfl) ?_; refine WP.vl rfl (Yld.fieldAddr rfl ty_fd_114_3 rfl) ?_; refine WP.vl rfl (Yld.ld (v := .slice Ao z.nodes.length co) rfl ty_sc_45 rfl rfl) ?_; refine WP.mv rfl rfl ?_; refine WP.loud rfl rfl ?_; refine Op.append (m := r_.nodes.length) rfl ty_sl_45 ty_el_45 rfl rfl rfl rfl rfl ho (hq1.mono (fun b o h => There.i h)) zT (ndV_one _ hq2) (by omega) (by omega) (fun vu Lu hu => ?_)
 try simp only [nf]
 obtain ⟨Au, cu, rfl, _⟩ := hu.slice
 refine WP.vl rfl (Yld.nilCheck rfl rfl) ?_; refine WP.vl rfl (Yld.fieldAddr rfl ty_fd_114_3 rfl) ?_; refine WP.loud rfl rfl ?_; refine Op.s1 rfl rfl ty_sz_45 rfl rfl rfl ?_; refine WP.nil ?_; refine WP.sub [(0, _), (2, _), (4, _), (5, _), (6, _), (7, _), (8, _), (9, _), (15, _), (26, _), (30, _), (67, _)] ?_ ⟨rfl, rfl, rfl, rfl, rfl, rfl, rfl, rfl, rfl, rfl, rfl, rfl, trivial⟩
 refine WP.next (WP.seq (WP.seq ?_))
 refine WP.region [0, 1] rfl ?_; refine WP.mv rfl rfl ?_; refine WP.split rfl rfl rfl rfl (Yld.gtr rfl rfl rfl) (fun h13 => ?_) (fun h13 => ?_)
 ·refine WP.nil ?_
  refine WP.sub [(0, _), (2, _), (4, _), (5, _), (6, _), (7, _), (8, _), (9, _), (15, _), (26, _), (30, _), (67, _), (80, _)] ?_ ⟨rfl, rfl, rfl, rfl, rfl, rfl, rfl, rfl, rfl, rfl, rfl, rfl, rfl, trivial⟩
  refine WP.next ?_; refine WP.condT rfl ?_; refine WP.seq ?_; have hst3 := hJ23.2 _ _ hst
  have hmm : IsMc J3 m s (faN f z.at_) z.c [(m, row 110 (mcV s (faN f z.at_) (z.c) vn vw un uw))] := (IsMc.mk hn hw hs on ow os : IsMc I m s (faN f z.at_) z.c _).mono hJ23
  refine WP.region [0, 1, 2, 3] rfl ?_; iterate 2 refine WP.mv rfl rfl ?_
  refine WP.loud rfl rfl ?_; refine Op.cl (fa_fromI hmm hst3 (qi := r_.prev) (by omega)) rfl Tryz.func74 rfl rfl rfl rfl ?_; rintro v J L142 - ⟨rfl, rfl, r2, Lm2, rfl, hm2⟩
  try simp only [nf]
  refine WP.mv rfl rfl ?_; refine WP.nil ?_; refine WP.sub [(0, _), (2, _), (4, _), (5, _), (6, _), (7, _), (8, _), (9, _), (15, _), (26, _), (30, _), (67, _), (80, _)] ?_ ⟨rfl, rfl, rfl, rfl, rfl, rfl, rfl, rfl, rfl, rfl, rfl, rfl, rfl, trivial⟩
  refine WP.next (WP.ret ?_)
  refine WP.fn .ret (.inr rfl) (res1 rfl rfl) (Lm2 ++ ((f, row 114 [.pointer (some ⟨m, 0, none⟩), .pointer (some ⟨r2, 0, none⟩), .int .i64 (r_.prev.toNat : Int), .slice Au (z.nodes.length + r_.nodes.length) cu, vy]) :: ((r2, row 207 [.pointer (some ⟨l, 0, none⟩), .int .i64 (r_.prev.toNat : Int), .slice none 0 0, .bool false, .int .i64 0, .int .i64 0, .slice none 0 0, .int .i64 1]) :: (Lu ++ Ll2)))) hJ23 ?_; have e1 : z.reads r_ = { z with place := r_.prev.toNat, nodes := z.nodes ++ r_.nodes } := if_pos h13
  have hln : (z.nodes ++ r_.nodes).length = z.nodes.length + r_.nodes.length := List.length_append
  rw [e1]; exact ⟨rfl, _, Ll2, app2, .mk (z := { z with place := r_.prev.toNat, nodes := z.nodes ++ r_.nodes }) (by show IsMc J3 m s (faN f z.at_) z.c Lm2; rw [h1]; exact hm2) (.reads (nv := nv ++ nvq) h1 (by rw [List.flatMap_append, hln]; exact hu) ((hno.mono (Imv.le hJ23)).app hq2)), (hlg2.mono (Imm.le_trans hJ12 hJ3))⟩
 ·refine WP.nil ?_
  refine WP.sub [(0, _), (2, _), (4, _), (5, _), (6, _), (7, _), (8, _), (9, _), (15, _), (26, _), (30, _), (67, _), (80, _)] ?_ ⟨rfl, rfl, rfl, rfl, rfl, rfl, rfl, rfl, rfl, rfl, rfl, rfl, rfl, trivial⟩
  refine WP.next ?_; refine WP.condF rfl ?_; refine WP.skip (WP.next (WP.seq ?_))
  refine WP.shO hu (fun J4 hJ4 hsl => ?_)
  have hJ24 := Imm.le_trans hJ23 hJ4
  have hmm : IsMc J4 m s (faN f z.at_) z.c [(m, row 110 (mcV s (faN f z.at_) (z.c) vn vw un uw))] := (IsMc.mk hn hw hs on ow os : IsMc I m s (faN f z.at_) z.c _).mono hJ24
  refine WP.region [0, 1, 2, 3, 4, 5, 6, 7] rfl ?_; refine WP.mv rfl rfl ?_; refine WP.vl rfl (Yld.nilCheck rfl rfl) ?_; refine WP.vl rfl (Yld.fieldAddr rfl ty_fd_114_0 rfl) ?_; refine WP.vl rfl (Yld.ld (v := .pointer (some ⟨m, 0, none⟩)) rfl ty_sc_55 rfl rfl) ?_; refine WP.mv rfl rfl ?_; refine WP.vl rfl (Yld.makeFunc rfl (vs := [_]) (us := []) rfl rfl) ?_; refine WP.loud rfl rfl ?_; refine Op.cl (cac_goes hmm) rfl Tryz.func60 rfl rfl rfl rfl ?_; rintro v J Lm2 - ⟨rfl, rfl, hm2⟩
  try simp only [nf]
  refine WP.mv rfl rfl ?_; refine WP.nil ?_; refine WP.sub [(0, _), (2, _), (4, _), (5, _), (6, _), (7, _), (8, _), (9, _), (15, _), (26, _), (30, _), (67, _), (80, _)] ?_ ⟨rfl, rfl, rfl, rfl, rfl, rfl, rfl, rfl, rfl, rfl, rfl, rfl, rfl, trivial⟩
  refine WP.next (WP.ret ?_)
  refine WP.fn .ret (.inr rfl) (res1 rfl rfl) (Lm2 ++ ((f, row 114 [.pointer (some ⟨m, 0, none⟩), .pointer (some ⟨r, 0, none⟩), .int .i64 (z.place : Int), .slice Au (z.nodes.length + r_.nodes.length) cu, vy]) :: Ll2)) hJ24 ?_; have e1 : z.reads r_ = { z with at_ := 3, nodes := z.nodes ++ r_.nodes } := if_neg h13
  have hln : (z.nodes ++ r_.nodes).length = z.nodes.length + r_.nodes.length := List.length_append
  rw [e1]; exact ⟨rfl, _, Ll2, app1, .mk (z := { z with at_ := 3, nodes := z.nodes ++ r_.nodes }) hm2 (.swaps rfl ⟨nv ++ nvq, by rw [List.flatMap_append, hln]; exact hsl, (hno.mono (Imv.le hJ24)).app (hq2.mono (Imv.le hJ4))⟩), (hlg2.mono (Imm.le_trans hJ12 (Imm.le_trans hJ3 hJ4)))⟩

theorem fa_swaps {I : Imm} {f m s l : Nat} {z : Fa} {Lf : Chunks} (hf : IsFa I f m s l z Lf) {t : Nat} {tb : Tb} {Lt : Chunks} (hst : I.blk s = some (row 88 [.pointer (some ⟨t, 0, none⟩), .pointer (some ⟨l, 0, none⟩)])) (hT : IsT I t tb Lt) (htk : tb.tok + 1 < 18446744073709551616) (h1 : z.at_ = 3) (h64 : z.nodes.length ≤ 64) (hsz : ∀ y ∈ z.nodes, y.2.length ≤ 140737488351232) : Spec Tryz.prog 95 [.pointer (some ⟨f, 0, none⟩)] I (Lf ++ Lt) (fun v J L => ∃ r tb2 Lf2 Lt2, SwR tb z.c.page z.c.ent.tok z.ent2 r tb2 ∧ v = .bool (z.swaps r).1 ∧ L = Lf2 ++ Lt2 ∧ IsFa J f m s l (z.swaps r).2 Lf2 ∧ IsT J t tb2 Lt2) := by
 cases hf with
 | @mk vr vp vN vy Lm Lo hm hx =>
 cases hx with
 | idle h => omega
 | reads h _ _ => omega
 | swaps _ hN =>
 cases hm with
 | @mk vn vw un uw hn hw hs on ow os =>
 obtain ⟨nvn, hn1, hn2⟩ := id hn.ex
 obtain ⟨An, cn, rfl, _⟩ := hn1.slice'
 obtain ⟨Aw, cw, rfl, _⟩ := hw.slice'
 obtain ⟨nvN, hN1, hN2⟩ := id hN.ex
 obtain ⟨AN, cN, rfl, _⟩ := hN1.slice'
 refine Spec.of Tryz.func95 rfl Tryz.ntmps95 (Nat.le_of_ble_eq_true rfl) (fun F => ?_)
 try simp only [nf]
 dsimp only [argsEnv]
 refine WP.seq ?_; refine WP.region [0] rfl ?_; refine WP.mv rfl rfl ?_; refine WP.nil (WP.next (WP.seq ?_))
 refine WP.region [0, 1, 2, 3, 4, 5, 6, 7, 8] rfl ?_; refine WP.mv rfl rfl ?_; refine WP.vl rfl (Yld.nilCheck rfl rfl) ?_; refine WP.vl rfl (Yld.fieldAddr rfl ty_fd_114_0 rfl) ?_; refine WP.vl rfl (Yld.ld (v := .pointer (some ⟨m, 0, none⟩)) rfl ty_sc_55 rfl rfl) ?_; refine WP.vl rfl (Yld.nilCheck rfl rfl) ?_; refine WP.vl rfl (Yld.fieldAddr rfl ty_fd_110_3 rfl) ?_; refine WP.vl rfl (Yld.ldg (vs := [.int .u64 (z.c.ent.tok : Int), .slice An z.c.ent.nodes.length cn, .int .i64 z.c.ent.place, .int .i64 z.c.ent.no, .int .i64 z.c.ent.low, .int .i64 z.c.ent.kept, .int .i64 z.c.ent.txn, .int .i64 z.c.ent.lead, .slice Aw z.c.ent.with_.length cw]) rfl ty_ag_50 rfl rfl rfl) ?_; refine WP.loud rfl rfl ?_; refine Op.alloc rfl rfl rfl ty_zr_50 (fun b3 => ?_)
 refine WP.loud rfl rfl ?_; refine Op.sA rfl rfl ty_sz_50 rfl rfl rfl rfl rfl ?_; refine WP.nil ?_; refine WP.sub [(0, _), (2, _), (3, _)] ?_ ⟨rfl, rfl, rfl, trivial⟩
 refine WP.next (WP.seq ?_)
 refine WD.start Tryzmixed 12 (fun _ _ => False) (fun c o => c = f ∧ o = row 114 [.pointer (some ⟨m, 0, none⟩), vr, vp, .slice AN z.nodes.length cN, vy]) (fun _ _ h => h.elim) (by rintro _ _ ⟨rfl, rfl⟩; exact zM) 13 [false, false, false, false, false, false, false, false, false, false, false, false, false] rfl rfl ?_; refine WD.vl (i := 0) rfl (Yld.move rfl rfl) ?_; refine WD.vl (i := 1) rfl (Yld.nilCheck rfl rfl) ?_; refine WD.vl (i := 2) rfl (Yld.fieldAddr rfl ty_fd_114_3 rfl) ?_; refine WD.vl (i := 3) rfl (Yld.load (v := .slice AN z.nodes.length cN) rfl ty_sc_45 rfl ⟨rfl, rfl⟩ rfl) ?_; refine WD.vl (i := 4) rfl (Yld.move rfl rfl) ?_; refine WD.vl (i := 5) rfl (Yld.nilCheck rfl rfl) ?_; refine WD.vl (i := 6) rfl (Yld.fieldAddr rfl ty_fd_114_3 rfl) ?_; refine WD.vl (i := 7) rfl (Yld.load (v := .slice AN z.nodes.length cN) rfl ty_sc_45 rfl ⟨rfl, rfl⟩ rfl) ?_; refine WD.vl (i := 8) rfl (Yld.len rfl ty_sl_45 rfl) ?_; refine WD.vl (i := 9) rfl (Yld.fieldAddr rfl ty_fd_50_1 rfl) ?_; refine WD.loud (i := 10) zK rfl rfl rfl ?_; refine Op.s1 rfl rfl ty_sz_45 rfl rfl rfl ?_; refine WD.go (.inr (fun _ _ h => h.elim)) (by rintro _ _ ⟨rfl, rfl⟩; exact zM) ?_; refine WD.vl (i := 11) rfl (Yld.fieldAddr rfl ty_fd_50_5 rfl) ?_; refine WD.loud (i := 12) zK rfl rfl rfl ?_; refine Op.s1 rfl rfl ty_sz_3 rfl rfl rfl ?_; refine WD.go (.inl rfl) (by rintro _ _ ⟨rfl, rfl⟩; exact zM) ?_; refine WD.done zK ?_; refine WP.sub [(0, _), (2, _), (3, _)] ?_ ⟨rfl, rfl, rfl, trivial⟩
 refine WP.next (WP.seq ?_)
 refine WQ.start Tryzmixed 7 zK _ rfl [7, 8] rfl ?_; refine WQ.val rfl rfl rfl (Yld.move rfl rfl) ?_; refine WQ.val rfl rfl rfl (Yld.nilCheck rfl rfl) ?_; refine WQ.val rfl rfl rfl (Yld.fieldAddr rfl ty_fd_114_0 rfl) ?_; refine WQ.val rfl rfl rfl (Yld.ld (v := .pointer (some ⟨m, 0, none⟩)) rfl ty_sc_55 rfl rfl) ?_; refine WQ.val rfl rfl rfl (Yld.ldg (vs := [.int .u64 (({ z.c.ent with nodes := z.nodes, kept := z.nodes.length } : Ent).tok : Int), .slice AN z.nodes.length cN, .int .i64 ({ z.c.ent with nodes := z.nodes, kept := z.nodes.length } : Ent).place, .int .i64 ({ z.c.ent with nodes := z.nodes, kept := z.nodes.length } : Ent).no, .int .i64 ({ z.c.ent with nodes := z.nodes, kept := z.nodes.length } : Ent).low, .int .i64 ({ z.c.ent with nodes := z.nodes, kept := z.nodes.length } : Ent).kept, .int .i64 ({ z.c.ent with nodes := z.nodes, kept := z.nodes.length } : Ent).txn, .int .i64 ({ z.c.ent with nodes := z.nodes, kept := z.nodes.length } : Ent).lead, .slice Aw z.c.ent.with_.length cw]) rfl ty_ag_50 rfl rfl rfl) ?_; refine WQ.val rfl rfl rfl (Yld.move rfl rfl) ?_; refine WQ.val rfl rfl rfl (Yld.makeFunc rfl (vs := [_]) (us := []) rfl rfl) ?_; refine WQ.nil ?_; refine WP.loud rfl rfl ?_; refine Op.cl (cac_swap (IsMc.mk hn hw hs on ow os : IsMc I m s (faN f z.at_) z.c _) (x := { z.c.ent with nodes := z.nodes, kept := z.nodes.length }) hN hw ⟨by show z.nodes.length ≤ _; omega, hsz, hs.3⟩ hst hT htk) rfl Tryz.func75 rfl rfl rfl rfl ?_; rintro v J2 L37 hJ2 ⟨r, tb2, Lm2, Lt2, hsw, rfl, hT2, hor⟩
 try simp only [nf]
 try simp only [nf]
 refine WP.mv rfl rfl ?_; refine WP.nil ?_; refine WP.sub [(0, _), (2, _), (3, _)] ?_ ⟨rfl, rfl, rfl, trivial⟩
 refine WP.next (WP.ret ?_)
 refine WP.fn .ret (.inr rfl) (res1 rfl rfl) (Lm2 ++ ((f, row 114 [.pointer (some ⟨m, 0, none⟩), vr, vp, .slice AN z.nodes.length cN, vy]) :: Lt2)) hJ2 ?_; refine ⟨r, tb2, _, Lt2, hsw, ?_, app1, ?_, hT2⟩
 ·rcases hor with ⟨h5, rfl, _⟩ | ⟨h5, rfl, _⟩; rw [show z.swaps r = (false, { z with at_ := 1 }) from if_pos h5]; rw [show z.swaps r = (true, { z with at_ := 9, c := z.c.fin z.ent2 r }) from if_neg h5]
 ·rcases hor with ⟨h5, _, hm2⟩ | ⟨h5, _, hm2⟩; (rw [show z.swaps r = (false, { z with at_ := 1 }) from if_pos h5]; exact .mk (z := { z with at_ := 1 }) hm2 (.idle (.inl rfl))); (rw [show z.swaps r = (true, { z with at_ := 9, c := z.c.fin z.ent2 r }) from if_neg h5]; exact .mk (z := { z with at_ := 9, c := z.c.fin z.ent2 r }) hm2 (.idle (.inr rfl)))

theorem cac_NewFault {I : Imm} {s l : Nat} {p : Int} : Spec Tryz.prog 15 [.pointer (some ⟨s, 0, none⟩), .int .i64 p] I [] (fun v J L => I = J ∧ ∃ m f, v = .pointer (some ⟨m, 0, none⟩) ∧ IsFa J f m s l (fa0 p) L) := by
 refine Spec.of Tryz.func15 rfl Tryz.ntmps15 (Nat.le_of_ble_eq_true rfl) (fun F => ?_)
 try simp only [nf]
 dsimp only [argsEnv]
 refine WP.seq ?_; refine WP.region [0] rfl ?_; refine WP.mv rfl rfl ?_; refine WP.nil (WP.next (WP.seq ?_))
 refine WP.region [0, 1, 2, 3, 4, 5] rfl ?_; iterate 2 refine WP.mv rfl rfl ?_
 refine WP.loud rfl rfl ?_; refine Op.cl cac_machine rfl Tryz.func39 rfl rfl rfl rfl ?_; rintro v J L1 - ⟨rfl, m, rfl, rfl⟩
 try simp only [nf]
 refine WP.vl rfl (Yld.buildS (pl := [(0, 0, 1)]) rfl ty_zr_114 ty_zd_114 zK rfl (vs := [_]) rfl (segs := [(0, [_])]) rfl rfl zS) ?_; refine WP.loud rfl rfl ?_; refine Op.box rfl rfl rfl rfl rfl (fun f => ?_)
 refine WP.mv rfl rfl ?_; refine WP.nil ?_; refine WP.sub [(0, _), (1, _), (4, _), (5, _)] ?_ ⟨rfl, rfl, rfl, rfl, trivial⟩
 refine WP.next (WP.seq ?_)
 refine WP.region [0, 1, 2, 3, 4, 5, 6, 7, 8, 9] rfl ?_; refine WP.mv rfl rfl ?_; refine WP.vl rfl (Yld.nilCheck rfl rfl) ?_; refine WP.vl rfl (Yld.fieldAddr rfl ty_fd_114_0 rfl) ?_; refine WP.vl rfl (Yld.ld (v := .pointer (some ⟨m, 0, none⟩)) rfl ty_sc_55 rfl rfl) ?_; refine WP.mv rfl rfl ?_; refine WP.vl rfl (Yld.makeFunc rfl (vs := [_]) (us := []) rfl rfl) ?_; refine WP.vl rfl (Yld.nilCheck rfl rfl) ?_; refine WP.vl rfl (Yld.fieldAddr rfl ty_fd_110_1 rfl) ?_; refine WP.vl rfl (Yld.fieldAddr rfl ty_fd_108_0 rfl) ?_; refine WP.loud rfl rfl ?_; refine Op.s1 rfl rfl ty_sz_23 rfl rfl rfl ?_; refine WP.nil ?_; refine WP.sub [(0, _), (1, _), (4, _), (5, _)] ?_ ⟨rfl, rfl, rfl, rfl, trivial⟩
 refine WP.next (WP.seq ?_)
 refine WP.region [0, 1, 2, 3, 4] rfl ?_; refine WP.mv rfl rfl ?_; refine WP.vl rfl (Yld.nilCheck rfl rfl) ?_; refine WP.vl rfl (Yld.fieldAddr rfl ty_fd_114_0 rfl) ?_; refine WP.vl rfl (Yld.ld (v := .pointer (some ⟨m, 0, none⟩)) rfl ty_sc_55 rfl rfl) ?_; refine WP.mv rfl rfl ?_; refine WP.nil ?_; refine WP.sub [(0, _), (1, _), (4, _), (5, _)] ?_ ⟨rfl, rfl, rfl, rfl, trivial⟩
 refine WP.next (WP.ret ?_)
 refine WP.fn .ret (.inr rfl) (res1 rfl rfl) [(m, row 110 (mcV s (faN f 1) (mc0 p) (.slice none 0 0) (.slice none 0 0) (.slice none 0 0) (.slice none 0 0))), (f, row 114 [.pointer (some ⟨m, 0, none⟩), .pointer none, .int .i64 0, .slice none 0 0, .int .i64 0])] (Imm.le_refl _) ?_; exact ⟨rfl, m, f, rfl, .mk (z := fa0 p) (Lm := [_]) (IsMc.zero _) (.idle (.inl rfl))⟩

theorem clone_nodes {I : Imm} {v0 : Value} {n : Nat} {cs : List Value} (hb : SlRd (Imv I) v0 n 2 cs) (hone : cs.all (·.oneCell') = true) (hbl : n ≤ 4398046510976) : Spec Tryz.prog 45 [v0] I [] (fun v J L => I = J ∧ Own 70 2 v cs n L) := by
 obtain ⟨A, c, rfl, hc, _, _⟩ := id hb
 refine Spec.of Tryz.func45 rfl Tryz.ntmps45 (Nat.le_of_ble_eq_true rfl) (fun F => ?_)
 try simp only [nf]
 dsimp only [argsEnv]
 refine WP.seq ?_; refine WP.region [0] rfl ?_; refine WP.mv rfl rfl ?_; refine WP.nil (WP.next (WP.seq (WP.seq ?_)))
 refine WP.region [0, 1] rfl ?_; refine WP.mv rfl rfl ?_; refine WP.vl rfl (Yld.eqlSlNil rfl ty_sl_45 rfl rfl) ?_; by_cases hA : A.isNone = true
 ·try rw [hA]
  refine WP.nil ?_; refine WP.sub [(0, _), (2, _), (4, _)] ?_ ⟨rfl, rfl, rfl, trivial⟩
  refine WP.next ?_; refine WP.condT rfl ?_; refine WP.seq ?_; refine WP.region [0] rfl ?_; refine WP.mv rfl rfl ?_; refine WP.nil (WP.next (WP.ret ?_))
  refine WP.fn .ret (.inr rfl) (res1 rfl rfl) [] (Imm.le_refl _) ?_; obtain ⟨rfl, rfl⟩ : n = 0 ∧ cs = [] := by obtain ⟨A', c', e, _, hcl, h3⟩ := hb; cases e; rcases h3 with h3 | ⟨b, k, T, fr, arr, rfl, _, _⟩; (subst h3; exact ⟨rfl, List.eq_nil_of_length_eq_zero (by omega)⟩); cases hA
  exact ⟨rfl, .none0⟩
 ·have hA : A.isNone = false := eq_false_of_ne_true hA
  try rw [hA]
  refine WP.nil ?_; refine WP.sub [(0, _), (2, _), (4, _)] ?_ ⟨rfl, rfl, rfl, trivial⟩
  refine WP.next ?_; refine WP.condF rfl ?_; refine WP.skip (WP.next (WP.seq ?_))
  refine WP.region [0, 1, 2, 3] rfl ?_; refine WP.loud rfl rfl ?_; refine Op.buildSlice rfl ty_sl_45 ty_el2_45 rfl rfl rfl rfl (vs := []) rfl (segs := []) (cs := []) rfl rfl .nil (fun be => ?_)
  refine WP.mv rfl rfl ?_; refine WP.loud rfl rfl ?_; refine Op.append rfl ty_sl_45 ty_el_45 rfl rfl rfl rfl rfl (Own.blk (T := 70) (sz := 2) (b := be) (cap := 0) (n := 0) (xs := []) (sp := []) rfl rfl (Nat.le_refl _)) (hb.mono (fun b o h => There.i h)) zT hone (by omega) (by omega) (fun vp Lp hp => ?_)
  rw [List.nil_append, Nat.zero_add] at hp
  try simp only [nf]
  refine WP.mv rfl rfl ?_; refine WP.nil ?_; refine WP.sub [(0, _), (2, _), (4, _)] ?_ ⟨rfl, rfl, rfl, trivial⟩
  refine WP.next (WP.ret ?_)
  refine WP.fn .ret (.inr rfl) (res1 rfl rfl) Lp (Imm.le_refl _) ?_; exact ⟨rfl, hp⟩

theorem clone_ints {I : Imm} {v0 : Value} {n : Nat} {cs : List Value} (hb : SlRd (Imv I) v0 n 1 cs) (hone : cs.all (·.oneCell') = true) (hbl : n ≤ 17592186043904) : Spec Tryz.prog 47 [v0] I [] (fun v J L => I = J ∧ Own 3 1 v cs n L) := by
 obtain ⟨A, c, rfl, hc, _, _⟩ := id hb
 refine Spec.of Tryz.func47 rfl Tryz.ntmps47 (Nat.le_of_ble_eq_true rfl) (fun F => ?_)
 try simp only [nf]
 dsimp only [argsEnv]
 refine WP.seq ?_; refine WP.region [0] rfl ?_; refine WP.mv rfl rfl ?_; refine WP.nil (WP.next (WP.seq (WP.seq ?_)))
 refine WP.region [0, 1] rfl ?_; refine WP.mv rfl rfl ?_; refine WP.vl rfl (Yld.eqlSlNil rfl ty_sl_48 rfl rfl) ?_; by_cases hA : A.isNone = true
 ·try rw [hA]
  refine WP.nil ?_; refine WP.sub [(0, _), (2, _), (4, _)] ?_ ⟨rfl, rfl, rfl, trivial⟩
  refine WP.next ?_; refine WP.condT rfl ?_; refine WP.seq ?_; refine WP.region [0] rfl ?_; refine WP.mv rfl rfl ?_; refine WP.nil (WP.next (WP.ret ?_))
  refine WP.fn .ret (.inr rfl) (res1 rfl rfl) [] (Imm.le_refl _) ?_; obtain ⟨rfl, rfl⟩ : n = 0 ∧ cs = [] := by obtain ⟨A', c', e, _, hcl, h3⟩ := hb; cases e; rcases h3 with h3 | ⟨b, k, T, fr, arr, rfl, _, _⟩; (subst h3; exact ⟨rfl, List.eq_nil_of_length_eq_zero (by omega)⟩); cases hA
  exact ⟨rfl, .none0⟩
 ·have hA : A.isNone = false := eq_false_of_ne_true hA
  try rw [hA]
  refine WP.nil ?_; refine WP.sub [(0, _), (2, _), (4, _)] ?_ ⟨rfl, rfl, rfl, trivial⟩
  refine WP.next ?_; refine WP.condF rfl ?_; refine WP.skip (WP.next (WP.seq ?_))
  refine WP.region [0, 1, 2, 3] rfl ?_; refine WP.loud rfl rfl ?_; refine Op.buildSlice rfl ty_sl_48 ty_el2_48 rfl rfl rfl rfl (vs := []) rfl (segs := []) (cs := []) rfl rfl .nil (fun be => ?_)
  refine WP.mv rfl rfl ?_; refine WP.loud rfl rfl ?_; refine Op.append rfl ty_sl_48 ty_el_48 rfl rfl rfl rfl rfl (Own.blk (T := 3) (sz := 1) (b := be) (cap := 0) (n := 0) (xs := []) (sp := []) rfl rfl (Nat.le_refl _)) (hb.mono (fun b o h => There.i h)) zT hone (by omega) (by omega) (fun vp Lp hp => ?_)
  rw [List.nil_append, Nat.zero_add] at hp
  try simp only [nf]
  refine WP.mv rfl rfl ?_; refine WP.nil ?_; refine WP.sub [(0, _), (2, _), (4, _)] ?_ ⟨rfl, rfl, rfl, trivial⟩
  refine WP.next (WP.ret ?_)
  refine WP.fn .ret (.inr rfl) (res1 rfl rfl) Lp (Imm.le_refl _) ?_; exact ⟨rfl, hp⟩


structure GtX where
 i : Nat
 J : Imm
 nv : List (Bool × Value)
 L : Chunks
theorem cac_Got {I : Imm} {m s : Nat} {nx : Value} {z : Mc} {Lm : Chunks} (hm : IsMc I m s nx z Lm) : Spec Tryz.prog 23 [.pointer (some ⟨m, 0, none⟩)] I Lm (fun v J L => ∃ cs, v = .tuple #[.agg cs.toArray, .int .i64 z.e] ∧ REnt J z.out cs ∧ IsMc J m s nx z L) := by
 cases hm with
 | @mk vn vw un uw hn hw hs on ow os =>
 obtain ⟨nvu, on1, on2⟩ := id on.ex
 obtain ⟨Au, cu, rfl, _⟩ := on1.slice'
 obtain ⟨Ay, cy, rfl, _⟩ := ow.slice'
 refine Spec.of Tryz.func23 rfl Tryz.ntmps23 (Nat.le_of_ble_eq_true rfl) (fun F => ?_)
 try simp only [nf]
 dsimp only [argsEnv]
 refine WP.seq ?_; refine WP.region [0, 1] rfl ?_; refine WP.loud rfl rfl ?_; refine Op.alloc rfl rfl rfl ty_zr_50 (fun b2 => ?_)
 refine WP.mv rfl rfl ?_; refine WP.nil (WP.next (WP.seq ?_))
 refine WP.region [0, 1, 2, 3, 4, 5] rfl ?_; refine WP.mv rfl rfl ?_; refine WP.vl rfl (Yld.nilCheck rfl rfl) ?_; refine WP.vl rfl (Yld.fieldAddr rfl ty_fd_110_4 rfl) ?_; refine WP.vl rfl (Yld.ldg (vs := [.int .u64 (z.out.tok : Int), .slice Au z.out.nodes.length cu, .int .i64 z.out.place, .int .i64 z.out.no, .int .i64 z.out.low, .int .i64 z.out.kept, .int .i64 z.out.txn, .int .i64 z.out.lead, .slice Ay z.out.with_.length cy]) rfl ty_ag_50 rfl rfl rfl) ?_; refine WP.loud rfl rfl ?_; refine Op.alloc rfl rfl rfl ty_zr_50 (fun b4 => ?_)
 refine WP.loud rfl rfl ?_; refine Op.sA rfl rfl ty_sz_50 rfl rfl rfl rfl rfl ?_; refine WP.nil ?_; refine WP.sub [(0, _), (2, _), (3, _), (4, _)] ?_ ⟨rfl, rfl, rfl, rfl, trivial⟩
 refine WP.next (WP.seq ?_)
 refine WP.region [0, 1, 2, 3, 4] rfl ?_; refine WP.vl rfl (Yld.fieldAddr rfl ty_fd_50_1 rfl) ?_; refine WP.vl rfl (Yld.ld (v := .slice Au z.out.nodes.length cu) rfl ty_sc_45 rfl rfl) ?_; refine WP.loud rfl rfl ?_; refine Op.cl (clone_nodes on1 (ndV_one _ on2) os.nodes) rfl Tryz.func45 rfl rfl rfl rfl ?_; rintro v J Lc - ⟨rfl, hoc⟩
 try simp only [nf]
 obtain ⟨Ac, cc, rfl, _⟩ := hoc.slice
 refine WP.vl rfl (Yld.fieldAddr rfl ty_fd_50_1 rfl) ?_; refine WP.loud rfl rfl ?_; refine Op.s1 rfl rfl ty_sz_45 rfl rfl rfl ?_; refine WP.nil ?_; refine WP.sub [(0, _), (2, _), (3, _), (4, _)] ?_ ⟨rfl, rfl, rfl, rfl, trivial⟩
 refine WP.next (WP.seq (WP.seq ?_))
 refine WP.region [0, 1, 2, 3] rfl ?_; refine WP.vl rfl (Yld.fieldAddr rfl ty_fd_50_1 rfl) ?_; refine WP.vl rfl (Yld.ld (v := .slice Ac z.out.nodes.length cc) rfl ty_sc_45 rfl rfl) ?_; refine WP.vl rfl (Yld.len rfl ty_sl_45 rfl) ?_; refine WP.mv rfl rfl ?_; refine WP.nil ?_; refine WP.sub [(0, _), (2, _), (3, _), (4, _), (16, _), (17, _), (18, _)] ?_ ⟨rfl, rfl, rfl, rfl, rfl, rfl, rfl, trivial⟩
 refine WP.next (WP.block ?_)
 refine WP.loop (X := GtX) (fun u : GtX => [(0, .pointer (some ⟨m, 0, none⟩)), (2, .pointer (some ⟨b2, 0, none⟩)), (3, .int .i64 0), (4, .pointer (some ⟨b4, 0, none⟩)), (16, .slice Ac z.out.nodes.length cc), (17, .int .i64 (z.out.nodes.length : Int)), (18, .int .i64 (u.i : Int))]) (fun u => u.J) (fun u : GtX => u.L ++ ((b4, row 50 [.int .u64 (z.out.tok : Int), .slice Ac z.out.nodes.length cc, .int .i64 z.out.place, .int .i64 z.out.no, .int .i64 z.out.low, .int .i64 z.out.kept, .int .i64 z.out.txn, .int .i64 z.out.lead, .slice Ay z.out.with_.length cy]) :: ((b2, row 50 [.int .u64 0, .slice none 0 0, .int .i64 0, .int .i64 0, .int .i64 0, .int .i64 0, .int .i64 0, .int .i64 0, .slice none 0 0]) :: ((m, row 110 (mcV s nx z vn vw (.slice Au z.out.nodes.length cu) (.slice Ay z.out.with_.length cy))) :: F)))) (fun u : GtX => u.i ≤ z.out.nodes.length ∧ I.le u.J ∧ NodesOk (Imv u.J) u.nv z.out.nodes ∧ Own 70 2 (.slice Ac z.out.nodes.length cc) (u.nv.flatMap ndV) z.out.nodes.length u.L) (fun u => z.out.nodes.length - u.i) ⟨0, I, nvu, Lc⟩ ⟨Nat.zero_le _, Imm.le_refl _, on2, hoc⟩ ⟨rfl, rfl, rfl, rfl, rfl, rfl, rfl, trivial⟩ rfl zA ?_; rintro ⟨i, J, nv2, Lo⟩ ⟨hle, hJ, hno2, ho⟩; dsimp only at hle hJ hno2 ho
 try dsimp only
 try simp only [nf]
 refine WP.seq ?_; refine WP.region [0] rfl ?_; refine WP.split rfl rfl rfl rfl (Yld.lss rfl rfl rfl) (fun hlt => ?_) (fun hlt => ?_)
 ·have hi : i < z.out.nodes.length := by omega
  obtain ⟨bn, cap, sp, hve, rfl, hcap, hcc⟩ := ho.get (by omega)
  cases hve
  have hin : i < nv2.length := by rw [hno2.len]; exact hi
  obtain ⟨d, hd1, hd2⟩ := hno2.at_ i _ (List.getElem?_eq_getElem hin)
  obtain ⟨Ad, cd, hvd, hcd, _⟩ := id hd2
  rw [hvd] at hd2
  have hdl := os.data _ (List.mem_of_getElem? hd1)
  simp only at hdl
  have hnl2 := os.nodes
  try simp only [nf]
  refine WP.nil (WP.next (WP.seq ?_))
  refine WP.condT rfl ?_; refine WP.skip (WP.next (WP.seq (WP.block (WP.seq ?_))))
  refine WP.region [0, 1, 2, 3, 4, 5] rfl ?_; refine WP.mv rfl rfl ?_; refine WP.vl rfl (Yld.indexAddr (i := i) rfl ty_sl_45 rfl rfl hi) ?_; refine WP.vl rfl (Yld.loadAggC (vs := [.bool nv2[i].1, .slice Ad d.length cd]) rfl ty_ag_70 rfl (show There _ _ bn (row 70 (nv2.flatMap ndV ++ sp)) from zM) ((flat_seg ndV_len hin sp).trans (by simp only [ndV, hvd])) rfl) ?_; refine WP.loud rfl rfl ?_; refine Op.alloc rfl rfl rfl ty_zr_70 (fun b5 => ?_)
  refine WP.mv rfl rfl ?_; refine WP.loud rfl rfl ?_; refine Op.sA rfl rfl ty_sz_70 rfl rfl rfl rfl rfl ?_; refine WP.nil ?_; refine WP.sub [(0, _), (2, _), (3, _), (4, _), (5, _), (6, _), (16, _), (17, _), (18, _), (19, _)] ?_ ⟨rfl, rfl, rfl, rfl, rfl, rfl, rfl, rfl, rfl, rfl, trivial⟩
  refine WP.next ?_; refine WD.start Tryzmixed 8 (fun _ _ => False) (fun c o => (c = b4 ∧ o = row 50 [.int .u64 (z.out.tok : Int), .slice (some ⟨bn, 0, none⟩) z.out.nodes.length cc, .int .i64 z.out.place, .int .i64 z.out.no, .int .i64 z.out.low, .int .i64 z.out.kept, .int .i64 z.out.txn, .int .i64 z.out.lead, .slice Ay z.out.with_.length cy]) ∨ (c = b5 ∧ o = row 70 [.bool nv2[i].1, .slice Ad d.length cd])) (fun _ _ h => h.elim) (by rintro _ _ (⟨rfl, rfl⟩ | ⟨rfl, rfl⟩) <;> exact zM) 9 [false, false, false, false, false, false, false, false, false] rfl rfl ?_; refine WD.vl (i := 0) rfl (Yld.fieldAddr rfl ty_fd_50_1 rfl) ?_; refine WD.vl (i := 1) rfl (Yld.load (v := .slice (some ⟨bn, 0, none⟩) z.out.nodes.length cc) rfl ty_sc_45 rfl (.inl ⟨rfl, rfl⟩) rfl) ?_; refine WD.vl (i := 2) rfl (Yld.move rfl rfl) ?_; refine WD.vl (i := 3) rfl (Yld.fieldAddr rfl ty_fd_70_1 rfl) ?_; refine WD.vl (i := 4) rfl (Yld.load (v := .slice Ad d.length cd) rfl ty_sc_47 rfl (.inr ⟨rfl, rfl⟩) rfl) ?_; refine WD.loud (i := 5) zK rfl rfl rfl ?_; refine Op.cl (slices_Clone hd2 (by omega)) rfl Tryz.func46 rfl rfl rfl rfl ?_; rintro v J Ld - ⟨rfl, hod⟩
  try simp only [nf]
  obtain ⟨Ae, ce, rfl, _⟩ := hod.slice
  refine WD.go (.inr (fun _ _ h => h.elim)) (by rintro _ _ (⟨rfl, rfl⟩ | ⟨rfl, rfl⟩) <;> exact zM) ?_; refine WD.vl (i := 6) rfl (Yld.indexAddr (i := i) rfl ty_sl_45 rfl rfl hi) ?_; refine WD.vl (i := 7) rfl (Yld.fieldAddr rfl ty_fd_70_1 rfl) ?_; refine WD.loud (i := 8) zK rfl rfl rfl ?_; refine Op.store1 rfl rfl ty_sz_47 rfl rfl rfl (by repeat (first | exact Upd.head | apply Upd.tail | apply Upd.tailS)) (flat_set ndV_len hin (by decide) sp (nv2[i].1, .slice Ae d.length ce) (by simp only [ndV]; rfl)) ?_; refine WD.go (.inl rfl) (by rintro _ _ (⟨rfl, rfl⟩ | ⟨rfl, rfl⟩) <;> exact zM) ?_; refine WD.done zK ?_; refine WP.sub [(0, _), (2, _), (3, _), (4, _), (5, _), (6, _), (16, _), (17, _), (18, _), (19, _)] ?_ ⟨rfl, rfl, rfl, rfl, rfl, rfl, rfl, rfl, rfl, rfl, trivial⟩
  refine WP.shO hod (fun J2 hJ2 hd9 => ?_)
  refine WP.leave (WP.next ?_)
  refine WP.region [0, 1] rfl ?_; refine WP.vl rfl (Yld.add64 rfl rfl rfl (by omega)) ?_; refine WP.mv rfl rfl ?_; refine WP.nil ?_; refine WP.sub [(0, _), (2, _), (3, _), (4, _), (5, _), (6, _), (16, _), (17, _), (18, _), (19, _)] ?_ ⟨rfl, rfl, rfl, rfl, rfl, rfl, rfl, rfl, rfl, rfl, trivial⟩
  exact WP.again ⟨i + 1, J2, nv2.set i (nv2[i].1, .slice Ae d.length ce), [(bn, row 70 ((nv2.set i (nv2[i].1, .slice Ae d.length ce)).flatMap ndV ++ sp))]⟩ ⟨hi, Imm.le_trans hJ hJ2, (hno2.mono (Imv.le hJ2)).set hin hd1 hd9, Own.blk (by rw [flat_len ndV_len, List.length_set, hno2.len]) (by rw [flat_len ndV_len] at hcap ⊢; rw [List.length_set]; exact hcap) hcc⟩ (show z.out.nodes.length - (i + 1) < z.out.nodes.length - i by omega) ⟨rfl, rfl, rfl, rfl, rfl, rfl, rfl, trivial⟩ rfl zA
 ·refine WP.shO ho (fun J3 hJ3 hn3 => ?_)
  refine WP.nil (WP.next (WP.seq ?_))
  refine WP.condF rfl ?_; refine WP.exit (WP.thenE (WP.thenE (WP.hit (WP.next (WP.seq ?_)))))
  refine WP.region [0, 1, 2, 3, 4] rfl ?_; refine WP.vl rfl (Yld.fieldAddr rfl ty_fd_50_8 rfl) ?_; refine WP.vl rfl (Yld.ld (v := .slice Ay z.out.with_.length cy) rfl ty_sc_48 rfl rfl) ?_; refine WP.loud rfl rfl ?_; refine Op.cl (clone_ints (ow.mono (Imv.le (Imm.le_trans hJ hJ3))) (ints_one _) (by have := os.with_; omega)) rfl Tryz.func47 rfl rfl rfl rfl ?_; rintro v J Li - ⟨rfl, hoi⟩
  try simp only [nf]
  obtain ⟨Ai, ci, rfl, _⟩ := hoi.slice
  refine WP.vl rfl (Yld.fieldAddr rfl ty_fd_50_8 rfl) ?_; refine WP.loud rfl rfl ?_; refine Op.s1 rfl rfl ty_sz_48 rfl rfl rfl ?_; refine WP.nil ?_; refine WP.sub [(0, _), (2, _), (3, _), (4, _), (16, _), (17, _), (18, _), (19, _)] ?_ ⟨rfl, rfl, rfl, rfl, rfl, rfl, rfl, rfl, trivial⟩
  refine WP.shO hoi (fun J4 hJ4 hw4 => ?_)
  have hJJ := Imm.le_trans hJ (Imm.le_trans hJ3 hJ4)
  refine WP.next (WP.seq ?_)
  refine WD.start Tryzmixed 5 (fun _ _ => False) (fun c o => (c = b4 ∧ o = row 50 [.int .u64 (z.out.tok : Int), .slice Ac z.out.nodes.length cc, .int .i64 z.out.place, .int .i64 z.out.no, .int .i64 z.out.low, .int .i64 z.out.kept, .int .i64 z.out.txn, .int .i64 z.out.lead, .slice Ai z.out.with_.length ci]) ∨ (c = m ∧ o = row 110 (mcV s nx z vn vw (.slice Au z.out.nodes.length cu) (.slice Ay z.out.with_.length cy)))) (fun _ _ h => h.elim) (by rintro _ _ (⟨rfl, rfl⟩ | ⟨rfl, rfl⟩) <;> exact zM) 7 [false, false, false, false, false, false, false] rfl rfl ?_; refine WD.vl (i := 0) rfl (Yld.loadAgg (vs := [.int .u64 (z.out.tok : Int), .slice Ac z.out.nodes.length cc, .int .i64 z.out.place, .int .i64 z.out.no, .int .i64 z.out.low, .int .i64 z.out.kept, .int .i64 z.out.txn, .int .i64 z.out.lead, .slice Ai z.out.with_.length ci]) rfl ty_ag_50 rfl (.inl ⟨rfl, rfl⟩) rfl rfl) ?_; refine WD.vl (i := 1) rfl (Yld.move rfl rfl) ?_; refine WD.vl (i := 2) rfl (Yld.nilCheck rfl rfl) ?_; refine WD.vl (i := 3) rfl (Yld.fieldAddr rfl ty_fd_110_5 rfl) ?_; refine WD.vl (i := 4) rfl (Yld.load (v := .int .i64 z.e) rfl ty_sc_40 rfl (.inr ⟨rfl, rfl⟩) rfl) ?_; refine WD.loud (i := 5) zK rfl rfl rfl ?_; refine Op.sA rfl rfl ty_sz_50 rfl rfl rfl rfl rfl ?_; refine WD.go (.inl rfl) (by rintro _ _ (⟨rfl, rfl⟩ | ⟨rfl, rfl⟩) <;> exact zM) ?_; refine WD.vl (i := 6) rfl (Yld.assign rfl rfl) ?_; refine WD.done zK ?_; refine WP.sub [(0, _), (2, _), (3, _), (4, _), (16, _), (17, _), (18, _), (19, _)] ?_ ⟨rfl, rfl, rfl, rfl, rfl, rfl, rfl, rfl, trivial⟩
  refine WP.next (WP.ret ?_)
  refine WP.fn .ret (.inr rfl) (resT (rs := [.cell 2 50, .tmp 3]) (vs := [_, _]) rfl ⟨⟨_, _, _, _, rfl, zM, .inl ⟨ty_ag_50, by rfl, rfl⟩⟩, rfl, trivial⟩ rfl) [(m, row 110 (mcV s nx z vn vw (.slice Au z.out.nodes.length cu) (.slice Ay z.out.with_.length cy)))] hJJ ?_; have hn4 := hn3.mono (fun b o h => hJ4.2 b o h)
  exact ⟨_, rfl, ⟨_, _, nv2, rfl, hn4, hno2.mono (Imv.le (Imm.le_trans hJ3 hJ4)), hw4⟩, .mk (hn.mono hJJ) (hw.mono (Imv.le hJJ)) hs (on.mono hJJ) (ow.mono (Imv.le hJJ)) os⟩


theorem nodeB_le {B : Nat} (hB : B ≤ 1099511627776) : ∀ {N : Nds}, (∀ y ∈ N, y.2.length ≤ B) → (N.flatMap nodeB).length ≤ N.length * (20 + B)
 | [], _ => by simp
 | y :: N, h => by
  have ih := nodeB_le hB (N := N) fun q hq => h q (List.mem_cons_of_mem _ hq)
  have h1 := h y List.mem_cons_self
  have h2 := numB_10 (n := if y.1 then 1 else 0) (by split <;> omega)
  have h3 := numB_10 (n := y.2.length) (by omega)
  rw [List.flatMap_cons, List.length_append, List.length_cons, Nat.succ_mul]
  have h4 : (nodeB y).length = (numB (if y.1 then 1 else 0)).length + ((numB y.2.length).length + y.2.length) := by unfold nodeB; rw [List.length_append, List.length_append]
  omega
theorem Fl.rc_sub (z : Fl) : ∃ k, z.rc.nodes = z.c.ent.nodes.take k := by
 unfold Fl.rc
 split
 ·exact ⟨_, rfl⟩
 ·exact ⟨z.c.ent.nodes.length, (List.take_length).symm⟩
theorem Fl.rc_sz {B : Bd} (hB : B.b ≤ 1099511627776) {x : Lg} {p : Int} {N : Nds} {z : Fl} (h : EOk B x p N z.c.ent) : z.rc.nodes.length ≤ 64 ∧ 30 + (z.rc.nodes.flatMap nodeB).length ≤ 140737488355328 := by
 obtain ⟨k, e⟩ := z.rc_sub
 have h1 : z.rc.nodes.length ≤ 64 := by rw [e, List.length_take]; have := h.len; omega
 have h2 := nodeB_le hB (N := z.rc.nodes) (fun y hy => h.szn y (List.mem_of_mem_take (e ▸ hy)))
 have h3 : z.rc.nodes.length * (20 + B.b) ≤ 64 * (20 + B.b) := Nat.mul_le_mul_right _ h1
 exact ⟨h1, by omega⟩

def FlQ (l sg d n f m s t : Nat) (x : Lg) (y : Dk) (tb : Tb) (z : Fl) (v : Value) (J : Imm) (L : Chunks) : Prop := ∃ c z2 tb2 x2 Lf2 Lt2 Ll2, v = .bool c ∧ FlS tb x z c z2 tb2 x2 ∧ L = Lf2 ++ (Lt2 ++ Ll2) ∧ IsFl J f m s z2 Lf2 ∧ IsT J t tb2 Lt2 ∧ IsLog J l sg d n x2 y Ll2
theorem fl_Step1 {I : Imm} {f m s : Nat} {z : Fl} {Lf : Chunks} (hf : IsFl I f m s z Lf) {l t : Nat} {tb : Tb} {Lt : Chunks} (hst : I.blk s = some (row 88 [.pointer (some ⟨t, 0, none⟩), .pointer (some ⟨l, 0, none⟩)])) (hT : IsT I t tb Lt) {sg d n : Nat} {x : Lg} {y : Dk} {Ll : Chunks} (hlg : IsLog I l sg d n x y Ll) (hk0 : z.at_ = 1) {e : Ent} (hg : tb.ent z.c.page = some e) (hx : e.txn = 0) : Spec Tryz.prog 17 [.pointer (some ⟨m, 0, none⟩)] I (Lf ++ (Lt ++ Ll)) (FlQ l sg d n f m s t x y tb z) := by
 have sp : Spec Tryz.prog 40 [.pointer (some ⟨f, 0, none⟩)] I (Lf ++ (Lt ++ Ll)) (FlQ l sg d n f m s t x y tb z) := Spec.withL (fl_loads hf hst hT hg hx) (by
  rintro v J L1 hJ ⟨rfl, Lf2, Lt2, rfl, h1, h2⟩
  exact ⟨_, _, rfl, _, _, _, _, _, _, _, rfl, .loads hk0 hg, rfl, h1, h2, hlg.mono hJ⟩)
 cases hf with
 | mk hr hm => cases hm with
  | mk hn hw hs on ow os => exact cac_StepF (by rw [hk0]; rfl) Tryz.func40 rfl sp (by rintro v J L ⟨c, _, _, _, _, _, _, rfl, _⟩; exact ⟨c, rfl⟩)
theorem fl_Step2 {I : Imm} {f m s : Nat} {z : Fl} {Lf : Chunks} (hf : IsFl I f m s z Lf) {l t : Nat} {tb : Tb} {Lt : Chunks} (hst : I.blk s = some (row 88 [.pointer (some ⟨t, 0, none⟩), .pointer (some ⟨l, 0, none⟩)])) (hT : IsT I t tb Lt) {sg d n : Nat} {x : Lg} {y : Dk} {Ll : Chunks} (hlg : IsLog I l sg d n x y Ll) (hk0 : z.at_ = 2) : Spec Tryz.prog 17 [.pointer (some ⟨m, 0, none⟩)] I (Lf ++ (Lt ++ Ll)) (FlQ l sg d n f m s t x y tb z) := by
 have sp : Spec Tryz.prog 61 [.pointer (some ⟨f, 0, none⟩)] I (Lf ++ (Lt ++ Ll)) (FlQ l sg d n f m s t x y tb z) := Spec.withT (fl_takes hf hst hlg) (by
  rintro v J L1 hJ ⟨rfl, rfl, Lf2, Ll2, rfl, h1, h2⟩
  exact ⟨_, _, rfl, _, _, _, _, _, _, _, rfl, .takes hk0, rfl, h1, hT.mono hJ, h2⟩)
 cases hf with
 | mk hr hm => cases hm with
  | mk hn hw hs on ow os => exact cac_StepF (by rw [hk0]; rfl) Tryz.func61 rfl sp (by rintro v J L ⟨c, _, _, _, _, _, _, rfl, _⟩; exact ⟨c, rfl⟩)
theorem fl_Step3b {I : Imm} {f m s : Nat} {z : Fl} {Lf : Chunks} (hf : IsFl I f m s z Lf) {l t : Nat} {tb : Tb} {Lt : Chunks} (hst : I.blk s = some (row 88 [.pointer (some ⟨t, 0, none⟩), .pointer (some ⟨l, 0, none⟩)])) (hT : IsT I t tb Lt) {sg d n : Nat} {x : Lg} {y : Dk} {Ll : Chunks} (hlg : IsLog I l sg d n x y Ll) (hk0 : z.at_ = 3) (hk : 0 ≤ z.c.ent.kept ∧ z.c.ent.kept ≤ z.c.ent.nodes.length) (hln : z.rc.nodes.length ≤ 140737488351232) (hsz : 30 + (z.rc.nodes.flatMap nodeB).length ≤ 140737488355328) (hb : ¬ z.okR) : Spec Tryz.prog 17 [.pointer (some ⟨m, 0, none⟩)] I (Lf ++ (Lt ++ Ll)) (FlQ l sg d n f m s t x y tb z) := by
 have sp : Spec Tryz.prog 73 [.pointer (some ⟨f, 0, none⟩)] I (Lf ++ (Lt ++ Ll)) (FlQ l sg d n f m s t x y tb z) := Spec.reorder (G := Lt ++ Ll) (fl_appends_bad hf hst hk hln hsz hb) (List.Perm.refl _) (by
  rintro v J L1 hJ ⟨e, he, rfl, h1⟩
  exact ⟨L1 ++ (Lt ++ Ll), List.Perm.refl _, _, _, _, _, _, _, _, rfl, .bad hk0 hb he, rfl, h1, hT.mono hJ, hlg.mono hJ⟩)
 cases hf with
 | mk hr hm => cases hm with
  | mk hn hw hs on ow os => exact cac_StepF (by rw [hk0]; rfl) Tryz.func73 rfl sp (by rintro v J L ⟨c, _, _, _, _, _, _, rfl, _⟩; exact ⟨c, rfl⟩)
theorem fl_Step3 {I : Imm} {f m s : Nat} {z : Fl} {Lf : Chunks} (hf : IsFl I f m s z Lf) {l t : Nat} {tb : Tb} {Lt : Chunks} (hst : I.blk s = some (row 88 [.pointer (some ⟨t, 0, none⟩), .pointer (some ⟨l, 0, none⟩)])) (hT : IsT I t tb Lt) {sg d n : Nat} {x : Lg} {y : Dk} {Ll : Chunks} (hlg : IsLog I l sg d n x y Ll) (hk0 : z.at_ = 3) (hk : 0 ≤ z.c.ent.kept ∧ z.c.ent.kept ≤ z.c.ent.nodes.length) (hln : z.rc.nodes.length ≤ 140737488351232) (hsz : 30 + (z.rc.nodes.flatMap nodeB).length ≤ 140737488355328) (hb : z.okR) : Spec Tryz.prog 17 [.pointer (some ⟨m, 0, none⟩)] I (Lf ++ (Lt ++ Ll)) (FlQ l sg d n f m s t x y tb z) := by
 have sp : Spec Tryz.prog 73 [.pointer (some ⟨f, 0, none⟩)] I (Lf ++ (Lt ++ Ll)) (FlQ l sg d n f m s t x y tb z) := Spec.withT (fl_appends_ok hf hst hlg hk hln hsz hb) (by
  rintro v J L1 hJ ⟨e, x2, Lf2, Ll2, he, hap, rfl, rfl, h1, h2⟩
  exact ⟨_, _, rfl, _, _, _, _, _, _, _, rfl, .app hk0 hb he hap, rfl, h1, hT.mono hJ, h2⟩)
 cases hf with
 | mk hr hm => cases hm with
  | mk hn hw hs on ow os => exact cac_StepF (by rw [hk0]; rfl) Tryz.func73 rfl sp (by rintro v J L ⟨c, _, _, _, _, _, _, rfl, _⟩; exact ⟨c, rfl⟩)
theorem fl_Step4 {I : Imm} {f m s : Nat} {z : Fl} {Lf : Chunks} (hf : IsFl I f m s z Lf) {l t : Nat} {tb : Tb} {Lt : Chunks} (hst : I.blk s = some (row 88 [.pointer (some ⟨t, 0, none⟩), .pointer (some ⟨l, 0, none⟩)])) (hT : IsT I t tb Lt) {sg d n : Nat} {x : Lg} {y : Dk} {Ll : Chunks} (hlg : IsLog I l sg d n x y Ll) (hk0 : z.at_ = 4) (htk : tb.tok + 1 < 18446744073709551616) : Spec Tryz.prog 17 [.pointer (some ⟨m, 0, none⟩)] I (Lf ++ (Lt ++ Ll)) (FlQ l sg d n f m s t x y tb z) := by
 have sp : Spec Tryz.prog 80 [.pointer (some ⟨f, 0, none⟩)] I (Lf ++ (Lt ++ Ll)) (FlQ l sg d n f m s t x y tb z) := Spec.withL (fl_swaps hf hst hT htk) (by
  rintro v J L1 hJ ⟨r, tb2, Lf2, Lt2, hs, rfl, rfl, h1, h2⟩
  exact ⟨_, _, rfl, _, _, _, _, _, _, _, rfl, .swaps hk0 hs, rfl, h1, h2, hlg.mono hJ⟩)
 cases hf with
 | mk hr hm => cases hm with
  | mk hn hw hs on ow os => exact cac_StepF (by rw [hk0]; rfl) Tryz.func80 rfl sp (by rintro v J L ⟨c, _, _, _, _, _, _, rfl, _⟩; exact ⟨c, rfl⟩)

theorem fl_Step9 {I : Imm} {f m s : Nat} {z : Fl} {Lf : Chunks} (hf : IsFl I f m s z Lf) {l t : Nat} {tb : Tb} {Lt : Chunks} (hst : I.blk s = some (row 88 [.pointer (some ⟨t, 0, none⟩), .pointer (some ⟨l, 0, none⟩)])) (hT : IsT I t tb Lt) {sg d n : Nat} {x : Lg} {y : Dk} {Ll : Chunks} (hlg : IsLog I l sg d n x y Ll) (hk0 : z.at_ = 9) : Spec Tryz.prog 17 [.pointer (some ⟨m, 0, none⟩)] I (Lf ++ (Lt ++ Ll)) (FlQ l sg d n f m s t x y tb z) := by
 cases hf with
 | @mk vr Lm hr hm =>
  have e : flN f z.at_ = .nilFunc := by rw [hk0]; rfl
  have hm2 := hm
  rw [e] at hm2
  refine Spec.reorder (G := [(f, row 106 (flV m z vr))] ++ (Lt ++ Ll)) (cac_StepN hm2) (by simp only [List.append_assoc]; exact List.Perm.refl _) ?_; rintro v J L1 hJ ⟨rfl, rfl, h1⟩
  rw [← e] at h1
  exact ⟨_, List.Perm.refl _, true, z, tb, x, L1 ++ [(f, row 106 (flV m z vr))], Lt, Ll, rfl, .done hk0, by simp only [List.append_assoc], .mk hr h1, hT, hlg⟩
theorem fl_Step {I : Imm} {f m s : Nat} {z : Fl} {Lf : Chunks} (hf : IsFl I f m s z Lf) {l t : Nat} {tb : Tb} {Lt : Chunks} (hst : I.blk s = some (row 88 [.pointer (some ⟨t, 0, none⟩), .pointer (some ⟨l, 0, none⟩)])) (hT : IsT I t tb Lt) {sg d n : Nat} {x : Lg} {y : Dk} {Ll : Chunks} (hlg : IsLog I l sg d n x y Ll) {m' : Nat} {B : Bd} {W : Int → Nds} (w : CW m' B W tb x) (hW : W z.c.page ≠ []) (hi : FlI B tb x z) (hB : B.b ≤ 1099511627776) (htk : tb.tok + 1 < 18446744073709551616) : Spec Tryz.prog 17 [.pointer (some ⟨m, 0, none⟩)] I (Lf ++ (Lt ++ Ll)) (FlQ l sg d n f m s t x y tb z) := by
 rcases hi.at_ with h | h | h | h | h
 ·obtain ⟨e, h1, _, h3⟩ := w.en _ hW
  exact fl_Step1 hf hst hT hlg h h1 h3.txn
 ·exact fl_Step2 hf hst hT hlg h
 ·obtain ⟨N, hh, _⟩ := hi.held (.inr (.inl h))
  have hz := Fl.rc_sz hB hh.ok
  by_cases hb : z.okR
  ·exact fl_Step3 hf hst hT hlg h hh.ok.kept (by omega) hz.2 hb
  ·exact fl_Step3b hf hst hT hlg h hh.ok.kept (by omega) hz.2 hb
 ·exact fl_Step4 hf hst hT hlg h htk
 ·exact fl_Step9 hf hst hT hlg h
def FaQ (l sg d n f m s t : Nat) (x : Lg) (y : Dk) (tb : Tb) (z : Fa) (v : Value) (J : Imm) (L : Chunks) : Prop := ∃ c z2 tb2 Lf2 Lt2 Ll2, v = .bool c ∧ FaS tb x z c z2 tb2 ∧ L = Lf2 ++ (Lt2 ++ Ll2) ∧ IsFa J f m s l z2 Lf2 ∧ IsT J t tb2 Lt2 ∧ IsLog J l sg d n x y Ll2
theorem fa_Step1 {I : Imm} {f m s l : Nat} {z : Fa} {Lf : Chunks} (hf : IsFa I f m s l z Lf) {t : Nat} {tb : Tb} {Lt : Chunks} (hst : I.blk s = some (row 88 [.pointer (some ⟨t, 0, none⟩), .pointer (some ⟨l, 0, none⟩)])) (hT : IsT I t tb Lt) {sg d n : Nat} {x : Lg} {y : Dk} {Ll : Chunks} (hlg : IsLog I l sg d n x y Ll) (hk0 : z.at_ = 1) {e : Ent} (hg : tb.ent z.c.page = some e) (hpl : 0 ≤ e.place) : Spec Tryz.prog 17 [.pointer (some ⟨m, 0, none⟩)] I (Lf ++ (Lt ++ Ll)) (FaQ l sg d n f m s t x y tb z) := by
 have sp : Spec Tryz.prog 41 [.pointer (some ⟨f, 0, none⟩)] I (Lf ++ (Lt ++ Ll)) (FaQ l sg d n f m s t x y tb z) := Spec.withL (fa_loads hf hst hT hg hpl hk0) (by
  rintro v J L1 hJ ⟨rfl, Lf2, Lt2, rfl, h1, h2⟩
  exact ⟨_, _, rfl, _, _, _, _, _, _, rfl, .loads hk0 hg, rfl, h1, h2, hlg.mono hJ⟩)
 cases hf with
 | mk hm hx => cases hm with
  | mk hn hw hs on ow os => exact cac_StepF (by rw [hk0]; rfl) Tryz.func41 rfl sp (by rintro v J L ⟨c, _, _, _, _, _, rfl, _⟩; exact ⟨c, rfl⟩)
theorem fa_Step2 {I : Imm} {f m s l : Nat} {z : Fa} {Lf : Chunks} (hf : IsFa I f m s l z Lf) {t : Nat} {tb : Tb} {Lt : Chunks} (hst : I.blk s = some (row 88 [.pointer (some ⟨t, 0, none⟩), .pointer (some ⟨l, 0, none⟩)])) (hT : IsT I t tb Lt) {sg d n : Nat} {x : Lg} {y : Dk} {Ll : Chunks} (hlg : IsLog I l sg d n x y Ll) (hk0 : z.at_ = 2) {r_ : Pr} (hlk : ∀ k, x.lo ≤ x.base + k) (hr : RecAt x z.c.page z.place r_) (h64 : z.nodes.length + r_.nodes.length ≤ 64) : Spec Tryz.prog 17 [.pointer (some ⟨m, 0, none⟩)] I (Lf ++ (Lt ++ Ll)) (FaQ l sg d n f m s t x y tb z) := by
 have sp : Spec Tryz.prog 82 [.pointer (some ⟨f, 0, none⟩)] I (Lf ++ (Lt ++ Ll)) (FaQ l sg d n f m s t x y tb z) := Spec.withT (fa_reads hf hst hlg hlk hr hk0 h64) (by
  rintro v J L1 hJ ⟨rfl, Lf2, Ll2, rfl, h1, h2⟩
  exact ⟨_, _, rfl, _, _, _, _, _, _, rfl, .reads hk0 hr, rfl, h1, hT.mono hJ, h2⟩)
 cases hf with
 | mk hm hx => cases hm with
  | mk hn hw hs on ow os => exact cac_StepF (by rw [hk0]; rfl) Tryz.func82 rfl sp (by rintro v J L ⟨c, _, _, _, _, _, rfl, _⟩; exact ⟨c, rfl⟩)
theorem fa_Step3 {I : Imm} {f m s l : Nat} {z : Fa} {Lf : Chunks} (hf : IsFa I f m s l z Lf) {t : Nat} {tb : Tb} {Lt : Chunks} (hst : I.blk s = some (row 88 [.pointer (some ⟨t, 0, none⟩), .pointer (some ⟨l, 0, none⟩)])) (hT : IsT I t tb Lt) {sg d n : Nat} {x : Lg} {y : Dk} {Ll : Chunks} (hlg : IsLog I l sg d n x y Ll) (hk0 : z.at_ = 3) (htk : tb.tok + 1 < 18446744073709551616) (h64 : z.nodes.length ≤ 64) (hsz : ∀ y ∈ z.nodes, y.2.length ≤ 140737488351232) : Spec Tryz.prog 17 [.pointer (some ⟨m, 0, none⟩)] I (Lf ++ (Lt ++ Ll)) (FaQ l sg d n f m s t x y tb z) := by
 have sp : Spec Tryz.prog 95 [.pointer (some ⟨f, 0, none⟩)] I (Lf ++ (Lt ++ Ll)) (FaQ l sg d n f m s t x y tb z) := Spec.withL (fa_swaps hf hst hT htk hk0 h64 hsz) (by
  rintro v J L1 hJ ⟨r, tb2, Lf2, Lt2, hs, rfl, rfl, h1, h2⟩
  exact ⟨_, _, rfl, _, _, _, _, _, _, rfl, .swaps hk0 hs, rfl, h1, h2, hlg.mono hJ⟩)
 cases hf with
 | mk hm hx => cases hm with
  | mk hn hw hs on ow os => exact cac_StepF (by rw [hk0]; rfl) Tryz.func95 rfl sp (by rintro v J L ⟨c, _, _, _, _, _, rfl, _⟩; exact ⟨c, rfl⟩)

theorem fa_Step9 {I : Imm} {f m s l : Nat} {z : Fa} {Lf : Chunks} (hf : IsFa I f m s l z Lf) {t : Nat} {tb : Tb} {Lt : Chunks} (hst : I.blk s = some (row 88 [.pointer (some ⟨t, 0, none⟩), .pointer (some ⟨l, 0, none⟩)])) (hT : IsT I t tb Lt) {sg d n : Nat} {x : Lg} {y : Dk} {Ll : Chunks} (hlg : IsLog I l sg d n x y Ll) (hk0 : z.at_ = 9) : Spec Tryz.prog 17 [.pointer (some ⟨m, 0, none⟩)] I (Lf ++ (Lt ++ Ll)) (FaQ l sg d n f m s t x y tb z) := by
 cases hf with
 | @mk vr vp vN vy Lm Lo hm hx =>
  have e : faN f z.at_ = .nilFunc := by rw [hk0]; rfl
  have hm2 := hm
  rw [e] at hm2
  refine Spec.reorder (G := ((f, row 114 [.pointer (some ⟨m, 0, none⟩), vr, vp, vN, vy]) :: Lo) ++ (Lt ++ Ll)) (cac_StepN hm2) (by simp only [List.append_assoc]; exact List.Perm.refl _) ?_; rintro v J L1 hJ ⟨rfl, rfl, h1⟩
  rw [← e] at h1
  exact ⟨_, List.Perm.refl _, true, z, tb, L1 ++ ((f, row 114 [.pointer (some ⟨m, 0, none⟩), vr, vp, vN, vy]) :: Lo), Lt, Ll, rfl, .done hk0, by simp only [List.append_assoc], .mk h1 hx, hT, hlg⟩
theorem fa_Step {I : Imm} {f m s l : Nat} {z : Fa} {Lf : Chunks} (hf : IsFa I f m s l z Lf) {t : Nat} {tb : Tb} {Lt : Chunks} (hst : I.blk s = some (row 88 [.pointer (some ⟨t, 0, none⟩), .pointer (some ⟨l, 0, none⟩)])) (hT : IsT I t tb Lt) {sg d n : Nat} {x : Lg} {y : Dk} {Ll : Chunks} (hlg : IsLog I l sg d n x y Ll) {m' : Nat} {B : Bd} {W : Int → Nds} (w : CW m' B W tb x) (hW : W z.c.page ≠ []) (hi : FaI B tb x z) (hB : B.b ≤ 1099511627776) (htk : tb.tok + 1 < 18446744073709551616) : Spec Tryz.prog 17 [.pointer (some ⟨m, 0, none⟩)] I (Lf ++ (Lt ++ Ll)) (FaQ l sg d n f m s t x y tb z) := by
 rcases hi.at_ with h | h | h | h
 ·obtain ⟨e, h1, _, h3⟩ := w.en _ hW
  exact fa_Step1 hf hst hT hlg h h1 h3.place.1
 ·obtain ⟨r, h1, h2⟩ := hi.room h
  exact fa_Step2 hf hst hT hlg h (fun k => by rw [w.lg.lo]; exact Nat.zero_le _) h1 h2
 ·obtain ⟨hh, _⟩ := hi.swaps h
  exact fa_Step3 hf hst hT hlg h htk hh.ok.nf.most (fun y hy => by have := hh.ok.sz.2 y hy; omega)
 ·exact fa_Step9 hf hst hT hlg h

def ecN (b : Nat) : Nat → Value
 | 1 => .func (.func 42) [.pointer (some ⟨b, 0, none⟩)].toArray [].toArray
 | 2 => .func (.func 63) [.pointer (some ⟨b, 0, none⟩)].toArray [].toArray
 | 3 => .func (.func 64) [.pointer (some ⟨b, 0, none⟩)].toArray [].toArray
 | _ => .nilFunc
inductive IsEc (J : Imm) (v m s : Nat) (z : Ec) : Chunks → Prop
 | idle {vf : Value} {Lm : Chunks} (h : z.at_ ≠ 2) (hm : IsMc J m s (ecN v z.at_) z.c Lm) : IsEc J v m s z (Lm ++ [(v, row 117 [.pointer (some ⟨m, 0, none⟩), vf])])
 | busy {f1 m1 : Nat} {Lm Lf : Chunks} (h : z.at_ = 2) (hm : IsMc J m s (ecN v z.at_) z.c Lm) (hf : IsFl J f1 m1 s z.f Lf) : IsEc J v m s z (Lm ++ ((v, row 117 [.pointer (some ⟨m, 0, none⟩), .pointer (some ⟨m1, 0, none⟩)]) :: Lf))
theorem IsEc.mono {I J : Imm} {v m s : Nat} {z : Ec} {L : Chunks} (h : IsEc I v m s z L) (hJ : I.le J) : IsEc J v m s z L := by
 cases h with
 | idle h hm => exact .idle h (hm.mono hJ)
 | busy h hm hf => exact .busy h (hm.mono hJ) (hf.mono hJ)
theorem IsFl.open {J : Imm} {f m s : Nat} {z : Fl} {L : Chunks} (h : IsFl J f m s z L) : ∃ vr Lm, L = Lm ++ [(f, row 106 (flV m z vr))] ∧ RNodes J vr z.r.nodes ∧ IsMc J m s (flN f z.at_) z.c Lm := by cases h with | mk hr hm => exact ⟨_, _, rfl, hr, hm⟩
theorem IsMc.outs {J : Imm} {m s : Nat} {nx : Value} {z : Mc} {L : Chunks} (h : IsMc J m s nx z L) : z.out.sized := by cases h with | mk _ _ _ _ _ os => exact os
theorem app3 {A B C : Chunks} {x : Nat × Obj} : A ++ (x :: (B ++ C)) = (A ++ (x :: B)) ++ C := by simp
theorem ec_loads {I : Imm} {a m s : Nat} {z : Ec} {Le : Chunks} (he : IsEc I a m s z Le) {l t : Nat} {tb : Tb} {Lt : Chunks} (hst : I.blk s = some (row 88 [.pointer (some ⟨t, 0, none⟩), .pointer (some ⟨l, 0, none⟩)])) (hT : IsT I t tb Lt) {e : Ent} (hg : tb.ent z.c.page = some e) (hx : e.txn = 0) (h1 : z.at_ = 1) : Spec Tryz.prog 42 [.pointer (some ⟨a, 0, none⟩)] I (Le ++ Lt) (fun v J L => v = .bool (z.loads e).1 ∧ ∃ Le2 Lt2, L = Le2 ++ Lt2 ∧ IsEc J a m s (z.loads e).2 Le2 ∧ IsT J t tb Lt2) := by
 cases he with
 | busy h _ _ => omega
 | @idle vf Lm hne hm =>
 cases hm with
 | @mk vn vw un uw hn hw hs on ow os =>
 obtain ⟨nvn, hn1, hn2⟩ := id hn.ex
 obtain ⟨An, cn, rfl, _⟩ := hn1.slice'
 obtain ⟨Aw, cw, rfl, _⟩ := hw.slice'
 refine Spec.of Tryz.func42 rfl Tryz.ntmps42 (Nat.le_of_ble_eq_true rfl) (fun F => ?_)
 try simp only [nf]
 dsimp only [argsEnv]
 refine WP.seq ?_; refine WP.region [0] rfl ?_; refine WP.mv rfl rfl ?_; refine WP.nil (WP.next ?_)
 refine WP.cut (X := LdX) (fun u : LdX => [(0, .pointer (some ⟨a, 0, none⟩)), (3, .pointer (some ⟨u.b, 0, none⟩)), (4, .int .i64 0)]) (fun u => u.J) (fun u : LdX => (u.b, row 50 [.int .u64 (e.tok : Int), .slice u.A e.nodes.length u.c, .int .i64 e.place, .int .i64 e.no, .int .i64 e.low, .int .i64 e.kept, .int .i64 e.txn, .int .i64 e.lead, .slice u.B e.with_.length u.d]) :: ((a, row 117 [.pointer (some ⟨m, 0, none⟩), vf]) :: ((m, row 110 (mcV s (ecN a z.at_) (z.c) (.slice An z.c.ent.nodes.length cn) (.slice Aw z.c.ent.with_.length cw) (un) (uw))) :: (u.L ++ F)))) (fun u : LdX => I.le u.J ∧ RNodes u.J (.slice u.A e.nodes.length u.c) e.nodes ∧ SlRd (Imv u.J) (.slice u.B e.with_.length u.d) e.with_.length 1 (e.with_.map (Value.int .i64)) ∧ e.sized ∧ IsT u.J t tb u.L) ?_ ?_
 ·skip
  refine WD.start Tryzmixed 17 (fun c o => (c = a ∧ o = row 117 [.pointer (some ⟨m, 0, none⟩), vf]) ∨ (c = m ∧ o = row 110 (mcV s (ecN a z.at_) (z.c) (.slice An z.c.ent.nodes.length cn) (.slice Aw z.c.ent.with_.length cw) (un) (uw))) ∨ I.blk c = some o) (fun _ _ => False) (by rintro _ _ (⟨rfl, rfl⟩ | ⟨rfl, rfl⟩ | h); exact zM; exact zM; exact There.i h) (fun _ _ h => h.elim) 24 [false, false, false, false, false, false, false, false, false, false, false, false, false, false, false, false, false, false, false, false, false, false, false, false] rfl rfl ?_; refine WD.vl (i := 0) rfl (Yld.move rfl rfl) ?_; refine WD.vl (i := 1) rfl (Yld.nilCheck rfl rfl) ?_; refine WD.vl (i := 2) rfl (Yld.fieldAddr rfl ty_fd_117_0 rfl) ?_; refine WD.val1 (i := 3) rfl rfl rfl rfl zK rfl zK (Yld.load (v := .pointer (some ⟨m, 0, none⟩)) rfl ty_sc_55 rfl (.inl (.inl ⟨rfl, rfl⟩)) rfl) ?_; refine WD.vl (i := 4) rfl (Yld.nilCheck rfl rfl) ?_; refine WD.vl (i := 5) rfl (Yld.fieldAddr rfl ty_fd_110_0 rfl) ?_; refine WD.val1 (i := 6) rfl rfl rfl rfl zK rfl zK (Yld.load (v := .pointer (some ⟨s, 0, none⟩)) rfl ty_sc_26 rfl (.inl (.inr (.inl ⟨rfl, rfl⟩))) rfl) ?_; refine WD.vl (i := 7) rfl (Yld.nilCheck rfl rfl) ?_; refine WD.vl (i := 8) rfl (Yld.fieldAddr rfl ty_fd_88_0 rfl) ?_; refine WD.val1 (i := 9) rfl rfl rfl rfl zK rfl zK (Yld.load (v := .pointer (some ⟨t, 0, none⟩)) rfl ty_sc_31 rfl (.inl (.inr (.inr hst))) rfl) ?_; refine WD.vl (i := 10) rfl (Yld.move rfl rfl) ?_; refine WD.vl (i := 11) rfl (Yld.nilCheck rfl rfl) ?_
  refine WD.vl (i := 12) rfl (Yld.fieldAddr rfl ty_fd_117_0 rfl) ?_; refine WD.val1 (i := 13) rfl rfl rfl rfl zK rfl zK (Yld.load (v := .pointer (some ⟨m, 0, none⟩)) rfl ty_sc_55 rfl (.inl (.inl ⟨rfl, rfl⟩)) rfl) ?_; refine WD.vl (i := 14) rfl (Yld.nilCheck rfl rfl) ?_; refine WD.vl (i := 15) rfl (Yld.fieldAddr rfl ty_fd_110_2 rfl) ?_; refine WD.val1 (i := 16) rfl rfl rfl rfl zK rfl zK (Yld.load (v := .int .i64 z.c.page) rfl ty_sc_3 rfl (.inl (.inr (.inl ⟨rfl, rfl⟩))) rfl) ?_; refine WD.both (i := 17) (j := 21) zK rfl rfl ?_ ?_
  ·refine WP.oper rfl rfl ?_
   refine Op.cl (tabT_LoadE hT hg) rfl Tryz.func20 rfl rfl rfl rfl ?_; rintro v J2 Lt2 hJ2 ⟨cs, rfl, hre, hT2⟩
   try simp only [nf]
   obtain ⟨vn2, vw2, nv2, rfl, q1, q2, q3⟩ := id hre.ex
   obtain ⟨An2, cn2, rfl, _⟩ := q1.slice'
   obtain ⟨Aw2, cw2, rfl, _⟩ := q3.slice'
   have hes : e.sized := by obtain ⟨_, hg2⟩ := Tb.ent_get hg; exact (hT.ent hg2).1
   have hqn : RNodes J2 (.slice An2 e.nodes.length cn2) e.nodes := ⟨nv2, q1, q2⟩
   refine WD.go (.inl rfl) (fun _ _ h => h.elim) ?_; refine WD.vl (i := 18) rfl (Yld.move rfl rfl) ?_; refine WD.vl (i := 19) rfl (Yld.extract rfl rfl rfl) ?_; refine WD.vl (i := 20) rfl (Yld.extract rfl rfl rfl) ?_; refine WD.loud (i := 21) zK rfl rfl rfl ?_; refine Op.alloc rfl rfl rfl ty_zr_50 (fun b3 => ?_)
   refine WD.go (.inl rfl) (fun _ _ h => h.elim) ?_; refine WD.loud (i := 22) zK rfl rfl rfl ?_; refine Op.sA rfl rfl ty_sz_50 rfl rfl rfl rfl rfl ?_; refine WD.go (.inl rfl) (fun _ _ h => h.elim) ?_; refine WD.vl (i := 23) rfl (Yld.assign rfl rfl) ?_; refine WD.done zK ?_; refine WP.sub [(0, _), (2, _), (3, _), (4, _)] ?_ ⟨rfl, rfl, rfl, rfl, trivial⟩
   exact WP.meet (⟨b3, J2, An2, cn2, Aw2, cw2, Lt2⟩ : LdX) ⟨hJ2, hqn, q3, hes, hT2⟩ ⟨rfl, rfl, rfl, trivial⟩ rfl zA
  ·refine WP.oper rfl rfl ?_
   refine Op.alloc rfl rfl rfl ty_zr_50 (fun b3 => ?_)
   refine WD.go (.inr (by rintro _ _ (⟨rfl, rfl⟩ | ⟨rfl, rfl⟩ | h); exact zM; exact zM; exact There.i h)) (fun _ _ h => h.elim) ?_; refine WD.loud (i := 17) zK rfl rfl rfl ?_; refine Op.cl (tabT_LoadE hT hg) rfl Tryz.func20 rfl rfl rfl rfl ?_; rintro v J2 Lt2 hJ2 ⟨cs, rfl, hre, hT2⟩
   try simp only [nf]
   obtain ⟨vn2, vw2, nv2, rfl, q1, q2, q3⟩ := id hre.ex
   obtain ⟨An2, cn2, rfl, _⟩ := q1.slice'
   obtain ⟨Aw2, cw2, rfl, _⟩ := q3.slice'
   have hes : e.sized := by obtain ⟨_, hg2⟩ := Tb.ent_get hg; exact (hT.ent hg2).1
   have hqn : RNodes J2 (.slice An2 e.nodes.length cn2) e.nodes := ⟨nv2, q1, q2⟩
   refine WD.go (.inl rfl) (fun _ _ h => h.elim) ?_; refine WD.vl (i := 18) rfl (Yld.move rfl rfl) ?_; refine WD.vl (i := 19) rfl (Yld.extract rfl rfl rfl) ?_; refine WD.vl (i := 20) rfl (Yld.extract rfl rfl rfl) ?_; refine WD.loud (i := 22) zK rfl rfl rfl ?_; refine Op.sA rfl rfl ty_sz_50 rfl rfl rfl rfl rfl ?_; refine WD.go (.inl rfl) (fun _ _ h => h.elim) ?_; refine WD.vl (i := 23) rfl (Yld.assign rfl rfl) ?_; refine WD.done zK ?_; refine WP.sub [(0, _), (2, _), (3, _), (4, _)] ?_ ⟨rfl, rfl, rfl, rfl, trivial⟩
   exact WP.meet (⟨b3, J2, An2, cn2, Aw2, cw2, Lt2⟩ : LdX) ⟨hJ2, hqn, q3, hes, hT2⟩ ⟨rfl, rfl, rfl, trivial⟩ rfl zA
 ·rintro ⟨b3, J2, An2, cn2, Aw2, cw2, Lt2⟩ ⟨hJ2, hqn, q3, hes, hT2⟩; dsimp only at hJ2 hqn q3 hes hT2 ⊢
  refine WP.seq ?_; refine WQ.start Tryzmixed 7 zK _ rfl [7] rfl ?_; refine WQ.val rfl rfl rfl (Yld.move rfl rfl) ?_; refine WQ.val rfl rfl rfl (Yld.nilCheck rfl rfl) ?_; refine WQ.val rfl rfl rfl (Yld.fieldAddr rfl ty_fd_117_0 rfl) ?_; refine WQ.val rfl rfl rfl (Yld.ld rfl ty_sc_55 rfl rfl) ?_; refine WQ.val rfl rfl rfl (Yld.ldg (vs := [.int .u64 (e.tok : Int), .slice An2 e.nodes.length cn2, .int .i64 e.place, .int .i64 e.no, .int .i64 e.low, .int .i64 e.kept, .int .i64 e.txn, .int .i64 e.lead, .slice Aw2 e.with_.length cw2]) rfl ty_ag_50 rfl rfl rfl) ?_; refine WQ.val rfl rfl rfl (Yld.nilCheck rfl rfl) ?_; refine WQ.val rfl rfl rfl (Yld.fieldAddr rfl ty_fd_110_3 rfl) ?_; refine WQ.nil ?_; refine WP.loud rfl rfl ?_; refine Op.storeN rfl rfl ty_sz_50 rfl rfl rfl (by rfl) (Nat.le_of_ble_eq_true rfl) (show mcV s (ecN a z.at_) ({ z.c with ent := e }) (.slice An2 e.nodes.length cn2) (.slice Aw2 e.with_.length cw2) un uw = _ from rfl) (by repeat (first | exact Upd.head | apply Upd.tail | apply Upd.tailS)) ?_; refine WP.nil ?_; refine WP.sub [(0, _), (3, _), (4, _)] ?_ ⟨rfl, rfl, rfl, trivial⟩
  have hmm : IsMc J2 m s (ecN a z.at_) ({ z.c with ent := e }) [(m, row 110 (mcV s (ecN a z.at_) ({ z.c with ent := e }) (.slice An2 e.nodes.length cn2) (.slice Aw2 e.with_.length cw2) (un) (uw)))] := .mk (z := { z.c with ent := e }) hqn q3 hes (on.mono hJ2) (ow.mono (Imv.le hJ2)) os
  refine WP.next (WP.seq (WP.block (WP.seq ?_)))
  refine WP.region [0, 1, 2] rfl ?_; refine WP.mv rfl rfl ?_; refine WP.vl rfl (Yld.neq rfl rfl rfl false (decide_eq_false (by simp))) ?_; refine WP.mv rfl rfl ?_; refine WP.nil ?_; refine WP.sub [(0, _), (3, _), (4, _), (33, _)] ?_ ⟨rfl, rfl, rfl, rfl, trivial⟩
  refine WP.next ?_; refine WP.condF rfl ?_; refine WP.seq ?_; refine WP.region [0, 1, 2, 3] rfl ?_; refine WP.vl rfl (Yld.fieldAddr rfl ty_fd_50_6 rfl) ?_; refine WP.vl rfl (Yld.ld (v := .int .i64 e.txn) rfl ty_sc_3 rfl rfl) ?_; refine WP.vl rfl (Yld.neq rfl rfl rfl false (decide_eq_false (by exact fun h => h hx))) ?_; refine WP.mv rfl rfl ?_; refine WP.nil ?_; refine WP.sub [(0, _), (3, _), (4, _), (33, _), (43, _)] ?_ ⟨rfl, rfl, rfl, rfl, rfl, trivial⟩
  refine WP.next ?_; refine WP.condF rfl ?_; refine WP.seq ?_; refine WP.region [0, 1, 2, 3, 4] rfl ?_; refine WP.vl rfl (Yld.fieldAddr rfl ty_fd_50_1 rfl) ?_; refine WP.vl rfl (Yld.ld (v := .slice An2 e.nodes.length cn2) rfl ty_sc_45 rfl rfl) ?_; refine WP.vl rfl (Yld.len rfl ty_sl_45 rfl) ?_; refine WP.split rfl rfl rfl rfl (Yld.eql rfl rfl rfl) (fun h73 => ?_) (fun h73 => ?_)
  ·refine WP.mv rfl rfl ?_
   refine WP.nil ?_; refine WP.sub [(0, _), (3, _), (4, _), (33, _), (43, _), (53, _)] ?_ ⟨rfl, rfl, rfl, rfl, rfl, rfl, trivial⟩
   refine WP.next ?_; refine WP.condT rfl ?_; refine WP.seq ?_; refine WQ.start Tryzmixed 5 zK _ rfl [5, 6] rfl ?_; refine WQ.val rfl rfl rfl (Yld.move rfl rfl) ?_; refine WQ.val rfl rfl rfl (Yld.nilCheck rfl rfl) ?_; refine WQ.val rfl rfl rfl (Yld.fieldAddr rfl ty_fd_117_0 rfl) ?_; refine WQ.val rfl rfl rfl (Yld.ld rfl ty_sc_55 rfl rfl) ?_; refine WQ.val rfl rfl rfl (Yld.ldg (vs := [.int .u64 (e.tok : Int), .slice An2 e.nodes.length cn2, .int .i64 e.place, .int .i64 e.no, .int .i64 e.low, .int .i64 e.kept, .int .i64 e.txn, .int .i64 e.lead, .slice Aw2 e.with_.length cw2]) rfl ty_ag_50 rfl rfl rfl) ?_; refine WQ.nil ?_; refine WP.loud rfl rfl ?_; refine Op.cl (cac_end hmm hqn q3 hes) rfl Tryz.func59 rfl rfl rfl rfl ?_; rintro v J Lm2 - ⟨rfl, rfl, hm2⟩
   try simp only [nf]
   refine WP.mv rfl rfl ?_; refine WP.nil ?_; refine WP.sub [(0, _), (2, _), (3, _), (4, _), (33, _), (43, _), (53, _)] ?_ ⟨rfl, rfl, rfl, rfl, rfl, rfl, rfl, trivial⟩
   refine WP.next (WP.ret ?_)
   refine WP.fn .ret (.inr rfl) (res1 rfl rfl) (Lm2 ++ ((a, row 117 [.pointer (some ⟨m, 0, none⟩), vf]) :: Lt2)) hJ2 ?_; have e1 : z.loads e = (true, { z with at_ := 9, c := ({ z.c with ent := e } : Mc).fin e 0 }) := if_pos (by omega)
   rw [e1]; exact ⟨rfl, _, Lt2, app1, .idle (z := { z with at_ := 9, c := ({ z.c with ent := e } : Mc).fin e 0 }) (by simp) hm2, hT2⟩
  ·refine WP.mv rfl rfl ?_
   refine WP.nil ?_; refine WP.sub [(0, _), (3, _), (4, _), (33, _), (43, _), (53, _)] ?_ ⟨rfl, rfl, rfl, rfl, rfl, rfl, trivial⟩
   refine WP.next ?_; refine WP.condF rfl ?_; refine WP.seq ?_; refine WP.region [0, 1, 2, 3, 4, 5, 6] rfl ?_; refine WP.vl rfl (Yld.fieldAddr rfl ty_fd_50_5 rfl) ?_; refine WP.vl rfl (Yld.ld (v := .int .i64 e.kept) rfl ty_sc_3 rfl rfl) ?_; refine WP.vl rfl (Yld.fieldAddr rfl ty_fd_50_1 rfl) ?_; refine WP.vl rfl (Yld.ld (v := .slice An2 e.nodes.length cn2) rfl ty_sc_45 rfl rfl) ?_; refine WP.vl rfl (Yld.len rfl ty_sl_45 rfl) ?_; refine WP.split rfl rfl rfl rfl (Yld.lss rfl rfl rfl) (fun h95 => ?_) (fun h95 => ?_)
   ·refine WP.mv rfl rfl ?_
    refine WP.nil ?_; refine WP.sub [(0, _), (3, _), (4, _), (33, _), (43, _), (53, _), (64, _)] ?_ ⟨rfl, rfl, rfl, rfl, rfl, rfl, rfl, trivial⟩
    refine WP.next ?_; refine WP.condT rfl ?_; refine WP.seq ?_; have hst2 := hJ2.2 _ _ hst
    refine WD.start Tryzmixed 15 (fun c o => (c = a ∧ o = row 117 [.pointer (some ⟨m, 0, none⟩), vf]) ∨ (c = m ∧ o = row 110 (mcV s (ecN a z.at_) ({ z.c with ent := e }) (.slice An2 e.nodes.length cn2) (.slice Aw2 e.with_.length cw2) (un) (uw))) ∨ J2.blk c = some o) (fun _ _ => False) (by rintro _ _ (⟨rfl, rfl⟩ | ⟨rfl, rfl⟩ | h); exact zM; exact zM; exact There.i h) (fun _ _ h => h.elim) 19 [false, false, false, false, false, false, false, false, false, false, false, false, false, false, false, false, false, false, false] rfl rfl ?_; refine WD.vl (i := 0) rfl (Yld.move rfl rfl) ?_; refine WD.vl (i := 1) rfl (Yld.move rfl rfl) ?_; refine WD.vl (i := 2) rfl (Yld.nilCheck rfl rfl) ?_; refine WD.vl (i := 3) rfl (Yld.fieldAddr rfl ty_fd_117_0 rfl) ?_; refine WD.val1 (i := 4) rfl rfl rfl rfl zK rfl zK (Yld.load (v := .pointer (some ⟨m, 0, none⟩)) rfl ty_sc_55 rfl (.inl (.inl ⟨rfl, rfl⟩)) rfl) ?_; refine WD.vl (i := 5) rfl (Yld.nilCheck rfl rfl) ?_; refine WD.vl (i := 6) rfl (Yld.fieldAddr rfl ty_fd_110_0 rfl) ?_; refine WD.val1 (i := 7) rfl rfl rfl rfl zK rfl zK (Yld.load (v := .pointer (some ⟨s, 0, none⟩)) rfl ty_sc_26 rfl (.inl (.inr (.inl ⟨rfl, rfl⟩))) rfl) ?_; refine WD.vl (i := 8) rfl (Yld.move rfl rfl) ?_; refine WD.vl (i := 9) rfl (Yld.nilCheck rfl rfl) ?_; refine WD.vl (i := 10) rfl (Yld.fieldAddr rfl ty_fd_117_0 rfl) ?_; refine WD.val1 (i := 11) rfl rfl rfl rfl zK rfl zK (Yld.load (v := .pointer (some ⟨m, 0, none⟩)) rfl ty_sc_55 rfl (.inl (.inl ⟨rfl, rfl⟩)) rfl) ?_; refine WD.vl (i := 12) rfl (Yld.nilCheck rfl rfl) ?_
    refine WD.vl (i := 13) rfl (Yld.fieldAddr rfl ty_fd_110_2 rfl) ?_; refine WD.val1 (i := 14) rfl rfl rfl rfl zK rfl zK (Yld.load (v := .int .i64 z.c.page) rfl ty_sc_3 rfl (.inl (.inr (.inl ⟨rfl, rfl⟩))) rfl) ?_; refine WD.loud (i := 15) zK rfl rfl rfl ?_; refine Op.cl (cac_NewFlush (s := s) (p := z.c.page) (b := false)) rfl Tryz.func14 rfl rfl rfl rfl ?_; rintro v J Lfl - ⟨rfl, m1, f1, rfl, hfl⟩
    try simp only [nf]
    refine WD.go (.inl rfl) (fun _ _ h => h.elim) ?_; refine WD.vl (i := 16) rfl (Yld.nilCheck rfl rfl) ?_; refine WD.vl (i := 17) rfl (Yld.fieldAddr rfl ty_fd_117_1 rfl) ?_; refine WD.loud (i := 18) zK rfl rfl rfl ?_; refine Op.s1 rfl rfl ty_sz_55 rfl rfl rfl ?_; refine WD.go (.inl rfl) (fun _ _ h => h.elim) ?_; refine WD.done zK ?_; refine WP.sub [(0, _), (3, _), (4, _), (33, _), (43, _), (53, _), (64, _)] ?_ ⟨rfl, rfl, rfl, rfl, rfl, rfl, rfl, trivial⟩
    refine WP.next (WP.seq ?_)
    refine WP.region [0, 1, 2, 3, 4, 5, 6, 7] rfl ?_; refine WP.mv rfl rfl ?_; refine WP.vl rfl (Yld.nilCheck rfl rfl) ?_; refine WP.vl rfl (Yld.fieldAddr rfl ty_fd_117_0 rfl) ?_; refine WP.vl rfl (Yld.ld (v := .pointer (some ⟨m, 0, none⟩)) rfl ty_sc_55 rfl rfl) ?_; refine WP.mv rfl rfl ?_; refine WP.vl rfl (Yld.makeFunc rfl (vs := [_]) (us := []) rfl rfl) ?_; refine WP.loud rfl rfl ?_; refine Op.cl (cac_goes hmm) rfl Tryz.func60 rfl rfl rfl rfl ?_; rintro v J Lm2 - ⟨rfl, rfl, hm2⟩
    try simp only [nf]
    refine WP.mv rfl rfl ?_; refine WP.nil ?_; refine WP.sub [(0, _), (2, _), (3, _), (4, _), (33, _), (43, _), (53, _), (64, _)] ?_ ⟨rfl, rfl, rfl, rfl, rfl, rfl, rfl, rfl, trivial⟩
    refine WP.next (WP.ret ?_)
    refine WP.fn .ret (.inr rfl) (res1 rfl rfl) (Lm2 ++ ((a, row 117 [.pointer (some ⟨m, 0, none⟩), .pointer (some ⟨m1, 0, none⟩)]) :: (Lfl ++ Lt2))) hJ2 ?_; have e1 : z.loads e = (false, { z with at_ := 2, c := { z.c with ent := e }, f := fl0 z.c.page false }) := (if_neg (by omega)).trans (if_pos h95)
    rw [e1]; exact ⟨rfl, _, Lt2, app3, .busy (z := { z with at_ := 2, c := { z.c with ent := e }, f := fl0 z.c.page false }) rfl hm2 hfl, hT2⟩
   ·refine WP.mv rfl rfl ?_
    refine WP.nil ?_; refine WP.sub [(0, _), (3, _), (4, _), (33, _), (43, _), (53, _), (64, _)] ?_ ⟨rfl, rfl, rfl, rfl, rfl, rfl, rfl, trivial⟩
    refine WP.next ?_; refine WP.condF rfl ?_; refine WP.skip (WP.leave (WP.next (WP.seq ?_)))
    refine WP.region [0, 1, 2, 3, 4, 5, 6, 7] rfl ?_; refine WP.mv rfl rfl ?_; refine WP.vl rfl (Yld.nilCheck rfl rfl) ?_; refine WP.vl rfl (Yld.fieldAddr rfl ty_fd_117_0 rfl) ?_; refine WP.vl rfl (Yld.ld (v := .pointer (some ⟨m, 0, none⟩)) rfl ty_sc_55 rfl rfl) ?_; refine WP.mv rfl rfl ?_; refine WP.vl rfl (Yld.makeFunc rfl (vs := [_]) (us := []) rfl rfl) ?_; refine WP.loud rfl rfl ?_; refine Op.cl (cac_goes hmm) rfl Tryz.func60 rfl rfl rfl rfl ?_; rintro v J Lm2 - ⟨rfl, rfl, hm2⟩
    try simp only [nf]
    refine WP.mv rfl rfl ?_; refine WP.nil ?_; refine WP.sub [(0, _), (2, _), (3, _), (4, _), (33, _), (43, _), (53, _), (64, _)] ?_ ⟨rfl, rfl, rfl, rfl, rfl, rfl, rfl, rfl, trivial⟩
    refine WP.next (WP.ret ?_)
    refine WP.fn .ret (.inr rfl) (res1 rfl rfl) (Lm2 ++ ((a, row 117 [.pointer (some ⟨m, 0, none⟩), vf]) :: Lt2)) hJ2 ?_; have e1 : z.loads e = (false, { z with at_ := 3, c := { z.c with ent := e } }) := (if_neg (by omega)).trans (if_neg h95)
    rw [e1]; exact ⟨rfl, _, Lt2, app1, .idle (z := { z with at_ := 3, c := { z.c with ent := e } }) (by simp) hm2, hT2⟩

theorem ec_swaps {I : Imm} {a m s : Nat} {z : Ec} {Le : Chunks} (he : IsEc I a m s z Le) {l t : Nat} {tb : Tb} {Lt : Chunks} (hst : I.blk s = some (row 88 [.pointer (some ⟨t, 0, none⟩), .pointer (some ⟨l, 0, none⟩)])) (hT : IsT I t tb Lt) (htk : tb.tok + 1 < 18446744073709551616) (h1 : z.at_ = 3) : Spec Tryz.prog 64 [.pointer (some ⟨a, 0, none⟩)] I (Le ++ Lt) (fun v J L => ∃ r tb2 Le2 Lt2, SwR tb z.c.page z.c.ent.tok z.ent2 r tb2 ∧ v = .bool (z.swaps r).1 ∧ L = Le2 ++ Lt2 ∧ IsEc J a m s (z.swaps r).2 Le2 ∧ IsT J t tb2 Lt2) := by
 cases he with
 | busy h _ _ => omega
 | @idle vf Lm hne hm =>
 cases hm with
 | @mk vn vw un uw hn hw hs on ow os =>
 obtain ⟨nvn, hn1, hn2⟩ := id hn.ex
 obtain ⟨An, cn, rfl, _⟩ := hn1.slice'
 obtain ⟨Aw, cw, rfl, _⟩ := hw.slice'
 refine Spec.of Tryz.func64 rfl Tryz.ntmps64 (Nat.le_of_ble_eq_true rfl) (fun F => ?_)
 try simp only [nf]
 dsimp only [argsEnv]
 refine WP.seq ?_; refine WP.region [0] rfl ?_; refine WP.mv rfl rfl ?_; refine WP.nil (WP.next (WP.seq ?_))
 refine WP.region [0, 1, 2, 3, 4, 5, 6, 7, 8] rfl ?_; refine WP.mv rfl rfl ?_; refine WP.vl rfl (Yld.nilCheck rfl rfl) ?_; refine WP.vl rfl (Yld.fieldAddr rfl ty_fd_117_0 rfl) ?_; refine WP.vl rfl (Yld.ld (v := .pointer (some ⟨m, 0, none⟩)) rfl ty_sc_55 rfl rfl) ?_; refine WP.vl rfl (Yld.nilCheck rfl rfl) ?_; refine WP.vl rfl (Yld.fieldAddr rfl ty_fd_110_3 rfl) ?_; refine WP.vl rfl (Yld.ldg (vs := [.int .u64 (z.c.ent.tok : Int), .slice An z.c.ent.nodes.length cn, .int .i64 z.c.ent.place, .int .i64 z.c.ent.no, .int .i64 z.c.ent.low, .int .i64 z.c.ent.kept, .int .i64 z.c.ent.txn, .int .i64 z.c.ent.lead, .slice Aw z.c.ent.with_.length cw]) rfl ty_ag_50 rfl rfl rfl) ?_; refine WP.loud rfl rfl ?_; refine Op.alloc rfl rfl rfl ty_zr_50 (fun b3 => ?_)
 refine WP.loud rfl rfl ?_; refine Op.sA rfl rfl ty_sz_50 rfl rfl rfl rfl rfl ?_; refine WP.nil ?_; refine WP.sub [(0, _), (2, _), (3, _)] ?_ ⟨rfl, rfl, rfl, trivial⟩
 refine WP.next (WP.seq ?_)
 refine WP.region [0, 1, 2, 3] rfl ?_; refine WP.vl rfl (Yld.fieldAddr rfl ty_fd_50_1 rfl) ?_; refine WP.loud rfl rfl ?_; refine Op.s1 rfl rfl ty_sz_45 rfl rfl rfl ?_; refine WP.vl rfl (Yld.fieldAddr rfl ty_fd_50_5 rfl) ?_; refine WP.loud rfl rfl ?_; refine Op.s1 rfl rfl ty_sz_3 rfl rfl rfl ?_; refine WP.nil ?_; refine WP.sub [(0, _), (2, _), (3, _)] ?_ ⟨rfl, rfl, rfl, trivial⟩
 refine WP.next (WP.seq ?_)
 refine WQ.start Tryzmixed 7 zK _ rfl [7, 8] rfl ?_; refine WQ.val rfl rfl rfl (Yld.move rfl rfl) ?_; refine WQ.val rfl rfl rfl (Yld.nilCheck rfl rfl) ?_; refine WQ.val rfl rfl rfl (Yld.fieldAddr rfl ty_fd_117_0 rfl) ?_; refine WQ.val rfl rfl rfl (Yld.ld (v := .pointer (some ⟨m, 0, none⟩)) rfl ty_sc_55 rfl rfl) ?_; refine WQ.val rfl rfl rfl (Yld.ldg (vs := [.int .u64 (({ z.c.ent with nodes := [], kept := 0 } : Ent).tok : Int), .slice none 0 0, .int .i64 ({ z.c.ent with nodes := [], kept := 0 } : Ent).place, .int .i64 ({ z.c.ent with nodes := [], kept := 0 } : Ent).no, .int .i64 ({ z.c.ent with nodes := [], kept := 0 } : Ent).low, .int .i64 ({ z.c.ent with nodes := [], kept := 0 } : Ent).kept, .int .i64 ({ z.c.ent with nodes := [], kept := 0 } : Ent).txn, .int .i64 ({ z.c.ent with nodes := [], kept := 0 } : Ent).lead, .slice Aw z.c.ent.with_.length cw]) rfl ty_ag_50 rfl rfl rfl) ?_; refine WQ.val rfl rfl rfl (Yld.move rfl rfl) ?_; refine WQ.val rfl rfl rfl (Yld.makeFunc rfl (vs := [_]) (us := []) rfl rfl) ?_; refine WQ.nil ?_; refine WP.loud rfl rfl ?_; refine Op.cl (cac_swap (IsMc.mk hn hw hs on ow os : IsMc I m s (ecN a z.at_) z.c _) (x := { z.c.ent with nodes := [], kept := 0 }) (RNodes.nil _) hw ⟨Nat.zero_le _, fun y hy => (by cases hy), hs.3⟩ hst hT htk) rfl Tryz.func75 rfl rfl rfl rfl ?_; rintro v J2 L37 hJ2 ⟨r, tb2, Lm2, Lt2, hsw, rfl, hT2, hor⟩
 try simp only [nf]
 try simp only [nf]
 refine WP.mv rfl rfl ?_; refine WP.nil ?_; refine WP.sub [(0, _), (2, _), (3, _)] ?_ ⟨rfl, rfl, rfl, trivial⟩
 refine WP.next (WP.ret ?_)
 refine WP.fn .ret (.inr rfl) (res1 rfl rfl) (Lm2 ++ ((a, row 117 [.pointer (some ⟨m, 0, none⟩), vf]) :: Lt2)) hJ2 ?_; refine ⟨r, tb2, _, Lt2, hsw, ?_, app1, ?_, hT2⟩
 ·rcases hor with ⟨h5, rfl, _⟩ | ⟨h5, rfl, _⟩; rw [show z.swaps r = (false, { z with at_ := 1 }) from if_pos h5]; rw [show z.swaps r = (true, { z with at_ := 9, c := z.c.fin z.ent2 r }) from if_neg h5]
 ·rcases hor with ⟨h5, _, hm2⟩ | ⟨h5, _, hm2⟩; (rw [show z.swaps r = (false, { z with at_ := 1 }) from if_pos h5]; exact .idle (z := { z with at_ := 1 }) (by simp) hm2); (rw [show z.swaps r = (true, { z with at_ := 9, c := z.c.fin z.ent2 r }) from if_neg h5]; exact .idle (z := { z with at_ := 9, c := z.c.fin z.ent2 r }) (by simp) hm2)

theorem ec_flushes {I : Imm} {a m s : Nat} {z : Ec} {Le : Chunks} (he : IsEc I a m s z Le) {l t : Nat} {tb : Tb} {Lt : Chunks} (hst : I.blk s = some (row 88 [.pointer (some ⟨t, 0, none⟩), .pointer (some ⟨l, 0, none⟩)])) (hT : IsT I t tb Lt) {sg d n : Nat} {x : Lg} {y : Dk} {Ll : Chunks} (hlg : IsLog I l sg d n x y Ll) {m' : Nat} {B : Bd} {W : Int → Nds} (w : CW m' B W tb x) (hW : W z.f.c.page ≠ []) (hi : FlI B tb x z.f) (hB : B.b ≤ 1099511627776) (htk : tb.tok + 1 < 18446744073709551616) (h1 : z.at_ = 2) : Spec Tryz.prog 63 [.pointer (some ⟨a, 0, none⟩)] I (Le ++ (Lt ++ Ll)) (fun v J L => ∃ c f2 tb2 x2 Le2 Lt2 Ll2, FlS tb x z.f c f2 tb2 x2 ∧ v = .bool (z.flushes c f2).1 ∧ L = Le2 ++ (Lt2 ++ Ll2) ∧ IsEc J a m s (z.flushes c f2).2 Le2 ∧ IsT J t tb2 Lt2 ∧ IsLog J l sg d n x2 y Ll2) := by
 cases he with
 | idle h _ => omega
 | @busy f1 m1 Lm Lf hne hm hf =>
 cases hm with
 | @mk vn vw un uw hn hw hs on ow os =>
 obtain ⟨nvn, hn1, hn2⟩ := id hn.ex
 obtain ⟨An, cn, rfl, _⟩ := hn1.slice'
 obtain ⟨Aw, cw, rfl, _⟩ := hw.slice'
 refine Spec.of Tryz.func63 rfl Tryz.ntmps63 (Nat.le_of_ble_eq_true rfl) (fun F => ?_)
 try simp only [nf]
 dsimp only [argsEnv]
 refine WP.seq ?_; refine WP.region [0] rfl ?_; refine WP.mv rfl rfl ?_; refine WP.nil (WP.next (WP.seq (WP.seq ?_)))
 refine WP.region [0, 1, 2, 3, 4, 5] rfl ?_; refine WP.mv rfl rfl ?_; refine WP.vl rfl (Yld.nilCheck rfl rfl) ?_; refine WP.vl rfl (Yld.fieldAddr rfl ty_fd_117_1 rfl) ?_; refine WP.vl rfl (Yld.ld (v := .pointer (some ⟨m1, 0, none⟩)) rfl ty_sc_55 rfl rfl) ?_; refine WP.loud rfl rfl ?_; refine Op.cl (fl_Step hf hst hT hlg w hW hi hB htk) rfl Tryz.func17 rfl rfl rfl rfl ?_; rintro v J1 L14 hJ1 ⟨c, f2, tb2, x2, Lf2, Lt2, Ll2, rfl, hfs, rfl, hf2, hT2, hlg2⟩
 try simp only [nf]
 by_cases hc1 : c = true
 ·try rw [hc1]
  refine WP.vl rfl (Yld.not rfl rfl) ?_; refine WP.nil ?_; refine WP.sub [(0, _), (2, _), (10, _)] ?_ ⟨rfl, rfl, rfl, trivial⟩
  refine WP.next ?_; refine WP.condF rfl ?_; refine WP.skip (WP.next (WP.seq (WP.seq ?_)))
  obtain ⟨vr1, Lm1, rfl, hr1, hm1⟩ := hf2.open
  try simp only [nf]
  refine WP.region [0, 1, 2, 3, 4, 5, 6, 7, 8, 9, 10] rfl ?_; refine WP.mv rfl rfl ?_; refine WP.vl rfl (Yld.nilCheck rfl rfl) ?_; refine WP.vl rfl (Yld.fieldAddr rfl ty_fd_117_1 rfl) ?_; refine WP.vl rfl (Yld.ld (v := .pointer (some ⟨m1, 0, none⟩)) rfl ty_sc_55 rfl rfl) ?_; refine WP.loud rfl rfl ?_; refine Op.cl (cac_Got hm1) rfl Tryz.func23 rfl rfl rfl rfl ?_; rintro v J2 Lm1b hJ2 ⟨cs, rfl, hre, hm1b⟩
  try simp only [nf]
  obtain ⟨vn2, vw2, nv2, rfl, q1, q2, q3⟩ := id hre.ex
  obtain ⟨An2, cn2, rfl, _⟩ := q1.slice'
  obtain ⟨Aw2, cw2, rfl, _⟩ := q3.slice'
  have hqn : RNodes J2 (.slice An2 f2.c.out.nodes.length cn2) f2.c.out.nodes := ⟨nv2, q1, q2⟩
  have hJ12 := Imm.le_trans hJ1 hJ2
  refine WP.mv rfl rfl ?_; iterate 2 refine WP.vl rfl (Yld.extract rfl rfl rfl) ?_
  refine WP.loud rfl rfl ?_; refine Op.alloc rfl rfl rfl ty_zr_50 (fun b3 => ?_)
  refine WP.loud rfl rfl ?_; refine Op.sA rfl rfl ty_sz_50 rfl rfl rfl rfl rfl ?_; refine WP.mv rfl rfl ?_; refine WP.nil ?_; refine WP.sub [(0, _), (2, _), (3, _), (4, _), (10, _)] ?_ ⟨rfl, rfl, rfl, rfl, rfl, trivial⟩
  refine WP.next (WP.seq ?_)
  refine WP.region [0, 1] rfl ?_; refine WP.mv rfl rfl ?_; refine WP.split rfl rfl rfl rfl (Yld.neq rfl rfl rfl) (fun h41 => ?_) (fun h41 => ?_)
  ·refine WP.nil ?_
   refine WP.sub [(0, _), (2, _), (3, _), (4, _), (10, _), (20, _)] ?_ ⟨rfl, rfl, rfl, rfl, rfl, rfl, trivial⟩
   have hmm : IsMc J2 m s (ecN a z.at_) z.c [(m, row 110 (mcV s (ecN a z.at_) (z.c) (.slice An z.c.ent.nodes.length cn) (.slice Aw z.c.ent.with_.length cw) (un) (uw)))] := (IsMc.mk hn hw hs on ow os : IsMc I m s (ecN a z.at_) z.c _).mono hJ12
   refine WP.next ?_; refine WP.condT rfl ?_; refine WP.seq ?_; refine WQ.start Tryzmixed 6 zK _ rfl [6, 7] rfl ?_; refine WQ.val rfl rfl rfl (Yld.move rfl rfl) ?_; refine WQ.val rfl rfl rfl (Yld.nilCheck rfl rfl) ?_; refine WQ.val rfl rfl rfl (Yld.fieldAddr rfl ty_fd_117_0 rfl) ?_; refine WQ.val rfl rfl rfl (Yld.ld (v := .pointer (some ⟨m, 0, none⟩)) rfl ty_sc_55 rfl rfl) ?_; refine WQ.val rfl rfl rfl (Yld.ldg (vs := [.int .u64 (f2.c.out.tok : Int), .slice An2 f2.c.out.nodes.length cn2, .int .i64 f2.c.out.place, .int .i64 f2.c.out.no, .int .i64 f2.c.out.low, .int .i64 f2.c.out.kept, .int .i64 f2.c.out.txn, .int .i64 f2.c.out.lead, .slice Aw2 f2.c.out.with_.length cw2]) rfl ty_ag_50 rfl rfl rfl) ?_; refine WQ.val rfl rfl rfl (Yld.move rfl rfl) ?_; refine WQ.nil ?_; refine WP.loud rfl rfl ?_; refine Op.cl (cac_end hmm hqn q3 hm1b.outs) rfl Tryz.func59 rfl rfl rfl rfl ?_; rintro v J Lm2 - ⟨rfl, rfl, hm2⟩
   try simp only [nf]
   refine WP.mv rfl rfl ?_; refine WP.nil ?_; refine WP.sub [(0, _), (2, _), (3, _), (4, _), (10, _), (20, _)] ?_ ⟨rfl, rfl, rfl, rfl, rfl, rfl, trivial⟩
   refine WP.next (WP.ret ?_)
   refine WP.fn .ret (.inr rfl) (res1 rfl rfl) (Lm2 ++ ((a, row 117 [.pointer (some ⟨m, 0, none⟩), .pointer (some ⟨m1, 0, none⟩)]) :: (Lt2 ++ Ll2))) hJ12 ?_; have e1 : z.flushes c f2 = (true, { z with at_ := 9, c := z.c.fin f2.c.out f2.c.e, f := f2 }) := (if_neg (by rw [hc1]; decide)).trans (if_pos h41)
   exact ⟨c, f2, tb2, x2, _, Lt2, Ll2, hfs, by rw [e1], app1, by rw [e1]; exact .idle (z := { z with at_ := 9, c := z.c.fin f2.c.out f2.c.e, f := f2 }) (by simp) hm2, hT2.mono hJ2, hlg2.mono hJ2⟩
  ·refine WP.nil ?_
   refine WP.sub [(0, _), (2, _), (3, _), (4, _), (10, _), (20, _)] ?_ ⟨rfl, rfl, rfl, rfl, rfl, rfl, trivial⟩
   have hmm : IsMc J2 m s (ecN a z.at_) z.c [(m, row 110 (mcV s (ecN a z.at_) (z.c) (.slice An z.c.ent.nodes.length cn) (.slice Aw z.c.ent.with_.length cw) (un) (uw)))] := (IsMc.mk hn hw hs on ow os : IsMc I m s (ecN a z.at_) z.c _).mono hJ12
   refine WP.next ?_; refine WP.condF rfl ?_; refine WP.skip (WP.next (WP.seq ?_))
   refine WP.region [0, 1, 2, 3, 4, 5, 6, 7] rfl ?_; refine WP.mv rfl rfl ?_; refine WP.vl rfl (Yld.nilCheck rfl rfl) ?_; refine WP.vl rfl (Yld.fieldAddr rfl ty_fd_117_0 rfl) ?_; refine WP.vl rfl (Yld.ld (v := .pointer (some ⟨m, 0, none⟩)) rfl ty_sc_55 rfl rfl) ?_; refine WP.mv rfl rfl ?_; refine WP.vl rfl (Yld.makeFunc rfl (vs := [_]) (us := []) rfl rfl) ?_; refine WP.loud rfl rfl ?_; refine Op.cl (cac_goes hmm) rfl Tryz.func60 rfl rfl rfl rfl ?_; rintro v J Lm2 - ⟨rfl, rfl, hm2⟩
   try simp only [nf]
   refine WP.mv rfl rfl ?_; refine WP.nil ?_; refine WP.sub [(0, _), (2, _), (3, _), (4, _), (10, _), (20, _)] ?_ ⟨rfl, rfl, rfl, rfl, rfl, rfl, trivial⟩
   refine WP.next (WP.ret ?_)
   refine WP.fn .ret (.inr rfl) (res1 rfl rfl) (Lm2 ++ ((a, row 117 [.pointer (some ⟨m, 0, none⟩), .pointer (some ⟨m1, 0, none⟩)]) :: (Lt2 ++ Ll2))) hJ12 ?_; have e1 : z.flushes c f2 = (false, { z with at_ := 1, f := f2 }) := (if_neg (by rw [hc1]; decide)).trans (if_neg h41)
   exact ⟨c, f2, tb2, x2, _, Lt2, Ll2, hfs, by rw [e1], app1, by rw [e1]; exact .idle (z := { z with at_ := 1, f := f2 }) (by simp) hm2, hT2.mono hJ2, hlg2.mono hJ2⟩
 ·have hc1 : c = false := eq_false_of_ne_true hc1
  try rw [hc1]
  refine WP.vl rfl (Yld.not rfl rfl) ?_; refine WP.nil ?_; refine WP.sub [(0, _), (2, _), (10, _)] ?_ ⟨rfl, rfl, rfl, trivial⟩
  refine WP.next ?_; refine WP.condT rfl ?_; refine WP.seq ?_; refine WP.region [0] rfl ?_; refine WP.mv rfl rfl ?_; refine WP.nil (WP.next (WP.ret ?_))
  refine WP.fn .ret (.inr rfl) (res1 rfl rfl) ([(m, row 110 (mcV s (ecN a z.at_) (z.c) (.slice An z.c.ent.nodes.length cn) (.slice Aw z.c.ent.with_.length cw) (un) (uw)))] ++ ((a, row 117 [.pointer (some ⟨m, 0, none⟩), .pointer (some ⟨m1, 0, none⟩)]) :: (Lf2 ++ (Lt2 ++ Ll2)))) hJ1 ?_; have e1 : z.flushes c f2 = (false, { z with f := f2 }) := if_pos hc1
  exact ⟨c, f2, tb2, x2, _, Lt2, Ll2, hfs, by rw [e1], (app3 (A := [(m, row 110 (mcV s (ecN a z.at_) (z.c) (.slice An z.c.ent.nodes.length cn) (.slice Aw z.c.ent.with_.length cw) (un) (uw)))])), by rw [e1]; exact .busy (z := { z with f := f2 }) hne ((IsMc.mk hn hw hs on ow os : IsMc I m s (ecN a z.at_) z.c _).mono hJ1) hf2, hT2, hlg2⟩

theorem cac_NewEvict {I : Imm} {s : Nat} {p : Int} : Spec Tryz.prog 16 [.pointer (some ⟨s, 0, none⟩), .int .i64 p] I [] (fun v J L => I = J ∧ ∃ m a, v = .pointer (some ⟨m, 0, none⟩) ∧ IsEc J a m s (ec0 p) L) := by
 refine Spec.of Tryz.func16 rfl Tryz.ntmps16 (Nat.le_of_ble_eq_true rfl) (fun F => ?_)
 try simp only [nf]
 dsimp only [argsEnv]
 refine WP.seq ?_; refine WP.region [0] rfl ?_; refine WP.mv rfl rfl ?_; refine WP.nil (WP.next (WP.seq ?_))
 refine WP.region [0, 1, 2, 3, 4, 5] rfl ?_; iterate 2 refine WP.mv rfl rfl ?_
 refine WP.loud rfl rfl ?_; refine Op.cl cac_machine rfl Tryz.func39 rfl rfl rfl rfl ?_; rintro v J L1 - ⟨rfl, m, rfl, rfl⟩
 try simp only [nf]
 refine WP.vl rfl (Yld.buildS (pl := [(0, 0, 1)]) rfl ty_zr_117 ty_zd_117 zK rfl (vs := [_]) rfl (segs := [(0, [_])]) rfl rfl zS) ?_; refine WP.loud rfl rfl ?_; refine Op.box rfl rfl rfl rfl rfl (fun a => ?_)
 refine WP.mv rfl rfl ?_; refine WP.nil ?_; refine WP.sub [(0, _), (1, _), (4, _), (5, _)] ?_ ⟨rfl, rfl, rfl, rfl, trivial⟩
 refine WP.next (WP.seq ?_)
 refine WP.region [0, 1, 2, 3, 4, 5, 6, 7, 8, 9] rfl ?_; refine WP.mv rfl rfl ?_; refine WP.vl rfl (Yld.nilCheck rfl rfl) ?_; refine WP.vl rfl (Yld.fieldAddr rfl ty_fd_117_0 rfl) ?_; refine WP.vl rfl (Yld.ld (v := .pointer (some ⟨m, 0, none⟩)) rfl ty_sc_55 rfl rfl) ?_; refine WP.mv rfl rfl ?_; refine WP.vl rfl (Yld.makeFunc rfl (vs := [_]) (us := []) rfl rfl) ?_; refine WP.vl rfl (Yld.nilCheck rfl rfl) ?_; refine WP.vl rfl (Yld.fieldAddr rfl ty_fd_110_1 rfl) ?_; refine WP.vl rfl (Yld.fieldAddr rfl ty_fd_108_0 rfl) ?_; refine WP.loud rfl rfl ?_; refine Op.s1 rfl rfl ty_sz_23 rfl rfl rfl ?_; refine WP.nil ?_; refine WP.sub [(0, _), (1, _), (4, _), (5, _)] ?_ ⟨rfl, rfl, rfl, rfl, trivial⟩
 refine WP.next (WP.seq ?_)
 refine WP.region [0, 1, 2, 3, 4] rfl ?_; refine WP.mv rfl rfl ?_; refine WP.vl rfl (Yld.nilCheck rfl rfl) ?_; refine WP.vl rfl (Yld.fieldAddr rfl ty_fd_117_0 rfl) ?_; refine WP.vl rfl (Yld.ld (v := .pointer (some ⟨m, 0, none⟩)) rfl ty_sc_55 rfl rfl) ?_; refine WP.mv rfl rfl ?_; refine WP.nil ?_; refine WP.sub [(0, _), (1, _), (4, _), (5, _)] ?_ ⟨rfl, rfl, rfl, rfl, trivial⟩
 refine WP.next (WP.ret ?_)
 refine WP.fn .ret (.inr rfl) (res1 rfl rfl) [(m, row 110 (mcV s (ecN a 1) (mc0 p) (.slice none 0 0) (.slice none 0 0) (.slice none 0 0) (.slice none 0 0))), (a, row 117 [.pointer (some ⟨m, 0, none⟩), .pointer none])] (Imm.le_refl _) ?_; exact ⟨rfl, m, a, rfl, .idle (z := ec0 p) (Lm := [_]) (by simp [ec0]) (IsMc.zero _)⟩


end Go.Hp
