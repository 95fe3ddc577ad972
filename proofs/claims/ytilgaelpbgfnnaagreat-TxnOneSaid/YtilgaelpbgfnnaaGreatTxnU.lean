import Derived.Test.YtilgaelpbgfnnaaGreatTxnQ
set_option linter.unusedVariables false
set_option linter.unusedSimpArgs false
namespace Go.Hp
open Go Go.Proofs

def Tb.ent (x : Tb) (p : Int) : Option Ent := (x.get p).map (·.2)
theorem Tb.ent_none {x : Tb} {p : Int} (h : x.get p = none) : x.ent p = none := by unfold Tb.ent; rw [h]; rfl
theorem Tb.ent_some {x : Tb} {p : Int} {e : Nat × Ent} (h : x.get p = some e) : x.ent p = some e.2 := by unfold Tb.ent; rw [h]; rfl
theorem Tb.Used.ent {x x' : Tb} {p : Int} {e : Ent} (h : x.Used x' p e) (k : Int) : x'.ent k = if k = p then some { e with tok := x.tok + 1 } else x.ent k := by
 obtain ⟨b, hb⟩ := h.get
 unfold Tb.ent; rw [hb k]; split <;> rfl
theorem Tb.Swapped.ent {x x' : Tb} {p : Int} {e : Ent} (h : x.Swapped x' p e) (k : Int) : x'.ent k = if k = p then some { e with tok := x.tok + 1 } else x.ent k := by
 obtain ⟨b, hb⟩ := h.get
 unfold Tb.ent; rw [hb k]; split <;> rfl
def pgs (l : List Pr) : List Int := l.map (·.page)
def hdP : List Pr → Pr | [] => ⟨0, 0, []⟩ | r :: _ => r
def leadOf (l : List Pr) : Int := (hdP l).page
/-- The pages of a group in the order in which they are cleared. -/
def rotL (l : List Pr) : List Pr := l.tail ++ [hdP l]
theorem headPr_prs (l : List (Pr × Value)) : headPr l = hdP (prs l) := by cases l <;> rfl
theorem prs_tail (l : List (Pr × Value)) : prs l.tail = (prs l).tail := by cases l <;> rfl
theorem prs_drop (l : List (Pr × Value)) (k : Nat) : prs (l.drop k) = (prs l).drop k := by simp [prs, List.map_drop]
theorem prs_nil {l : List (Pr × Value)} (h : prs l = []) : l = [] := by cases l with | nil => rfl | cons a l => cases h
theorem hdP_cons {l : List Pr} (h : 0 < l.length) : l = hdP l :: l.tail := by cases l with | nil => exact absurd h (Nat.lt_irrefl _) | cons a l => rfl
theorem rotL_len {l : List Pr} (h : 0 < l.length) : (rotL l).length = l.length := by cases l with | nil => exact absurd h (Nat.lt_irrefl _) | cons a l => simp [rotL]
theorem rotL_mem {l : List Pr} (h : 0 < l.length) (r : Pr) : r ∈ rotL l ↔ r ∈ l := by
 cases l with
 | nil => exact absurd h (Nat.lt_irrefl _)
 | cons a l => simp only [rotL, List.tail_cons, hdP, List.mem_append, List.mem_cons, List.not_mem_nil, or_false]; exact Or.comm
/-- What a group must be. -/
structure Wf (rs : List Pr) : Prop where
 may : mayG rs
 nn : ∀ r ∈ rs, 0 < r.nodes.length
 sz : (groupB rs).length < 198
 dl : ∀ r ∈ rs, ∀ y ∈ r.nodes, y.2.length ≤ 140737488351232
theorem Wf.pos {rs : List Pr} (h : Wf rs) : 0 < rs.length := h.may.1
theorem Wf.at_ {rs : List Pr} (h : Wf rs) {r : Pr} (hr : r ∈ rs) : r.may := by
 obtain ⟨i, hi, rfl⟩ := List.getElem_of_mem hr
 obtain ⟨_, _, h3⟩ := h.may.2.2 i hi
 rcases h3 with ⟨_, h4, _⟩ | h4
 ·have := h.nn _ hr; rw [h4] at this; exact absurd this (Nat.lt_irrefl _)
 ·exact h4
theorem Wf.nd {rs : List Pr} (h : Wf rs) : (pgs rs).Nodup := by
 unfold pgs
 refine List.pairwise_iff_getElem.2 fun i j hi hj hij he => ?_; rw [List.length_map] at hi hj
 simp only [List.getElem_map] at he
 exact (h.may.2.2 j hj).1 i hij he
theorem Wf.n64 {rs : List Pr} (h : Wf rs) {r : Pr} (hr : r ∈ rs) : r.nodes.length ≤ 64 := (h.at_ hr).2.2.2.2.1
theorem Wf.lead {rs : List Pr} (h : Wf rs) : 1 ≤ leadOf rs ∧ leadOf rs ≤ 512 := by
 have hm : hdP rs ∈ rs := by rw [hdP_cons h.pos]; exact List.mem_cons_self
 exact (h.at_ hm).1
theorem nd_mid {A C : List Pr} {r : Pr} (h : (pgs (A ++ r :: C)).Nodup) : (∀ q ∈ A, q.page ≠ r.page) ∧ ∀ q ∈ C, q.page ≠ r.page := by
 unfold pgs at h
 rw [List.map_append, List.map_cons, List.nodup_append] at h
 obtain ⟨_, h2, h3⟩ := h
 rw [List.nodup_cons] at h2
 exact ⟨fun q hq => h3 _ (List.mem_map_of_mem hq) _ (List.mem_cons_self), fun q hq e => h2.1 (by rw [← e]; exact List.mem_map_of_mem hq)⟩
theorem rotL_nd {l : List Pr} (h0 : 0 < l.length) (h : (pgs l).Nodup) : (pgs (rotL l)).Nodup := by
 cases l with
 | nil => exact absurd h0 (Nat.lt_irrefl _)
 | cons a l =>
  unfold pgs rotL hdP at *
  rw [List.map_append, List.map_cons] at *
  simp only [List.tail_cons, List.map_nil, List.map_cons, List.nodup_cons] at h ⊢
  rw [List.nodup_append]
  refine ⟨h.2, by simp, fun x hx y hy => ?_⟩
  cases List.mem_singleton.1 hy
  exact fun e => h.1 (e ▸ hx)
theorem split_at {α : Type} {l : List α} {k : Nat} (h : k < l.length) : l = l.take k ++ l[k] :: l.drop (k + 1) := by
 rw [← List.drop_eq_getElem_cons h, List.take_append_drop]
/-- What a page's entry is that the group has made. -/
structure Mk (r : Pr) (no pl : Int) (e : Ent) : Prop where
 may : e.mayP
 nodes : e.nodes = r.nodes
 no : e.no = no
 place : e.place = pl
def made (tb : Tb) (rs : List Pr) (no pl : Int) (r : Pr) : Prop := ∃ e, tb.ent r.page = some e ∧ Mk r no pl e ∧ e.txn = no ∧ e.lead = leadOf rs ∧ (r.page = leadOf rs → e.with_ = pgs rs.tail)
def clrd (tb : Tb) (no pl : Int) (r : Pr) : Prop := ∃ e, tb.ent r.page = some e ∧ Mk r no pl e ∧ e.txn = 0
theorem made.of {tb tb' : Tb} {rs : List Pr} {no pl : Int} {r : Pr} (h : made tb rs no pl r) (he : tb'.ent r.page = tb.ent r.page) : made tb' rs no pl r := by
 obtain ⟨e, h1, h2⟩ := h; exact ⟨e, he.trans h1, h2⟩
theorem clrd.of {tb tb' : Tb} {no pl : Int} {r : Pr} (h : clrd tb no pl r) (he : tb'.ent r.page = tb.ent r.page) : clrd tb' no pl r := by
 obtain ⟨e, h1, h2⟩ := h; exact ⟨e, he.trans h1, h2⟩
/-- A log with room, of records of one block. -/
structure LgB (x : Lg) : Prop where
 base : x.base = 0
 p0 : x.p0 = 8
 g : ∃ m k, 20 ≤ m ∧ x.g = ⟨m, 1, k⟩
 one : ∀ r ∈ x.rs, r.n = 1
theorem blocks_one {l : List Rc} (h : ∀ r ∈ l, r.n = 1) : blocksN l = l.length := by
 induction l with
 | nil => rfl
 | cons r l ih => simp only [blocksN, List.length_cons]; rw [h r List.mem_cons_self, ih fun x hx => h x (List.mem_cons_of_mem _ hx)]; omega
theorem LgB.no {x : Lg} (h : LgB x) : x.no = x.rs.length := by unfold Lg.no; rw [h.base]; omega
theorem LgB.pl {x : Lg} (h : LgB x) : x.pl = 8 + x.rs.length := by unfold Lg.pl; rw [h.p0, blocks_one h.one]
theorem LgB.apE {x : Lg} (h : LgB x) {hn hp : Nat} {kind : Int} {b : List UInt8} (hm : x.rs.length < 60) (hb : b.length < 198) (hk : kind = 3 ∨ kind = 4) : x.apE hn hp kind b = if hn = x.no ∧ hp = x.pl then 0 else 5 := by
 have e1 := h.no
 have e2 := h.pl
 obtain ⟨m, k, hm20, hg⟩ := h.g
 have hr : 152 ≤ x.room kind := by unfold Lg.room Lg.ende; rw [hg]; rcases hk with rfl | rfl <;> simp <;> omega
 have hk1 : kmany b = 1 := by unfold kmany; omega
 unfold Lg.apE
 rw [if_neg (by omega), if_neg (by omega)]
 by_cases hc : hn = x.no ∧ hp = x.pl
 ·rw [if_neg (fun h => h hc), if_neg (by omega), if_neg (by rw [hk1]; omega), if_pos hc]
 ·rw [if_pos hc, if_neg hc]
theorem LgB.push {x : Lg} (h : LgB x) {r : Rc} (hr : r.b.length < 198) : LgB (x.push r) := ⟨h.base, h.p0, h.g, fun q hq => by
 rcases List.mem_append.1 hq with hq | hq
 ·exact h.one q hq
 ·cases List.mem_singleton.1 hq; unfold Rc.n kmany; omega⟩
inductive Ph (rs : List Pr) (T : Nat) (x : Lg) (tb : Tb) (z : Gp) : Prop
 | c0 (h : z.at_ = 0) (hp : ∃ e, tb.ent (leadOf rs) = some e ∧ e.tok = T)
 | c1 (h : z.at_ = 1) (hb : z.bytes = groupB rs) (hp : ∃ e, tb.ent (leadOf rs) = some e ∧ e.tok = T)
 | c2 (h : z.at_ = 2) (hn : 1 ≤ z.c.txn ∧ z.c.txn ≤ (x.no : Int)) (h0 : 0 ≤ z.place) (k : Nat) (hk : k < rs.tail.length) (hl : prs z.left = rs.tail.drop k) (hm : ∀ r ∈ rs.tail.take k, made tb rs z.c.txn z.place r) (hp : ∃ e, tb.ent (leadOf rs) = some e ∧ e.tok = T)
 | c3 (h : z.at_ = 3) (hn : 1 ≤ z.c.txn ∧ z.c.txn ≤ (x.no : Int)) (h0 : 0 ≤ z.place) (hm : ∀ r ∈ rs.tail, made tb rs z.c.txn z.place r) (hp : ∃ e, tb.ent (leadOf rs) = some e ∧ e.tok = T)
 | c4 (h : z.at_ = 4 ∨ z.at_ = 5) (hn : 1 ≤ z.c.txn ∧ z.c.txn ≤ (x.no : Int)) (hc : z.c.clear = pgs (rotL rs)) (hm : ∀ r ∈ rs, made tb rs z.c.txn z.place r)
 | c6 (h : z.at_ = 6 ∨ z.at_ = 7) (hn : 1 ≤ z.c.txn ∧ z.c.txn ≤ (x.no : Int)) (k : Nat) (hk : k < (rotL rs).length) (hc : z.c.clear = pgs ((rotL rs).drop k)) (hcl : ∀ r ∈ (rotL rs).take k, clrd tb z.c.txn z.place r) (hm : ∀ r ∈ (rotL rs).drop k, made tb rs z.c.txn z.place r) (he : z.at_ = 7 → tb.ent (z.c.clear.headD 0) = some z.c.ent)
 | c9 (h : z.at_ = 9) (hn : 1 ≤ z.c.txn ∧ z.c.txn ≤ (x.no : Int)) (he : z.c.e = 0) (hcl : ∀ r ∈ rs, clrd tb z.c.txn z.place r)
structure PhC (rs : List Pr) (T : Nat) (z : Gp) : Prop where
 pages : prs z.pages = rs
 tok : z.tok = T
 lf : ∀ y ∈ z.left, y ∈ z.pages
/-- Steps that are left, when it is stepped alone. -/
def Gp.mu (z : Gp) (n : Nat) (x : Lg) : Nat :=
 if z.at_ = 0 then 3 * n + 4 else if z.at_ = 1 then (if z.c.hn = x.no ∧ z.c.hp = x.pl then 3 * n + 3 else 3 * n + 5) else if z.at_ = 2 then z.left.length + 2 * n + 3 else if z.at_ = 3 then 2 * n + 3 else if z.at_ = 4 then 2 * n + 2
 else if z.at_ = 5 then (if z.c.hn = x.no ∧ z.c.hp = x.pl then 2 * n + 1 else 2 * n + 3) else if z.at_ = 6 then 2 * z.c.clear.length else if z.at_ = 7 then 2 * z.c.clear.length - 1 else 0
/-- Tokens that it has taken. -/
def Gp.W (z : Gp) (n : Nat) : Nat := if z.at_ ≤ 1 then 0 else if z.at_ = 2 then n - 1 - z.left.length else if z.at_ = 3 then n - 1 else if z.at_ ≤ 5 then n else if z.at_ ≤ 7 then 2 * n - z.c.clear.length else 2 * n
/-- Records that it has appended. -/
def Gp.V (z : Gp) : Nat := if z.at_ ≤ 1 then 0 else if z.at_ ≤ 5 then 1 else 2
structure Went (rs : List Pr) (T : Nat) (x : Lg) (tb : Tb) (z : Gp) (b : Bool) (z' : Gp) (x' : Lg) (tb' : Tb) : Prop where
 ph : Ph rs T x' tb' z'
 c : PhC rs T z'
 lg : LgB x'
 len : x'.rs.length + z.V = x.rs.length + z'.V
 no : x.no ≤ x'.no
 ent : ∀ k, k ∉ pgs rs → tb'.ent k = tb.ent k
 tok : tb'.tok + z.W rs.length ≤ tb.tok + z'.W rs.length
 b : b = true ↔ z'.at_ = 9
 txn : (z'.c.txn = z.c.txn ∧ z'.place = z.place ∧ (2 ≤ z'.at_ → 2 ≤ z.at_)) ∨ (z.at_ = 1 ∧ z'.c.txn = (x'.no : Int) ∧ z'.place = (x.pl : Int) ∧ x'.no = x.no + 1)
 mu : z.at_ = 9 ∨ z'.mu rs.length x' + 1 = z.mu rs.length x

section
variable {rs : List Pr} {T : Nat} {x : Lg} {tb : Tb} {z : Gp}
theorem Ph.i0 (hp : Ph rs T x tb z) (h : z.at_ = 0) : ∃ e, tb.ent (leadOf rs) = some e ∧ e.tok = T := by
 cases hp <;> first | assumption | (exfalso; omega)
theorem Ph.i1 (hp : Ph rs T x tb z) (h : z.at_ = 1) : z.bytes = groupB rs ∧ ∃ e, tb.ent (leadOf rs) = some e ∧ e.tok = T := by
 cases hp <;> first | exact ⟨by assumption, by assumption⟩ | (exfalso; omega)
theorem Ph.i2 (hp : Ph rs T x tb z) (h : z.at_ = 2) : (1 ≤ z.c.txn ∧ z.c.txn ≤ (x.no : Int)) ∧ 0 ≤ z.place ∧ (∃ k, k < rs.tail.length ∧ prs z.left = rs.tail.drop k ∧ ∀ r ∈ rs.tail.take k, made tb rs z.c.txn z.place r) ∧ ∃ e, tb.ent (leadOf rs) = some e ∧ e.tok = T := by
 cases hp with
 | c2 h1 hn h0 k hk hl hm hp => exact ⟨hn, h0, ⟨k, hk, hl, hm⟩, hp⟩
 | _ => exfalso; omega
theorem Ph.i3 (hp : Ph rs T x tb z) (h : z.at_ = 3) : (1 ≤ z.c.txn ∧ z.c.txn ≤ (x.no : Int)) ∧ 0 ≤ z.place ∧ (∀ r ∈ rs.tail, made tb rs z.c.txn z.place r) ∧ ∃ e, tb.ent (leadOf rs) = some e ∧ e.tok = T := by
 cases hp with
 | c3 h1 hn h0 hm hp => exact ⟨hn, h0, hm, hp⟩
 | _ => exfalso; omega
theorem Ph.i4 (hp : Ph rs T x tb z) (h : z.at_ = 4 ∨ z.at_ = 5) : (1 ≤ z.c.txn ∧ z.c.txn ≤ (x.no : Int)) ∧ z.c.clear = pgs (rotL rs) ∧ ∀ r ∈ rs, made tb rs z.c.txn z.place r := by
 cases hp with
 | c4 h1 hn hc hm => exact ⟨hn, hc, hm⟩
 | _ => exfalso; omega
theorem Ph.i6 (hp : Ph rs T x tb z) (h : z.at_ = 6 ∨ z.at_ = 7) : (1 ≤ z.c.txn ∧ z.c.txn ≤ (x.no : Int)) ∧ ∃ k, ∃ hk : k < (rotL rs).length, z.c.clear = pgs ((rotL rs).drop k) ∧ (∀ r ∈ (rotL rs).take k, clrd tb z.c.txn z.place r) ∧ (∀ r ∈ (rotL rs).drop k, made tb rs z.c.txn z.place r) ∧ (z.at_ = 7 → tb.ent (z.c.clear.headD 0) = some z.c.ent) := by
 cases hp with
 | c6 h1 hn k hk hc hcl hm he => exact ⟨hn, k, hk, hc, hcl, hm, he⟩
 | _ => exfalso; omega
theorem Ph.i9 (hp : Ph rs T x tb z) (h : 8 ≤ z.at_) : z.at_ = 9 ∧ (1 ≤ z.c.txn ∧ z.c.txn ≤ (x.no : Int)) ∧ z.c.e = 0 ∧ ∀ r ∈ rs, clrd tb z.c.txn z.place r := by
 cases hp with
 | c9 h1 hn he hcl => exact ⟨h1, hn, he, hcl⟩
 | _ => exfalso; omega
theorem Ph.i0p (hp : Ph rs T x tb z) : z.at_ ≤ 9 := by
 cases hp <;> omega
/-- Others don't touch its pages. -/
theorem Ph.stay {x' : Lg} {tb' : Tb} (hp : Ph rs T x tb z) (wf : Wf rs) (hx : x.no ≤ x'.no) (he : ∀ r ∈ rs, tb'.ent r.page = tb.ent r.page) : Ph rs T x' tb' z := by
 have hd : hdP rs ∈ rs := by rw [hdP_cons wf.pos]; exact List.mem_cons_self
 have hld : tb'.ent (leadOf rs) = tb.ent (leadOf rs) := he _ hd
 have hrt : ∀ r, r ∈ rs.tail → tb'.ent r.page = tb.ent r.page := fun r hr => he r (List.mem_of_mem_tail hr)
 have hrr : ∀ r, r ∈ rotL rs → tb'.ent r.page = tb.ent r.page := fun r hr => he r ((rotL_mem wf.pos r).1 hr)
 cases hp with
 | c0 h hp => exact .c0 h (by rw [hld]; exact hp)
 | c1 h hb hp => exact .c1 h hb (by rw [hld]; exact hp)
 | c2 h hn h0 k hk hl hm hp => exact .c2 h ⟨hn.1, by omega⟩ h0 k hk hl (fun r hr => (hm r hr).of (hrt r (List.mem_of_mem_take hr))) (by rw [hld]; exact hp)
 | c3 h hn h0 hm hp => exact .c3 h ⟨hn.1, by omega⟩ h0 (fun r hr => (hm r hr).of (hrt r hr)) (by rw [hld]; exact hp)
 | c4 h hn hc hm => exact .c4 h ⟨hn.1, by omega⟩ hc (fun r hr => (hm r hr).of (he r hr))
 | c6 h hn k hk hc hcl hm h7 =>
  refine .c6 h ⟨hn.1, by omega⟩ k hk hc (fun r hr => (hcl r hr).of (hrr r (List.mem_of_mem_take hr))) (fun r hr => (hm r hr).of (hrr r (List.mem_of_mem_drop hr))) (fun h8 => ?_)
  have e : z.c.clear.headD 0 = ((rotL rs)[k]'hk).page := by rw [hc, List.drop_eq_getElem_cons hk]; rfl
  rw [e, hrr _ (List.getElem_mem hk), ← e]; exact h7 h8
 | c9 h hn h0 hcl => exact .c9 h ⟨hn.1, by omega⟩ h0 (fun r hr => (hcl r hr).of (he r hr))
theorem those_t {l : List (Pr × Value)} (h : ∀ r ∈ prs l, 0 < r.nodes.length) (k : Nat) : thoseL l k true = l.drop k := by
 unfold thoseL
 rw [List.filter_eq_self]
 intro y hy
 have := h y.1 (List.mem_map_of_mem (List.mem_of_mem_drop hy))
 rw [decide_eq_true this]; rfl
theorem those_f {l : List (Pr × Value)} (h : ∀ r ∈ prs l, 0 < r.nodes.length) (k : Nat) : thoseL l k false = [] := by
 unfold thoseL
 rw [List.filter_eq_nil_iff]
 intro y hy
 have := h y.1 (List.mem_map_of_mem (List.mem_of_mem_drop hy))
 rw [decide_eq_true this]; decide
theorem encE_wf (wf : Wf rs) : encE rs = 0 := by
 unfold encE
 rw [if_pos wf.may, if_neg (by have := wf.sz; omega)]
theorem lead_becE {pages : List (Pr × Value)} (txn place : Int) (r : Pr) : (becE pages txn place r).lead = leadOf (prs pages) := by
 cases pages <;> rfl
theorem becE_may (wf : Wf rs) {pages : List (Pr × Value)} (hpg : prs pages = rs) {r : Pr} (hr : r ∈ rs) {txn place : Int} (ht : 1 ≤ txn) (hpl : 0 ≤ place) : (becE pages txn place r).mayP := by
 have hl := lead_becE (pages := pages) txn place r
 rw [hpg] at hl
 have hld := wf.lead
 have hch := (wf.at_ hr).2.2.2
 refine ⟨wf.n64 hr, ?_, ?_, by rw [hl]; exact hld.2, by show 0 < 8; decide, fun w hw => (by cases hw), fun i y hi hy => ?_⟩
 ·rw [hl]; show 0 ≤ min (min (min (min (min place txn) place) txn) (leadOf rs)) (r.nodes.length : Int); omega
 ·exact Int.le_refl _
 ·have hi2 : i + 1 < r.nodes.length := hi
  have hc := hch.2.2 i (by omega)
  have hy2 : r.nodes[i]? = some y := hy
  rw [List.getElem?_eq_getElem (by omega)] at hy2
  cases hy2
  rw [hc, decide_eq_false (show ¬ i + 1 = r.nodes.length by omega), Bool.and_false]
theorem otherP_wf (wf : Wf rs) {pages : List (Pr × Value)} (hpg : prs pages = rs) : otherP pages = pgs rs.tail := by
 unfold otherP
 rw [those_t (by rw [hpg]; exact wf.nn), ← hpg, ← prs_tail, List.drop_one]
 simp [prs, pgs]; rfl
theorem p0_wf {rs : List Pr} {z : Gp} (hpg : prs z.pages = rs) : z.p0 = hdP rs := by rw [← hpg]; exact headPr_prs _
theorem rotL_pgs (rs : List Pr) : pgs (rotL rs) = pgs rs.tail ++ [(hdP rs).page] := by simp [rotL, pgs]
theorem firstE_may (wf : Wf rs) (hpg : prs z.pages = rs) (ht : 1 ≤ z.c.txn) (hpl : 0 ≤ z.place) : z.firstE.mayP := by
 have hd : hdP rs ∈ rs := by rw [hdP_cons wf.pos]; exact List.mem_cons_self
 have hm : z.p0 ∈ rs := by rw [p0_wf hpg]; exact hd
 obtain ⟨m1, m2, m3, m4, m5, m6, m7⟩ := becE_may wf hpg hm ht hpl
 have hlen := wf.may.2.1
 have hpos := wf.pos
 refine ⟨m1, m2, m3, m4, ?_, fun w hw => ?_, m7⟩
 ·show (otherP z.pages).length < 8
  rw [otherP_wf wf hpg]; unfold pgs; rw [List.length_map, List.length_tail]; omega
 ·change w ∈ otherP z.pages at hw
  rw [otherP_wf wf hpg] at hw
  obtain ⟨r, hr, rfl⟩ := List.mem_map.1 hw
  exact (wf.at_ (List.mem_of_mem_tail hr)).1
theorem Mk.clr {r : Pr} {no pl : Int} {e : Ent} (h : Mk r no pl e) : e.clr.mayP ∧ e.clr.nodes = r.nodes ∧ e.clr.no = no ∧ e.clr.place = pl := by
 obtain ⟨⟨m1, m2, m3, m4, m5, m6, m7⟩, h2, h3, h4⟩ := h
 refine ⟨⟨m1, ?_, m3, by show (0 : Int) ≤ 512; decide, by show 0 < 8; decide, fun w hw => (by cases hw), m7⟩, h2, h3, h4⟩
 show 0 ≤ min (min (min (min (min e.place e.no) e.low) 0) 0) e.kept
 omega
theorem mayP.tok {e : Ent} (h : e.mayP) (n : Nat) : Ent.mayP { e with tok := n } := ⟨h.m1, h.m2, h.m3, h.m4, h.m5, h.m6, h.m7⟩
end

section
variable {rs : List Pr} {T : Nat} {x : Lg} {tb : Tb} {z : Gp}
theorem pgs_mem {l : List Pr} {r : Pr} (h : r ∈ l) : r.page ∈ pgs l := List.mem_map_of_mem h
theorem hd_mem (wf : Wf rs) : hdP rs ∈ rs := by rw [hdP_cons wf.pos]; exact List.mem_cons_self
theorem tail_mem {r : Pr} (h : r ∈ rs.tail) : r ∈ rs := List.mem_of_mem_tail h
theorem tail_ne (wf : Wf rs) {r : Pr} (h : r ∈ rs.tail) : r.page ≠ leadOf rs := by
 have hn := wf.nd
 rw [hdP_cons wf.pos] at hn
 exact (nd_mid (A := []) hn).2 r h
theorem went0 (wf : Wf rs) (hc : PhC rs T z) (hl : LgB x) (hp : Ph rs T x tb z) (h : z.at_ = 0) : Went rs T x tb z (z.begins x).1 (z.begins x).2 x tb := by
 have e : z.begins x = (false, ((z.setB (groupB rs)).setC { z.c with hn := x.no, hp := x.pl }).go 1) := by unfold Gp.begins; rw [hc.pages, encE_wf wf]; rfl
 rw [e]
 refine ⟨.c1 rfl rfl (hp.i0 h), ⟨hc.pages, hc.tok, hc.lf⟩, hl, ?_, Nat.le_refl _, fun _ _ => rfl, ?_, ?_, .inl ⟨rfl, rfl, ?_⟩, .inr ?_⟩
 ·simp [Gp.V, Gp.go, Gp.setC, Gp.setB, h]
 ·simp [Gp.W, Gp.go, Gp.setC, Gp.setB, h]
 ·simp [Gp.go]
 ·simp [Gp.go]
 ·simp [Gp.mu, Gp.go, Gp.setC, Gp.setB, h]
theorem went1 (wf : Wf rs) (hc : PhC rs T z) (hl : LgB x) (hm : x.rs.length < 58) (hp : Ph rs T x tb z) (h : z.at_ = 1) {e : Int} {x2 : Lg} (he : e = x.apE z.c.hn z.c.hp 3 z.bytes) (ha : ApK x 3 z.bytes e x2) : Went rs T x tb z (z.appends e x2.no).1 (z.appends e x2.no).2 x2 tb := by
 obtain ⟨hb, hpt⟩ := hp.i1 h
 have hbl : z.bytes.length < 198 := by rw [hb]; exact wf.sz
 rw [hl.apE (by omega) hbl (.inl rfl)] at he
 have hth : thoseL z.pages 1 true = z.pages.drop 1 := those_t (by rw [hc.pages]; exact wf.nn) 1
 have hpl : (prs (z.pages.drop 1)) = rs.tail := by rw [prs_drop, hc.pages, List.drop_one]
 have htl : rs.tail.length = rs.length - 1 := List.length_tail
 have hpos := wf.pos
 by_cases hcur : z.c.hn = x.no ∧ z.c.hp = x.pl
 ·rw [if_pos hcur] at he
  subst he
  obtain ⟨_, r, hk, hrb, rfl⟩ := ha.resolve_left (fun q => q.1 rfl)
  have hno := x.no_push r
  have hlen : (x.push r).rs.length = x.rs.length + 1 := by simp [Lg.push]
  have hlg := hl.push (r := r) (by rw [hrb]; exact hbl)
  have e1 := hl.no
  by_cases ht : rs.tail = []
  ·have e0 : thoseL z.pages 1 true = [] := by rw [hth]; exact prs_nil (by rw [hpl, ht])
   have e : z.appends 0 (x.push r).no = (false, (z.appd (x.push r).no).go 3) := (if_pos rfl).trans (if_pos e0)
   rw [e]
   refine ⟨.c3 rfl ⟨?_, ?_⟩ ?_ (fun r hr => ?_) hpt, ⟨hc.pages, hc.tok, fun y hy => ?_⟩, hlg, ?_, by omega, fun _ _ => rfl, ?_, ?_, .inr ⟨h, rfl, congrArg Nat.cast hcur.2, hno⟩, .inr ?_⟩
   ·show (1 : Int) ≤ ((x.push r).no : Int); omega
   ·exact Int.le_refl _
   ·show (0 : Int) ≤ (z.c.hp : Int); omega
   ·rw [ht] at hr; cases hr
   ·exact those_mem y hy
   ·simp [Gp.V, Gp.go, h, hlen]
   ·simp [Gp.W, Gp.go, Gp.appd, h]
   ·simp [Gp.go]
   ·simp [Gp.mu, Gp.go, Gp.appd, h, hcur]
    have : rs.length = 1 := by have := congrArg List.length ht; rw [htl] at this; simp at this; omega
    omega
  ·have e0 : ¬ thoseL z.pages 1 true = [] := fun q => ht (by rw [← hpl, ← hth, q]; rfl)
   have e : z.appends 0 (x.push r).no = (false, (z.appd (x.push r).no).go 2) := (if_pos rfl).trans (if_neg e0)
   have hpos2 : 0 < rs.tail.length := List.length_pos_iff.2 ht
   have hll : (thoseL z.pages 1 true).length = rs.length - 1 := by rw [hth, ← htl, ← hpl, prs_len]
   rw [e]
   refine ⟨.c2 rfl ⟨?_, ?_⟩ ?_ 0 hpos2 (by show prs (thoseL z.pages 1 true) = _; rw [hth, hpl]; rfl) (fun r hr => ?_) hpt, ⟨hc.pages, hc.tok, fun y hy => ?_⟩, hlg, ?_, by omega, fun _ _ => rfl, ?_, ?_, .inr ⟨h, rfl, congrArg Nat.cast hcur.2, hno⟩, .inr ?_⟩
   ·show (1 : Int) ≤ ((x.push r).no : Int); omega
   ·exact Int.le_refl _
   ·show (0 : Int) ≤ (z.c.hp : Int); omega
   ·cases hr
   ·exact those_mem y hy
   ·simp [Gp.V, Gp.go, h, hlen]
   ·simp [Gp.W, Gp.go, Gp.appd, h]
   ·simp [Gp.go]
   ·simp [Gp.mu, Gp.go, Gp.appd, h, hcur]
    omega
 ·rw [if_neg hcur] at he
  subst he
  obtain ⟨_, rfl⟩ := ha.resolve_right (fun q => by cases q.1)
  have e : z.appends 5 x2.no = (false, z.go 0) := (if_neg (by decide)).trans (if_pos rfl)
  rw [e]
  refine ⟨.c0 rfl hpt, ⟨hc.pages, hc.tok, hc.lf⟩, hl, ?_, Nat.le_refl _, fun _ _ => rfl, ?_, ?_, .inl ⟨rfl, rfl, ?_⟩, .inr ?_⟩
  ·simp [Gp.V, Gp.go, h]
  ·simp [Gp.W, Gp.go, h]
  ·simp [Gp.go]
  ·simp [Gp.go]
  ·simp [Gp.mu, Gp.go, h, hcur]
theorem went4 (wf : Wf rs) (hc : PhC rs T z) (hl : LgB x) (hp : Ph rs T x tb z) (h : z.at_ = 4) : Went rs T x tb z false ((z.setC { z.c with hn := x.no, hp := x.pl }).go 5) x tb := by
 obtain ⟨hn, hcl, hm⟩ := hp.i4 (.inl h)
 refine ⟨.c4 (.inr rfl) hn hcl hm, ⟨hc.pages, hc.tok, hc.lf⟩, hl, ?_, Nat.le_refl _, fun _ _ => rfl, ?_, ?_, .inl ⟨rfl, rfl, ?_⟩, .inr ?_⟩
 ·simp [Gp.V, Gp.go, Gp.setC, h]
 ·simp [Gp.W, Gp.go, Gp.setC, h]
 ·simp [Gp.go]
 ·omega
 ·simp [Gp.mu, Gp.go, Gp.setC, h]
theorem went5 (wf : Wf rs) (hc : PhC rs T z) (hl : LgB x) (hm : x.rs.length < 58) (hp : Ph rs T x tb z) (h : z.at_ = 5) {e : Int} {x2 : Lg} (he : e = x.apE z.c.hn z.c.hp 4 (numB z.c.txn.toNat)) (ha : ApK x 4 (numB z.c.txn.toNat) e x2) : Went rs T x tb z (z.commits e).1 (z.commits e).2 x2 tb := by
 obtain ⟨hn, hcl, hmd⟩ := hp.i4 (.inr h)
 have e1 := hl.no
 have hbl : (numB z.c.txn.toNat).length < 198 := by have := numB_10 (n := z.c.txn.toNat) (by omega); omega
 rw [hl.apE (by omega) hbl (.inr rfl)] at he
 have hrl := rotL_len wf.pos
 have hpos := wf.pos
 by_cases hcur : z.c.hn = x.no ∧ z.c.hp = x.pl
 ·rw [if_pos hcur] at he
  subst he
  obtain ⟨_, r, hk, hrb, rfl⟩ := ha.resolve_left (fun q => q.1 rfl)
  have hno := x.no_push r
  have hlen : (x.push r).rs.length = x.rs.length + 1 := by simp [Lg.push]
  have hlg := hl.push (r := r) (by rw [hrb]; exact hbl)
  have e : z.commits 0 = (false, z.go 6) := if_pos rfl
  have hcll : z.c.clear.length = rs.length := by rw [hcl]; unfold pgs; rw [List.length_map, hrl]
  rw [e]
  refine ⟨.c6 (.inl rfl) ⟨hn.1, ?_⟩ 0 (by omega) hcl (fun r hr => ?_) (fun r hr => hmd r ((rotL_mem wf.pos r).1 hr)) (fun q => ?_), ⟨hc.pages, hc.tok, hc.lf⟩, hlg, ?_, by omega, fun _ _ => rfl, ?_, ?_, .inl ⟨rfl, rfl, by omega⟩, .inr ?_⟩
  ·have := hn.2; show z.c.txn ≤ ((x.push r).no : Int); omega
  ·cases hr
  ·cases q
  ·simp [Gp.V, Gp.go, h, hlen]
  ·simp [Gp.W, Gp.go, h, hcll]; omega
  ·simp [Gp.go]
  ·simp [Gp.mu, Gp.go, h, hcur, hcll]
 ·rw [if_neg hcur] at he
  subst he
  obtain ⟨_, rfl⟩ := ha.resolve_right (fun q => by cases q.1)
  have e : z.commits 5 = (false, z.go 4) := (if_neg (by decide)).trans (if_pos rfl)
  rw [e]
  refine ⟨.c4 (.inl rfl) hn hcl hmd, ⟨hc.pages, hc.tok, hc.lf⟩, hl, ?_, Nat.le_refl _, fun _ _ => rfl, ?_, ?_, .inl ⟨rfl, rfl, by omega⟩, .inr ?_⟩
  ·simp [Gp.V, Gp.go, h]
  ·simp [Gp.W, Gp.go, h]
  ·simp [Gp.go]
  ·simp [Gp.mu, Gp.go, h, hcur]
theorem went9 (hc : PhC rs T z) (hl : LgB x) (hp : Ph rs T x tb z) (h : 9 ≤ z.at_) : Went rs T x tb z true z x tb := by
 obtain ⟨h9, _⟩ := hp.i9 (by omega)
 exact ⟨hp, hc, hl, rfl, Nat.le_refl _, fun _ _ => rfl, Nat.le_refl _, ⟨fun _ => h9, fun _ => rfl⟩, .inl ⟨rfl, rfl, fun q => q⟩, .inl h9⟩
end

section
variable {rs : List Pr} {T : Nat} {x : Lg} {tb : Tb} {z : Gp}
theorem tail_nd (wf : Wf rs) : (pgs rs.tail).Nodup := by
 have hn := wf.nd
 rw [hdP_cons wf.pos] at hn
 exact (List.nodup_cons.1 hn).2
theorem went2 (wf : Wf rs) (hc : PhC rs T z) (hl : LgB x) (hp : Ph rs T x tb z) (h : z.at_ = 2) (h0 : 0 < z.left.length) {r : Int} {tb2 : Tb} (hpr : PutR tb (z.left[0]'h0).1.page (becE z.pages z.c.txn z.place (z.left[0]'h0).1) r tb2) : Went rs T x tb z (z.puts r).1 (z.puts r).2 x tb2 := by
 obtain ⟨hn, hpl, ⟨k, hk, hlf, hmd⟩, hpt⟩ := hp.i2 h
 obtain ⟨q, hq⟩ : ∃ q, q = rs.tail[k] := ⟨_, rfl⟩
 have hqm : q ∈ rs.tail := by rw [hq]; exact List.getElem_mem _
 have hL : (z.left[0]'h0).1 = q := by
  have h1 : (prs z.left)[0]? = some q := by rw [hlf, List.drop_eq_getElem_cons hk, hq]; rfl
  rw [List.getElem?_eq_getElem (by rw [prs_len]; exact h0), prs_at h0] at h1
  exact Option.some.inj h1
 have htl : prs z.left.tail = rs.tail.drop (k + 1) := by rw [prs_tail, hlf, List.tail_drop]
 have hll : z.left.length = rs.tail.length - k := by rw [← prs_len, hlf, List.length_drop]
 have hlt : z.left.tail.length = rs.tail.length - (k + 1) := by rw [← prs_len, htl, List.length_drop]
 have hln : rs.tail.length = rs.length - 1 := List.length_tail
 rw [hL] at hpr
 rcases hpr with ⟨hbad, _⟩ | ⟨_, rfl, hu⟩
 ·exact absurd ⟨(wf.at_ (tail_mem hqm)).1.1, (wf.at_ (tail_mem hqm)).1.2, becE_may wf hc.pages (tail_mem hqm) hn.1 hpl⟩ hbad
 ·have hent := hu.ent
  have hnd : (pgs (rs.tail.take k ++ q :: rs.tail.drop (k + 1))).Nodup := by rw [hq, ← split_at hk]; exact tail_nd wf
  have hne := (nd_mid hnd).1
  have hlb := lead_becE (pages := z.pages) z.c.txn z.place q
  rw [hc.pages] at hlb
  have hpt2 : ∃ e, tb2.ent (leadOf rs) = some e ∧ e.tok = T := by rw [hent, if_neg (fun e => tail_ne wf hqm e.symm)]; exact hpt
  have hnew : ∀ r ∈ rs.tail.take (k + 1), made tb2 rs z.c.txn z.place r := by
   intro r hr
   rw [List.take_succ_eq_append_getElem hk, ← hq] at hr
   rcases List.mem_append.1 hr with hr | hr
   ·exact (hmd r hr).of (by rw [hent, if_neg (hne r hr)])
   ·cases List.mem_singleton.1 hr
    exact ⟨_, (hent _).trans (if_pos rfl), ⟨mayP.tok (becE_may wf hc.pages (tail_mem hqm) hn.1 hpl) _, rfl, rfl, rfl⟩, rfl, hlb, fun e => absurd e (tail_ne wf hqm)⟩
  have hke : ∀ j, j ∉ pgs rs → tb2.ent j = tb.ent j := fun j hj => by rw [hent, if_neg (fun e => hj (by rw [e]; exact pgs_mem (tail_mem hqm)))]
  have htk := hu.tok
  by_cases ht : z.left.tail = []
  ·have e : z.puts 0 = (false, (z.setL []).go 3) := (if_pos rfl).trans (if_pos ht)
   have hk1 : k + 1 = rs.tail.length := by rw [ht] at hlt; simp at hlt; omega
   rw [e]
   refine ⟨.c3 rfl hn hpl (fun r hr => hnew r (by rw [hk1, List.take_length]; exact hr)) hpt2, ⟨hc.pages, hc.tok, fun y hy => (by cases hy)⟩, hl, ?_, Nat.le_refl _, hke, ?_, ?_, .inl ⟨rfl, rfl, fun _ => by omega⟩, .inr ?_⟩
   ·simp [Gp.V, Gp.go, Gp.setL, h]
   ·simp [Gp.W, Gp.go, Gp.setL, h]; omega
   ·simp [Gp.go]
   ·simp [Gp.mu, Gp.go, Gp.setL, h]; omega
  ·have e : z.puts 0 = (false, z.setL z.left.tail) := (if_pos rfl).trans (if_neg ht)
   have hk1 : k + 1 < rs.tail.length := by have := List.length_pos_iff.2 ht; omega
   rw [e]
   refine ⟨.c2 h hn hpl (k + 1) hk1 htl hnew hpt2, ⟨hc.pages, hc.tok, fun y hy => hc.lf y (List.mem_of_mem_tail hy)⟩, hl, ?_, Nat.le_refl _, hke, ?_, ?_, .inl ⟨rfl, rfl, fun _ => by omega⟩, .inr ?_⟩
   ·simp [Gp.V, Gp.setL, h]
   ·simp only [Gp.W, Gp.setL, h]; simp; omega
   ·simp [Gp.setL, h]
   ·simp [Gp.mu, Gp.setL, h]; omega
theorem went3 (wf : Wf rs) (hc : PhC rs T z) (hl : LgB x) (hp : Ph rs T x tb z) (h : z.at_ = 3) {r : Int} {tb2 : Tb} (hs : SwR tb z.p0.page z.tok z.firstE r tb2) : Went rs T x tb z (z.swaps r).1 (z.swaps r).2 x tb2 := by
 obtain ⟨hn, hpl, hmd, ⟨e1, he1, htk⟩⟩ := hp.i3 h
 have hp0 : z.p0 = hdP rs := p0_wf hc.pages
 have hfm := firstE_may wf hc.pages hn.1 hpl
 have hld : z.p0.page = leadOf rs := by rw [hp0]; rfl
 have hoth := otherP_wf wf hc.pages
 rw [hld] at hs
 rcases hs with ⟨h1, _⟩ | ⟨e0, h1, ⟨h2, _⟩ | ⟨h2, h3, _⟩ | ⟨h2, h3, rfl, hu⟩⟩
 ·rw [Tb.ent_none h1] at he1; cases he1
 ·exact absurd hfm h2
 ·rw [Tb.ent_some h1] at he1; cases he1; exact absurd (htk.trans hc.tok.symm) h3
 ·have hent := hu.ent
  have e : z.swaps 0 = (false, (z.setC { z.c with clear := otherP z.pages ++ [z.p0.page] }).go 4) := if_pos rfl
  have htk2 := hu.tok
  have hln : rs.tail.length = rs.length - 1 := List.length_tail
  have hpos := wf.pos
  rw [e]
  refine ⟨.c4 (.inl rfl) hn ?_ (fun r hr => ?_), ⟨hc.pages, hc.tok, hc.lf⟩, hl, ?_, Nat.le_refl _, fun j hj => ?_, ?_, ?_, .inl ⟨rfl, rfl, fun _ => by omega⟩, .inr ?_⟩
  ·show otherP z.pages ++ [z.p0.page] = _
   rw [hoth, hp0, rotL_pgs]
  ·rw [hdP_cons wf.pos] at hr
   rcases List.mem_cons.1 hr with rfl | hr
   ·refine ⟨_, (hent (leadOf rs)).trans (if_pos rfl), ⟨mayP.tok hfm _, ?_, rfl, rfl⟩, rfl, ?_, fun _ => hoth⟩
    ·show z.p0.nodes = _; rw [hp0]
    ·have := lead_becE (pages := z.pages) z.c.txn z.place z.p0
     rw [hc.pages] at this; exact this
   ·exact (hmd r hr).of (by rw [hent, if_neg (tail_ne wf hr)])
  ·simp [Gp.V, Gp.go, Gp.setC, h]
  ·rw [hent, if_neg (fun e => hj (by rw [e]; exact pgs_mem (hd_mem wf)))]
  ·simp [Gp.W, Gp.go, Gp.setC, h]; omega
  ·simp [Gp.go]
  ·simp [Gp.mu, Gp.go, Gp.setC, h]
theorem clear_hd {k : Nat} (hk : k < (rotL rs).length) (hcl : z.c.clear = pgs ((rotL rs).drop k)) : z.c.clear.headD 0 = ((rotL rs)[k]).page ∧ z.c.clear.tail = pgs ((rotL rs).drop (k + 1)) ∧ z.c.clear.length = (rotL rs).length - k := by
 refine ⟨by rw [hcl, List.drop_eq_getElem_cons hk]; rfl, by rw [hcl, List.drop_eq_getElem_cons hk]; rfl, by rw [hcl]; unfold pgs; rw [List.length_map, List.length_drop]⟩
theorem went6 (wf : Wf rs) (hc : PhC rs T z) (hl : LgB x) (hp : Ph rs T x tb z) (h : z.at_ = 6) : Went rs T x tb z (z.looks tb).1 (z.looks tb).2 x tb := by
 obtain ⟨hn, k, hk, hcl, hcd, hmd, _⟩ := hp.i6 (.inl h)
 obtain ⟨h1, h2, h3⟩ := clear_hd hk hcl
 obtain ⟨e1, he1, hm1, ht1, _⟩ := hmd ((rotL rs)[k]) (by rw [List.drop_eq_getElem_cons hk]; exact List.mem_cons_self)
 have e : z.looks tb = (false, (z.setC { z.c with ent := e1 }).go 7) := by
  unfold Gp.looks
  rw [h1]
  cases hg : tb.get ((rotL rs)[k]).page with
  | none => rw [Tb.ent_none hg] at he1; cases he1
  | some e0 => rw [Tb.ent_some hg] at he1; cases he1; exact if_neg (fun q => q ht1)
 have hrl := rotL_len wf.pos
 rw [e]
 refine ⟨.c6 (.inr rfl) hn k hk hcl hcd hmd (fun _ => ?_), ⟨hc.pages, hc.tok, hc.lf⟩, hl, ?_, Nat.le_refl _, fun _ _ => rfl, ?_, ?_, .inl ⟨rfl, rfl, fun _ => by omega⟩, .inr ?_⟩
 ·show tb.ent (z.c.clear.headD 0) = some e1; rw [h1]; exact he1
 ·simp [Gp.V, Gp.go, Gp.setC, h]
 ·simp [Gp.W, Gp.go, Gp.setC, h]
 ·simp [Gp.go]
 ·simp [Gp.mu, Gp.go, Gp.setC, h]; omega
theorem went7 (wf : Wf rs) (hc : PhC rs T z) (hl : LgB x) (hp : Ph rs T x tb z) (h : z.at_ = 7) (h0 : 0 < z.c.clear.length) {r : Int} {tb2 : Tb} (hs : SwR tb (z.c.clear[0]'h0) z.c.ent.tok z.c.ent.clr r tb2) : Went rs T x tb z (z.clears r).1 (z.clears r).2 x tb2 := by
 obtain ⟨hn, k, hk, hcl, hcd, hmd, he⟩ := hp.i6 (.inr h)
 obtain ⟨h1, h2, h3⟩ := clear_hd hk hcl
 obtain ⟨q, hq⟩ : ∃ q, q = (rotL rs)[k] := ⟨_, rfl⟩
 have hqm : q ∈ rs := by rw [hq]; exact (rotL_mem wf.pos _).1 (List.getElem_mem _)
 rw [← hq] at h1
 have he := he h
 rw [h1] at he
 rw [← headD_0 h0, h1] at hs
 obtain ⟨e1, he1, hm1, _⟩ := hmd q (by rw [List.drop_eq_getElem_cons hk, ← hq]; exact List.mem_cons_self)
 rw [he] at he1
 obtain rfl := Option.some.inj he1
 obtain ⟨hmay, hnod, hno, hplc⟩ := hm1.clr
 have hrl := rotL_len wf.pos
 rcases hs with ⟨g1, _⟩ | ⟨e0, g1, ⟨g2, _⟩ | ⟨g2, g3, _⟩ | ⟨g2, g3, rfl, hu⟩⟩
 ·rw [Tb.ent_none g1] at he; cases he
 ·exact absurd hmay g2
 ·rw [Tb.ent_some g1] at he; exact absurd (congrArg Ent.tok (Option.some.inj he)) g3
 ·have hent := hu.ent
  have htk2 := hu.tok
  have hnd : (pgs ((rotL rs).take k ++ q :: (rotL rs).drop (k + 1))).Nodup := by rw [hq, ← split_at hk]; exact rotL_nd wf.pos wf.nd
  obtain ⟨hne1, hne2⟩ := nd_mid hnd
  have hcd2 : ∀ r ∈ (rotL rs).take (k + 1), clrd tb2 z.c.txn z.place r := by
   intro r hr
   rw [List.take_succ_eq_append_getElem hk, ← hq] at hr
   rcases List.mem_append.1 hr with hr | hr
   ·exact (hcd r hr).of (by rw [hent, if_neg (hne1 r hr)])
   ·cases List.mem_singleton.1 hr
    exact ⟨_, (hent _).trans (if_pos rfl), ⟨mayP.tok hmay _, hnod, hno, hplc⟩, rfl⟩
  have hmd2 : ∀ r ∈ (rotL rs).drop (k + 1), made tb2 rs z.c.txn z.place r := fun r hr => (hmd r (by rw [List.drop_eq_getElem_cons hk]; exact List.mem_cons_of_mem _ hr)).of (by rw [hent, if_neg (hne2 r hr)])
  have hke : ∀ j, j ∉ pgs rs → tb2.ent j = tb.ent j := fun j hj => by rw [hent, if_neg (fun e => hj (by rw [e]; exact pgs_mem hqm))]
  have ec : z.clears 0 = z.past := if_neg (by decide)
  have htll : z.c.clear.tail.length = z.c.clear.length - 1 := List.length_tail
  by_cases ht : z.c.clear.tail = []
  ·have hth : thoseL z.pages 0 false = [] := those_f (by rw [hc.pages]; exact wf.nn) 0
   have e : z.past = (true, ((z.setC { z.c with clear := [] }).setL []).fin 0) := (if_pos ht).trans (if_pos hth)
   have hk1 : k + 1 = (rotL rs).length := by rw [ht] at htll; simp at htll; omega
   rw [ec, e]
   refine ⟨.c9 rfl hn rfl (fun r hr => hcd2 r (by rw [hk1, List.take_length]; exact (rotL_mem wf.pos r).2 hr)), ⟨hc.pages, hc.tok, fun y hy => (by cases hy)⟩, hl, ?_, Nat.le_refl _, hke, ?_, ?_, .inl ⟨rfl, rfl, fun _ => by omega⟩, .inr ?_⟩
   ·simp [Gp.V, Gp.fin, Gp.setL, Gp.setC, h]
   ·simp [Gp.W, Gp.fin, Gp.setL, Gp.setC, h]; omega
   ·simp [Gp.fin]
   ·simp [Gp.mu, Gp.fin, Gp.setL, Gp.setC, h]; omega
  ·have e : z.past = (false, (z.setC { z.c with clear := z.c.clear.tail }).go 6) := if_neg ht
   have hk1 : k + 1 < (rotL rs).length := by have := List.length_pos_iff.2 ht; omega
   rw [ec, e]
   refine ⟨.c6 (.inl rfl) hn (k + 1) hk1 h2 hcd2 hmd2 (fun q => by cases q), ⟨hc.pages, hc.tok, hc.lf⟩, hl, ?_, Nat.le_refl _, hke, ?_, ?_, .inl ⟨rfl, rfl, fun _ => by omega⟩, .inr ?_⟩
   ·simp [Gp.V, Gp.go, Gp.setC, h]
   ·simp [Gp.W, Gp.go, Gp.setC, h]; omega
   ·simp [Gp.go]
   ·simp [Gp.mu, Gp.go, Gp.setC, h]; omega
/-- What a step does to a group that nobody else hinders. -/
theorem Stp.went (wf : Wf rs) (hc : PhC rs T z) (hl : LgB x) (hm : x.rs.length < 58) (hp : Ph rs T x tb z) {b : Bool} {z' : Gp} {x' : Lg} {tb' : Tb} (hs : Stp x tb z b z' x' tb') : Went rs T x tb z b z' x' tb' := by
 cases hs with
 | begin h => exact went0 wf hc hl hp h
 | append h he ha => exact went1 wf hc hl hm hp h he ha
 | put h h0 hq => exact went2 wf hc hl hp h h0 hq
 | swap h hq => exact went3 wf hc hl hp h hq
 | take h => exact went4 wf hc hl hp h
 | commit h he ha => exact went5 wf hc hl hm hp h he ha
 | look h => exact went6 wf hc hl hp h
 | clear h h0 hq => exact went7 wf hc hl hp h h0 hq
 | free h h0 hq => obtain ⟨h9, _⟩ := hp.i9 (by omega); omega
 | nil h => exact went9 hc hl hp h
theorem Gp.sz_of {z : Gp} (wf : Wf (prs z.pages)) : z.sz :=
 ⟨fun y hy => Nat.le_trans (wf.n64 (List.mem_map_of_mem hy)) (by decide), fun y hy => wf.dl _ (List.mem_map_of_mem hy), by have := wf.sz; omega⟩
theorem Ph.pre (wf : Wf rs) (hc : PhC rs T z) (hl : LgB x) (hm : x.rs.length < 58) (hp : Ph rs T x tb z) (ht : tb.tok + 1 < 18446744073709551616) : z.pre tb := by
 have hpl : z.pages.length = rs.length := by rw [← prs_len, hc.pages]
 have h8 := wf.may.2.1
 have hpos := wf.pos
 have e1 := hl.no
 refine ⟨ht, by omega, by omega, Gp.sz_of (by rw [hc.pages]; exact wf), hc.lf, fun h => ?_, fun h => ?_, fun h => ?_⟩
 ·rcases h with h | h
  ·obtain ⟨_, _, ⟨k, hk, hlf, _⟩, _⟩ := hp.i2 h
   rw [← prs_len, hlf, List.length_drop]; omega
  ·obtain ⟨h9, _⟩ := hp.i9 (by omega); omega
 ·obtain ⟨_, k, hk, hcl, _⟩ := hp.i6 h
  rw [hcl]; unfold pgs; rw [List.length_map, List.length_drop]; omega
 ·obtain ⟨hn, _⟩ := hp.i4 (.inr h)
  omega
end

end Go.Hp
