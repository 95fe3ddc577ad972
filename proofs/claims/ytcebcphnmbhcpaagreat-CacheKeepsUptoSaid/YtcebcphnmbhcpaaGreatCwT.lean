import Derived.Test.YtcebcphnmbhcpaaGreatCacP
set_option linter.unusedVariables false
set_option linter.unusedSimpArgs false
namespace Go.Hp
open Go Go.Proofs

/-- What a world of one page shows: the entry's token, whether the log has nothing of it, whether it is away. -/
def isFresh (tb : Tb) : Bool := match tb.ent 1 with | some e => decide (e.place = 0) | none => false
def isAway (tb : Tb) : Bool := match tb.ent 1 with | some e => decide (e.nodes = []) | none => false
theorem fresh_eq {tb : Tb} {e : Ent} (h : tb.ent 1 = some e) : isFresh tb = decide (e.place = 0) := by unfold isFresh; rw [h]
theorem away_eq {tb : Tb} {e : Ent} (h : tb.ent 1 = some e) : isAway tb = decide (e.nodes = []) := by unfold isAway; rw [h]
def b2n (b : Bool) : Nat := if b = true then 1 else 0
def tri : Nat → Nat
 | 0 => 0
 | n + 1 => tri n + n
theorem tri_mono : ∀ {a b : Nat}, a ≤ b → tri a ≤ tri b
 | a, 0, h => by
  obtain rfl : a = 0 := by omega
  exact Nat.le_refl _
 | a, b + 1, h => by
  rcases Nat.lt_or_ge a (b + 1) with h1 | h1
  ·have := tri_mono (show a ≤ b by omega); show tri a ≤ tri b + b; omega
  ·obtain rfl : a = b + 1 := by omega
   exact Nat.le_refl _
/-- May a flush that loads now go on to append? -/
def Fl.goal (tb : Tb) (z : Fl) : Bool := if z.full = true then !isAway tb else isFresh tb
/-- How often a flush may yet append, if nobody swaps an entry in. -/
def Fl.pend (tb : Tb) (z : Fl) : Nat := if z.at_ = 1 then b2n (z.goal tb) else if z.at_ = 2 ∨ z.at_ = 3 then 1 + (if stl tb z.c then b2n (z.goal tb) else 0) else if z.at_ = 4 then (if stl tb z.c then b2n (z.goal tb) else 0) else 0
def Mx.pend (tb : Tb) : Mx → Nat
 | .fl z => z.pend tb
 | .fa _ => 0
 | .ec z => if z.at_ = 1 then b2n (isFresh tb) else if z.at_ = 2 then z.f.pend tb else 0
def Mx.ful : Mx → Nat
 | .fl z => if z.full = true ∧ z.at_ ≠ 9 then 1 else 0
 | _ => 0
def Mx.bst (tb : Tb) : Mx → Nat
 | .fl z => if z.full = false ∧ z.at_ ≠ 9 then b2n (isFresh tb) else 0
 | .fa z => if z.at_ ≠ 9 then 1 else 0
 | .ec z => if z.at_ ≠ 9 then b2n (isFresh tb) else 0
def sumN {α : Type} (f : α → Nat) : List α → Nat
 | [] => 0
 | a :: l => f a + sumN f l
theorem sumN_le {α : Type} {f g : α → Nat} : ∀ {l : List α}, (∀ a ∈ l, f a ≤ g a) → sumN f l ≤ sumN g l
 | [], _ => Nat.le_refl _
 | a :: l, h => by have := h a List.mem_cons_self; have := sumN_le fun b hb => h b (List.mem_cons_of_mem _ hb); simp only [sumN]; omega
theorem sumN_add {α : Type} {f g : α → Nat} : ∀ {l : List α}, sumN (fun a => f a + g a) l = sumN f l + sumN g l
 | [] => rfl
 | a :: l => by have := sumN_add (f := f) (g := g) (l := l); simp only [sumN]; omega
theorem sumN_at {α : Type} (f : α → Nat) : ∀ {l : List α} {k : Nat} (h : k < l.length), sumN f l = f l[k] + sumN f (l.eraseIdx k)
 | [], _, h => absurd h (Nat.not_lt_zero _)
 | a :: l, 0, _ => rfl
 | a :: l, k + 1, h => by
  have := sumN_at f (l := l) (k := k) (by simpa using h)
  simp only [sumN, List.eraseIdx_cons_succ, List.getElem_cons_succ]; omega
theorem sumN_set {α : Type} (f : α → Nat) : ∀ {l : List α} {k : Nat} (_ : k < l.length) (a : α), sumN f (l.set k a) = f a + sumN f (l.eraseIdx k)
 | [], _, h, _ => absurd h (Nat.not_lt_zero _)
 | b :: l, 0, _, a => rfl
 | b :: l, k + 1, h, a => by
  have := sumN_set f (l := l) (k := k) (by simpa using h) a
  simp only [sumN, List.eraseIdx_cons_succ, List.set_cons_succ]; omega
def phi (tb : Tb) (zs : List Mx) : Nat := sumN (Mx.pend tb) zs + tri (sumN Mx.ful zs) + sumN Mx.ful zs * sumN (Mx.bst tb) zs
/-- What a swap does to what the others may do. -/
theorem Fl.pend_ev {tb tb2 : Tb} {z : Fl} (hf : isFresh tb2 = false) : z.pend tb2 ≤ z.pend tb + (if z.full = true ∧ z.at_ ≠ 9 ∧ isAway tb2 = false then 1 else 0) := by
 have hg : z.goal tb2 = true → z.full = true ∧ isAway tb2 = false := by
  unfold Fl.goal
  split
  ·rename_i h; intro q; exact ⟨h, by simpa using q⟩
  ·intro q; rw [hf] at q; cases q
 have hb : b2n (z.goal tb2) ≤ (if z.full = true ∧ isAway tb2 = false then 1 else 0) := by
  unfold b2n
  split
  ·rename_i q; rw [if_pos (hg q)]; exact Nat.le_refl _
  ·exact Nat.zero_le _
 unfold Fl.pend
 by_cases h1 : z.at_ = 1
 ·rw [if_pos h1, if_pos h1]
  have : (if z.full = true ∧ z.at_ ≠ 9 ∧ isAway tb2 = false then 1 else 0) = (if z.full = true ∧ isAway tb2 = false then 1 else 0) := by rw [h1]; simp
  rw [this]; omega
 ·rw [if_neg h1, if_neg h1]
  by_cases h2 : z.at_ = 2 ∨ z.at_ = 3
  ·rw [if_pos h2, if_pos h2]
   have : (if z.full = true ∧ z.at_ ≠ 9 ∧ isAway tb2 = false then 1 else 0) = (if z.full = true ∧ isAway tb2 = false then 1 else 0) := by rcases h2 with h2 | h2 <;> rw [h2] <;> simp
   rw [this]
   split <;> omega
  ·rw [if_neg h2, if_neg h2]
   by_cases h4 : z.at_ = 4
   ·rw [if_pos h4, if_pos h4]
    have : (if z.full = true ∧ z.at_ ≠ 9 ∧ isAway tb2 = false then 1 else 0) = (if z.full = true ∧ isAway tb2 = false then 1 else 0) := by rw [h4]; simp
    rw [this]
    split <;> omega
   ·rw [if_neg h4, if_neg h4]; exact Nat.zero_le _
theorem Mx.pend_ev {tb tb2 : Tb} {z : Mx} (hf : isFresh tb2 = false) (hz : ∀ q, z = .ec q → q.f.full = false) : z.pend tb2 ≤ z.pend tb + (if isAway tb2 = false then z.ful else 0) := by
 cases z with
 | fl z =>
  refine Nat.le_trans (Fl.pend_ev (tb := tb) hf) (Nat.add_le_add_left ?_ _)
  show _ ≤ (if isAway tb2 = false then (if z.full = true ∧ z.at_ ≠ 9 then 1 else 0) else 0)
  split
  ·rename_i h; rw [if_pos h.2.2, if_pos ⟨h.1, h.2.1⟩]; exact Nat.le_refl _
  ·exact Nat.zero_le _
 | fa z => exact Nat.zero_le _
 | ec z =>
  show (if z.at_ = 1 then b2n (isFresh tb2) else if z.at_ = 2 then z.f.pend tb2 else 0) ≤ (if z.at_ = 1 then b2n (isFresh tb) else if z.at_ = 2 then z.f.pend tb else 0) + _
  rw [hf]
  split
  ·exact Nat.zero_le _
  ·split
   ·refine Nat.le_trans (Fl.pend_ev (tb := tb) hf) (Nat.add_le_add_left ?_ _)
    rw [if_neg (by rw [hz z rfl]; simp)]; exact Nat.zero_le _
   ·exact Nat.zero_le _
theorem Mx.bst_ev {tb tb2 : Tb} {z : Mx} (hf : isFresh tb2 = false) : z.bst tb2 ≤ z.bst tb := by
 cases z with
 | fl z => show (if _ then b2n (isFresh tb2) else 0) ≤ _; rw [hf]; split <;> exact Nat.zero_le _
 | fa z => exact Nat.le_refl _
 | ec z => show (if _ then b2n (isFresh tb2) else 0) ≤ _; rw [hf]; split <;> exact Nat.zero_le _
/-- The arithmetic of a step. -/
theorem phi_arith {p p2 f f2 b b2 PR PR2 FR BR BR2 a : Nat} (hB : BR2 ≤ BR) (h : (PR2 = PR ∧ a + 11 * p2 ≤ 11 * p ∧ f2 ≤ f ∧ b2 ≤ b) ∨ (a = 0 ∧ f = 1 ∧ f2 = 0 ∧ b2 ≤ b ∧ p2 ≤ p ∧ PR2 ≤ PR + FR) ∨ (a = 0 ∧ f = 0 ∧ f2 = 0 ∧ b = 1 ∧ b2 = 0 ∧ p2 ≤ p ∧ PR2 ≤ PR + FR) ∨ (a = 0 ∧ f2 ≤ f ∧ b2 ≤ b ∧ p2 ≤ p ∧ PR2 ≤ PR)) :
  a + 11 * ((p2 + PR2) + tri (f2 + FR) + (f2 + FR) * (b2 + BR2)) ≤ 11 * ((p + PR) + tri (f + FR) + (f + FR) * (b + BR)) := by
 rcases h with ⟨rfl, h1, h2, h3⟩ | ⟨h0, h1, h2, h3, h4, h5⟩ | ⟨h0, h1, h2, h3, h4, h5, h6⟩ | ⟨h0, h1, h2, h3, h4⟩
 ·have e1 := tri_mono (show f2 + FR ≤ f + FR by omega)
  have e2 := Nat.mul_le_mul (show f2 + FR ≤ f + FR by omega) (show b2 + BR2 ≤ b + BR by omega)
  omega
 ·subst h1; subst h2
  have e1 : tri (1 + FR) = tri FR + FR := by rw [Nat.add_comm]; rfl
  have e2 := Nat.mul_le_mul (show 0 + FR ≤ 1 + FR by omega) (show b2 + BR2 ≤ b + BR by omega)
  rw [e1]
  have e3 : 0 + FR = FR := Nat.zero_add _
  rw [e3] at e2 ⊢
  omega
 ·subst h1; subst h2; subst h3; subst h4
  have e2 : (0 + FR) * (0 + BR2) ≤ (0 + FR) * BR := Nat.mul_le_mul (Nat.le_refl _) (by omega)
  have e4 : (0 + FR) * (1 + BR) = FR + (0 + FR) * BR := by rw [Nat.mul_add]; omega
  rw [e4]
  omega
 ·have e1 := tri_mono (show f2 + FR ≤ f + FR by omega)
  have e2 := Nat.mul_le_mul (show f2 + FR ≤ f + FR by omega) (show b2 + BR2 ≤ b + BR by omega)
  omega
def bdT : Bd := ⟨100, 21⟩
/-- The shapes that an entry has here. -/
def Shp (N : Nds) (e : Ent) : Prop := (e.place = 0 ∧ e.kept = 0 ∧ e.nodes = N) ∨ (0 < e.place ∧ (e.nodes = [] ∨ (e.nodes = N ∧ e.kept = (N.length : Int))))
def FlT (N : Nds) (z : Fl) : Prop := (z.at_ = 2 ∨ z.at_ = 3 ∨ z.at_ = 4 → z.c.ent.nodes = N ∧ (z.full = false → z.c.ent.place = 0)) ∧ (z.at_ = 9 → z.c.e = 0 ∨ (z.full = true ∧ z.c.e = 131))
def MxT (N : Nds) (tb : Tb) : Mx → Prop
 | .fl z => FlT N z
 | .fa z => z.at_ = 9 → z.c.e = 0
 | .ec z => (z.at_ = 9 → z.c.e = 0) ∧ z.f.full = false ∧ (z.at_ = 2 → FlT N z.f) ∧ (z.at_ = 3 → isFresh tb = false)
/-- A world of one page with nodes N. -/
structure TwW (N : Nds) (tb : Tb) (x : Lg) : Prop where
 nn : N ≠ []
 w : CW 60 bdT (W1 N) tb x
 sh : ∃ e, tb.ent 1 = some e ∧ Shp N e
 sm : (pageB ⟨1, 0, N⟩).length ≤ 2177
theorem TwW.hW {N : Nds} {tb : Tb} {x : Lg} (h : TwW N tb x) : W1 N 1 ≠ [] := by rw [W1_1]; exact h.nn
structure TwI (N : Nds) (tb : Tb) (x : Lg) (zs : List Mx) : Prop where
 w : TwW N tb x
 ms : ∀ z ∈ zs, MxI bdT tb x z ∧ z.c.page = 1 ∧ MxT N tb z
 pot : x.pl + 11 * phi tb zs ≤ 404
theorem Shp.pos {N : Nds} {e : Ent} (h : Shp N e) (hN : N ≠ []) (hk : e.nodes ≠ []) (hl : e.kept < (e.nodes.length : Int)) : e.place = 0 := by
 rcases h with ⟨h, _⟩ | ⟨_, h | ⟨h1, h2⟩⟩
 ·exact h
 ·exact absurd h hk
 ·rw [h1] at hl; omega
theorem apE_two {m : Nat} {x : Lg} (h : LgW m x) {hn hp : Nat} {b : List UInt8} (hl : b.length ≤ 12671) (hr : x.pl + kmany b + 16 ≤ (1 + m) * 8) : x.apE hn hp 2 b = 0 ∨ x.apE hn hp 2 b = 5 := by
 by_cases hc : hn = x.no ∧ hp = x.pl
 ·rw [hc.1, hc.2]; exact .inl (h.apE hl hr)
 ·right; unfold Lg.apE; rw [if_neg (by decide), if_neg (by omega), if_pos hc]
/-- What a step does to the world's view. -/
def FlEv (tb : Tb) (x : Lg) (z : Fl) (c : Bool) (z2 : Fl) (tb2 : Tb) (x2 : Lg) : Prop := (tb2 = tb ∧ x.pl ≤ x2.pl ∧ x2.pl + 11 * z2.pend tb2 ≤ x.pl + 11 * z.pend tb) ∨ (x2 = x ∧ z.at_ = 4 ∧ c = true ∧ z2.at_ = 9 ∧ z2.c.e = 0 ∧ isFresh tb2 = false ∧ isAway tb2 = false ∧ (z.full = false → isFresh tb = true))
theorem pend_9 {tb : Tb} {z : Fl} (h : z.at_ = 9) : z.pend tb = 0 := by unfold Fl.pend; rw [h]; simp
theorem pend_1 {tb : Tb} {z : Fl} (h : z.at_ = 1) : z.pend tb = b2n (z.goal tb) := by unfold Fl.pend; rw [if_pos h]
theorem pend_23 {tb : Tb} {z : Fl} (h : z.at_ = 2 ∨ z.at_ = 3) : z.pend tb = 1 + (if stl tb z.c then b2n (z.goal tb) else 0) := by unfold Fl.pend; rw [if_neg (by omega), if_pos h]
theorem pend_4 {tb : Tb} {z : Fl} (h : z.at_ = 4) : z.pend tb = (if stl tb z.c then b2n (z.goal tb) else 0) := by unfold Fl.pend; rw [h]; simp
theorem FlS.two {N : Nds} {tb tb2 : Tb} {x x2 : Lg} {z z2 : Fl} {c : Bool} (W : TwW N tb x) (hi : FlI bdT tb x z) (hp : z.c.page = 1) (hT : FlT N z) (hroom : 1 ≤ z.pend tb → x.pl + 11 ≤ 404) (k : FlS tb x z c z2 tb2 x2) : TwW N tb2 x2 ∧ FlT N z2 ∧ FlEv tb x z c z2 tb2 x2 := by
 have hW := W.hW
 have hWz : W1 N z.c.page ≠ [] := by rw [hp]; exact hW
 have hst := k.step W.w hWz hi
 have hrc : z.at_ = 3 → z.rc = ⟨1, 0, N⟩ := fun h3 => by
  obtain ⟨h1, h2⟩ := hT.1 (.inr (.inl h3))
  unfold Fl.rc
  rw [if_neg, hp, h1]
  rintro ⟨q1, q2⟩
  rw [h2 q1] at q2; exact absurd q2 (by decide)
 have hok : z.at_ = 3 → z.okR := fun h3 => by
  obtain ⟨N', hh, hn⟩ := hi.held (.inr (.inl h3))
  have hmay := rcOf_may (full := z.full) W.w.lg hh.ok (by rw [hp]; exact ⟨by decide, by decide⟩) hn (by
   have hm := hi.may (.inr (.inl h3))
   have := hh.ok.kept
   cases hf : z.full with
   | true => exact .inl rfl
   | false => exact .inr (by by_cases q : z.c.ent.kept = z.c.ent.nodes.length; exact absurd ⟨q, hf⟩ hm; omega))
  refine ⟨hmay, ?_⟩
  have := W.sm
  rw [hrc h3]; omega
 cases k with
 | @loads e h1 he =>
  rw [hp] at he
  obtain ⟨e', he', hsh⟩ := W.sh
  rw [he] at he'; cases he'
  rcases Fl.loads_at (z := z) (e := e) with ⟨h2, h3, h4, h5⟩ | ⟨h2, h3, h4, h5⟩
  ·refine ⟨W, ⟨fun q => by omega, fun _ => ?_⟩, .inl ⟨rfl, Nat.le_refl _, by rw [pend_9 h3]; omega⟩⟩
   unfold Fl.loads
   split
   ·rename_i q; exact .inr ⟨q.2.2, rfl⟩
   ·split
    ·exact .inl rfl
    ·rename_i q1 q2; unfold Fl.loads at h2; rw [if_neg q1, if_neg q2] at h2; cases h2
  ·rw [h2, h3]
   have hne : e.nodes ≠ [] := fun q => h4 (by rw [q]; rfl)
   have hne2 : e.nodes = N := by
    rcases hsh with ⟨_, _, q⟩ | ⟨_, q | ⟨q, _⟩⟩
    ·exact q
    ·exact absurd q hne
    ·exact q
   have hh := W.w.held hW he
   have hkp := hh.ok.kept
   have hpl0 : z.full = false → e.place = 0 := fun q => hsh.pos W.nn hne (by by_cases q1 : e.kept = e.nodes.length; exact absurd ⟨q1, q⟩ h5; omega)
   refine ⟨W, ⟨fun _ => ⟨hne2, hpl0⟩, fun q => (by cases q)⟩, .inl ⟨rfl, Nat.le_refl _, ?_⟩⟩
   have hg : z.goal tb = true := by
    unfold Fl.goal
    split
    ·rw [away_eq he, decide_eq_false hne]; rfl
    ·rename_i q; rw [fresh_eq he, hpl0 (by simpa using q)]; rfl
   have hs : ¬ stl tb ((z.setE e).go 2).c := stl_cur (by show tb.ent z.c.page = some e; rw [hp]; exact he)
   rw [pend_1 h1, hg, pend_23 (z := (z.setE e).go 2) (.inl rfl), if_neg hs]; exact Nat.le_refl _
 | takes h1 =>
  refine ⟨W, ⟨fun _ => hT.1 (.inl h1), fun q => (by cases q)⟩, .inl ⟨rfl, Nat.le_refl _, ?_⟩⟩
  rw [pend_23 (.inl h1), pend_23 (z := ({ z with hn := x.no, hp := x.pl } : Fl).go 3) (.inr rfl)]; exact Nat.le_refl _
 | bad h1 hb he => exact absurd (hok h1) hb
 | @app e x2 h1 hb he hk =>
  have hr := hroom (by rw [pend_23 (.inr h1)]; omega)
  have hsm := W.sm
  have hkm : kmany (pageB z.rc) ≤ 11 := by rw [hrc h1]; unfold kmany; omega
  have h05 := apE_two W.w.lg (hn := z.hn) (hp := z.hp) (b := pageB z.rc) (by rw [hrc h1]; omega) (by omega)
  rw [← he] at h05
  rcases hk with ⟨g1, rfl⟩ | ⟨g1, s, g2, g3, rfl⟩
  ·have h5 : e = 5 := h05.resolve_left g1
   rw [show (z.setR z.rc).appends e x2.no = (false, (z.setR z.rc).go 2) from (if_neg g1).trans (if_pos h5)]
   refine ⟨W, ⟨fun _ => hT.1 (.inr (.inl h1)), fun q => (by cases q)⟩, .inl ⟨rfl, Nat.le_refl _, ?_⟩⟩
   rw [pend_23 (.inr h1), pend_23 (z := (z.setR z.rc).go 2) (.inl rfl)]; exact Nat.le_refl _
  ·rw [show (z.setR z.rc).appends e (x.push s).no = (false, ({ z.setR z.rc with no := (x.push s).no } : Fl).go 4) from if_pos g1] at hst ⊢
   refine ⟨⟨W.nn, hst.1, W.sh, W.sm⟩, ⟨fun _ => hT.1 (.inr (.inl h1)), fun q => (by cases q)⟩, .inl ⟨rfl, by rw [x.pl_push]; exact Nat.le_add_right _ _, ?_⟩⟩
   have e4 : s.n = kmany s.b := rfl
   have e5 : (({ z.setR z.rc with no := (x.push s).no } : Fl).go 4).pend tb = (if stl tb z.c then b2n (z.goal tb) else 0) := pend_4 rfl
   show (x.push s).pl + 11 * (({ z.setR z.rc with no := (x.push s).no } : Fl).go 4).pend tb ≤ _
   rw [pend_23 (.inr h1), e5, x.pl_push, e4, g3]
   omega
 | @swaps r tb2 h1 hs =>
  obtain ⟨N', hh, hn⟩ := hi.held (.inr (.inr h1))
  obtain ⟨hT1, hT2⟩ := hT.1 (.inr (.inr h1))
  obtain ⟨hch, _⟩ := hi.app h1
  have hhp : 0 < z.hp := by
   obtain ⟨r', ⟨⟨kk, hk, e1, _⟩, _⟩, _⟩ := hch.find
   have := x.endP_mono (Nat.zero_le kk)
   have h0 : x.endP 0 = x.p0 := rfl
   have := W.w.lg.p0
   omega
  rcases hs with ⟨g1, _⟩ | ⟨e0, g1, ⟨q, _⟩ | ⟨_, q, q1, q2⟩ | ⟨_, q, q1, q2⟩⟩
  ·obtain ⟨_, h, _⟩ := W.sh
   rw [Tb.ent_none (hp ▸ g1)] at h; cases h
  ·refine absurd ?_ q
   have hm := hh.ok.mayP
   have := hh.ok.low; have h3 := hh.ok.txn; have h4 := hh.ok.ld
   refine ⟨hm.m1, ?_, Int.le_refl _, hm.m4, hm.m5, hm.m6, hm.m7⟩
   show 0 ≤ min (min (min (min (min (z.hp : Int) (z.no : Int)) (if z.r.prev = 0 then (z.hp : Int) else z.c.ent.low)) z.c.ent.txn) z.c.ent.lead) (z.c.ent.nodes.length : Int)
   rw [h3, h4]
   split <;> omega
  ·subst q1; subst q2
   rw [show z.swaps 5 = (false, z.go 1) from if_pos rfl]
   refine ⟨W, ⟨fun q => by simp [Fl.go] at q, fun q => (by cases q)⟩, .inl ⟨rfl, Nat.le_refl _, ?_⟩⟩
   have hs : stl tb2 z.c := stl_lost (Tb.ent_some g1) q
   rw [pend_4 h1, if_pos hs, pend_1 (z := z.go 1) rfl]; exact Nat.le_refl _
  ·subst q1
   rw [show z.swaps 0 = (true, z.fin z.ent2 0) from if_neg (by decide)] at hst ⊢
   have hcur : tb.ent 1 = some z.c.ent := by
    have := hh.cur _ (Tb.ent_some g1) q
    rw [← hp, Tb.ent_some g1, this]
   rw [hp] at q2
   have he2 := Swapped.tok q2
   refine ⟨⟨W.nn, hst.1, ⟨_, he2, .inr ⟨by show (0 : Int) < z.hp; omega, .inr ⟨hT1, by show ((z.c.ent.nodes.length : Nat) : Int) = _; rw [hT1]⟩⟩⟩, W.sm⟩, ⟨fun q => by simp [Fl.fin] at q, fun _ => .inl rfl⟩, .inr ⟨rfl, h1, rfl, rfl, rfl, ?_, ?_, fun hf => ?_⟩⟩
   ·rw [fresh_eq he2]; exact decide_eq_false (by show ¬ (z.hp : Int) = 0; omega)
   ·rw [away_eq he2]; exact decide_eq_false (by show z.c.ent.nodes ≠ []; rw [hT1]; exact W.nn)
   ·rw [fresh_eq hcur]; exact decide_eq_true (hT2 hf)
 | done h1 => exact ⟨W, hT, .inl ⟨rfl, Nat.le_refl _, Nat.le_refl _⟩⟩
/-- What a machine's step does to the world's view. -/
def MxEv (tb : Tb) (x : Lg) (z z2 : Mx) (tb2 : Tb) (x2 : Lg) : Prop := (tb2 = tb ∧ x.pl ≤ x2.pl ∧ x2.pl + 11 * z2.pend tb2 ≤ x.pl + 11 * z.pend tb ∧ z2.ful ≤ z.ful ∧ z2.bst tb2 ≤ z.bst tb) ∨
 (x2 = x ∧ isFresh tb2 = false ∧ z2.pend tb2 ≤ z.pend tb ∧ ((isAway tb2 = false ∧ ((z.ful = 1 ∧ z2.ful = 0 ∧ z2.bst tb2 ≤ z.bst tb) ∨ (z.ful = 0 ∧ z2.ful = 0 ∧ z.bst tb = 1 ∧ z2.bst tb2 = 0))) ∨ (isAway tb2 = true ∧ z2.ful ≤ z.ful ∧ z2.bst tb2 ≤ z.bst tb)))
theorem ec_pend1 {tb : Tb} {z : Ec} (h : z.at_ = 1) : (Mx.ec z).pend tb = b2n (isFresh tb) := if_pos h
theorem ec_pend2 {tb : Tb} {z : Ec} (h : z.at_ = 2) : (Mx.ec z).pend tb = z.f.pend tb := (if_neg (by omega)).trans (if_pos h)
theorem ec_bst {tb : Tb} {z : Ec} (h : z.at_ ≠ 9) : (Mx.ec z).bst tb = b2n (isFresh tb) := if_pos h
theorem MxS.two {N : Nds} {tb tb2 : Tb} {x x2 : Lg} {z z2 : Mx} {c : Bool} (W : TwW N tb x) (hi : MxI bdT tb x z) (hp : z.c.page = 1) (hT : MxT N tb z) (hroom : 1 ≤ z.pend tb → x.pl + 11 ≤ 404) (k : MxS tb x z c z2 tb2 x2) : TwW N tb2 x2 ∧ MxT N tb2 z2 ∧ MxEv tb x z z2 tb2 x2 := by
 have hW := W.hW
 have hWz : W1 N z.c.page ≠ [] := by rw [hp]; exact hW
 cases k with
 | @fl z z2 c tb2 x2 k =>
  have hp : z.c.page = 1 := hp
  have h6 := k.step W.w hWz hi
  obtain ⟨g1, g2, g3⟩ := k.two W hi hp hT hroom
  refine ⟨g1, g2, ?_⟩
  have hfull := h6.2.2.2.2.1.full
  have h9 : z2.at_ ≠ 9 → z.at_ ≠ 9 := fun q1 q2 => by
   cases k with
   | done _ => exact q1 q2
   | loads h => omega
   | takes h => omega
   | bad h => omega
   | app h => omega
   | swaps h => omega
  rcases g3 with ⟨rfl, g0, g3⟩ | ⟨rfl, a1, a2, a3, a4, a5, a6, a7⟩
  ·refine .inl ⟨rfl, g0, g3, ?_, ?_⟩
   ·show (if z2.full = true ∧ z2.at_ ≠ 9 then 1 else 0) ≤ (if z.full = true ∧ z.at_ ≠ 9 then 1 else 0)
    rw [hfull]
    split
    ·rename_i q; rw [if_pos ⟨q.1, h9 q.2⟩]; exact Nat.le_refl _
    ·exact Nat.zero_le _
   ·show (if z2.full = false ∧ z2.at_ ≠ 9 then b2n (isFresh tb2) else 0) ≤ (if z.full = false ∧ z.at_ ≠ 9 then b2n (isFresh tb2) else 0)
    rw [hfull]
    split
    ·rename_i q; rw [if_pos ⟨q.1, h9 q.2⟩]; exact Nat.le_refl _
    ·exact Nat.zero_le _
  ·have e1 : (Mx.fl z2).ful = 0 := if_neg (fun q => q.2 a3)
   have e2 : (Mx.fl z2).bst tb2 = 0 := if_neg (fun q => q.2 a3)
   refine .inr ⟨rfl, a5, by show z2.pend tb2 ≤ _; rw [pend_9 a3]; exact Nat.zero_le _, .inl ⟨a6, ?_⟩⟩
   cases hf : z.full with
   | true => exact .inl ⟨if_pos ⟨hf, by omega⟩, e1, by rw [e2]; exact Nat.zero_le _⟩
   | false => exact .inr ⟨if_neg (fun q => by rw [hf] at q; cases q.1), e1, by show (if z.full = false ∧ z.at_ ≠ 9 then b2n (isFresh tb) else 0) = 1; rw [if_pos ⟨hf, by omega⟩, a7 hf]; rfl, e2⟩
 | @fa z z2 c tb2 k =>
  have hp : z.c.page = 1 := hp
  have h6 := FaS.step W.w hWz hi k
  cases k with
  | @loads e h1 he =>
   refine ⟨W, ?_, .inl ⟨rfl, Nat.le_refl _, Nat.le_refl _, Nat.le_refl _, ?_⟩⟩
   ·show (z.loads e).2.at_ = 9 → _
    unfold Fa.loads
    split
    ·intro _; rfl
    ·intro q; cases q
   ·show (if (z.loads e).2.at_ ≠ 9 then 1 else 0) ≤ (if z.at_ ≠ 9 then 1 else 0)
    rw [if_pos (show z.at_ ≠ 9 by omega)]; split <;> omega
  | @reads r h1 hr =>
   refine ⟨W, ?_, .inl ⟨rfl, Nat.le_refl _, Nat.le_refl _, Nat.le_refl _, ?_⟩⟩
   ·show (z.reads r).at_ = 9 → _
    unfold Fa.reads
    split
    ·intro q; have q : z.at_ = 9 := q; omega
    ·intro q; cases q
   ·show (if (z.reads r).at_ ≠ 9 then 1 else 0) ≤ (if z.at_ ≠ 9 then 1 else 0)
    rw [if_pos (show z.at_ ≠ 9 by omega)]; split <;> omega
  | @swaps r tb2 h1 hs =>
   obtain ⟨hh, hn⟩ := FaI.swaps hi h1
   have hm := faE_may (z := z) hi h1
   rcases hs with ⟨g1, _⟩ | ⟨e0, g1, ⟨q, _⟩ | ⟨_, q, q1, q2⟩ | ⟨_, q, q1, q2⟩⟩
   ·obtain ⟨_, h, _⟩ := W.sh
    rw [Tb.ent_none (hp ▸ g1)] at h; cases h
   ·exact absurd hm q
   ·subst q1; subst q2
    rw [show z.swaps 5 = (false, { z with at_ := 1 }) from if_pos rfl]
    refine ⟨W, fun q => (by cases q), .inl ⟨rfl, Nat.le_refl _, Nat.le_refl _, Nat.le_refl _, ?_⟩⟩
    show (if (1 : Nat) ≠ 9 then 1 else 0) ≤ (if z.at_ ≠ 9 then 1 else 0)
    rw [if_pos (show z.at_ ≠ 9 by omega)]; exact Nat.le_refl _
   ·subst q1
    rw [show z.swaps 0 = (true, { z with at_ := 9, c := z.c.fin z.ent2 0 }) from if_neg (by decide)] at h6 ⊢
    rw [hp] at q2
    have he2 := Swapped.tok q2
    have hpl : 0 < z.c.ent.place := by
     rcases hh.ok.st with ⟨_, _, a3⟩ | ⟨_, a1, a2, _⟩
     ·have := hh.ok.nf.pos; rw [← a3, hn] at this; exact absurd this (Nat.not_lt_zero _)
     ·omega
    have hne : z.nodes ≠ [] := fun q => by have := hh.ok.nf.pos; rw [q] at this; exact absurd this (Nat.not_lt_zero _)
    have hN : z.nodes = N := by
     have := (h6.1.held hW he2).ok.nds.resolve_left hne
     rw [W1_1] at this; exact this
    have hf2 : isFresh tb2 = false := by rw [fresh_eq he2]; exact decide_eq_false (by show ¬ z.c.ent.place = 0; omega)
    have ha2 : isAway tb2 = false := by rw [away_eq he2]; exact decide_eq_false hne
    refine ⟨⟨W.nn, h6.1, ⟨_, he2, .inr ⟨hpl, .inr ⟨hN, by show ((z.nodes.length : Nat) : Int) = _; rw [hN]⟩⟩⟩, W.sm⟩, fun _ => rfl, .inr ⟨rfl, hf2, Nat.le_refl _, .inl ⟨ha2, .inr ⟨rfl, rfl, ?_, rfl⟩⟩⟩⟩
    exact if_pos (show z.at_ ≠ 9 by omega)
  | done h1 => exact ⟨W, hT, .inl ⟨rfl, Nat.le_refl _, Nat.le_refl _, Nat.le_refl _, Nat.le_refl _⟩⟩
 | @ec z z2 c tb2 x2 k =>
  have hp : z.c.page = 1 := hp
  have h6 := EcS.step W.w hWz hi k
  have hb9 : z.at_ ≠ 9 → (Mx.ec z).bst tb = b2n (isFresh tb) := fun q => if_pos q
  have hble : ∀ q : Ec, (Mx.ec q).bst tb ≤ b2n (isFresh tb) := fun q => by show (if q.at_ ≠ 9 then b2n (isFresh tb) else 0) ≤ _; split; exact Nat.le_refl _; exact Nat.zero_le _
  cases k with
  | @loads e h1 he =>
   rw [hp] at he
   obtain ⟨e', he', hsh⟩ := W.sh
   rw [he] at he'; cases he'
   have e1 : (Mx.ec z).pend tb = b2n (isFresh tb) := if_pos h1
   refine ⟨W, ?_, .inl ⟨rfl, Nat.le_refl _, Nat.add_le_add_left (Nat.mul_le_mul_left _ ?_) _, Nat.le_refl _, Nat.le_trans (hble _) (Nat.le_of_eq (hb9 (by omega)).symm)⟩⟩
   ·unfold Ec.loads
    split
    ·exact ⟨fun _ => rfl, hT.2.1, fun q => (by cases q), fun q => (by cases q)⟩
    ·rename_i q0
     split
     ·exact ⟨fun q => (by cases q), rfl, fun _ => ⟨fun q => (by rcases q with q | q | q <;> cases q), fun q => (by cases q)⟩, fun q => (by cases q)⟩
     ·rename_i q1
      refine ⟨fun q => (by cases q), hT.2.1, fun q => (by cases q), fun _ => ?_⟩
      rw [fresh_eq he]
      apply decide_eq_false
      rcases hsh with ⟨_, a2, a3⟩ | ⟨a1, _⟩
      ·omega
      ·omega
   ·rw [e1]
    unfold Ec.loads
    split
    ·exact Nat.zero_le _
    ·rename_i q0
     split
     ·rename_i q1
      have hne : e.nodes ≠ [] := fun q => q0 (by rw [q]; rfl)
      refine Nat.le_trans (Nat.le_of_eq (ec_pend2 rfl)) ?_
      show (fl0 z.c.page false).pend tb ≤ _
      rw [pend_1 rfl]
      exact Nat.le_refl _
     ·exact Nat.zero_le _
  | @flushes c f tb2 x2 h1 hf =>
   obtain ⟨i1, i2, i3, i4⟩ := EcI.flushes hi h1
   have e1 : (Mx.ec z).pend tb = z.f.pend tb := (if_neg (by omega)).trans (if_pos h1)
   obtain ⟨g1, g2, g3⟩ := hf.two W i1 (i2.trans hp) (hT.2.2.1 h1) (by rw [← e1]; exact hroom)
   have hs6 := hf.step W.w (by rw [i2]; exact hWz) i1
   have hf2 : f.full = false := hs6.2.2.2.2.1.full.trans i3
   unfold Ec.flushes
   by_cases hc : c = false
   ·rw [if_pos hc]
    refine ⟨g1, ⟨fun q => (by have q : z.at_ = 9 := q; omega), hf2, fun _ => g2, fun q => (by have q : z.at_ = 3 := q; omega)⟩, ?_⟩
    rcases g3 with ⟨rfl, g0, g3⟩ | ⟨_, _, a2, _⟩
    ·have e2 : (Mx.ec { z with f := f }).pend tb2 = f.pend tb2 := (if_neg (by show ¬ z.at_ = 1; omega)).trans (if_pos h1)
     exact .inl ⟨rfl, g0, by rw [e1]; show x2.pl + 11 * (Mx.ec { z with f := f }).pend tb2 ≤ _; rw [e2]; exact g3, Nat.le_refl _, Nat.le_refl _⟩
    ·rw [hc] at a2; cases a2
   ·have hct : c = true := by simpa using hc
    have hf9 : f.at_ = 9 := hs6.2.2.2.2.2.1 hct
    have he0 : f.c.e = 0 := (g2.2 hf9).resolve_right (fun q => by rw [hf2] at q; cases q.1)
    rw [if_neg hc, if_neg (fun q => q he0)]
    have hbh := hf.ended W.w (by rw [i2]; exact hWz) i1 i4 i3 hct he0
    rw [i2, hp] at hbh
    have hfr2 : isFresh tb2 = false := by
     obtain ⟨e, he, hsh⟩ := g1.sh
     rw [fresh_eq he]
     apply decide_eq_false
     rw [behind_eq he] at hbh
     have hbh := of_decide_eq_false hbh
     rcases hsh with ⟨_, a2, a3⟩ | ⟨a1, _⟩
     ·have : 0 < N.length := List.length_pos_iff.2 W.nn
      rw [a2, a3] at hbh; omega
     ·omega
    have e2 : (Mx.ec { z with at_ := 1, f := f }).pend tb2 = 0 := (ec_pend1 rfl).trans (by rw [hfr2]; rfl)
    have e3 : (Mx.ec { z with at_ := 1, f := f }).bst tb2 = 0 := (ec_bst (show (1 : Nat) ≠ 9 by decide)).trans (by rw [hfr2]; rfl)
    refine ⟨g1, ⟨fun q => (by cases q), hf2, fun q => (by cases q), fun q => (by cases q)⟩, ?_⟩
    rcases g3 with ⟨rfl, g0, g3⟩ | ⟨rfl, a1, a2, a3, a4, a5, a6, a7⟩
    ·exact .inl ⟨rfl, g0, by show x2.pl + 11 * (Mx.ec { z with at_ := 1, f := f }).pend tb2 ≤ _; rw [e1, e2]; omega, Nat.le_refl _, by show (Mx.ec { z with at_ := 1, f := f }).bst tb2 ≤ _; rw [e3]; exact Nat.zero_le _⟩
    ·exact .inr ⟨rfl, a5, by show (Mx.ec { z with at_ := 1, f := f }).pend tb2 ≤ _; rw [e2]; exact Nat.zero_le _, .inl ⟨a6, .inr ⟨rfl, rfl, by rw [hb9 (by omega), a7 i3]; rfl, e3⟩⟩⟩
  | @swaps r tb2 h1 hs =>
   obtain ⟨N', hh, hn, hk⟩ := EcI.swaps hi h1
   have hm : z.ent2.mayP := evE_may hh.ok
   have hfr := hT.2.2.2 h1
   rcases hs with ⟨g1, _⟩ | ⟨e0, g1, ⟨q, _⟩ | ⟨_, q, q1, q2⟩ | ⟨_, q, q1, q2⟩⟩
   ·obtain ⟨_, h, _⟩ := W.sh
    rw [Tb.ent_none (hp ▸ g1)] at h; cases h
   ·exact absurd hm q
   ·subst q1; subst q2
    rw [show z.swaps 5 = (false, { z with at_ := 1 }) from if_pos rfl]
    refine ⟨W, ⟨fun q => (by cases q), hT.2.1, fun q => (by cases q), fun q => (by cases q)⟩, .inl ⟨rfl, Nat.le_refl _, ?_, Nat.le_refl _, ?_⟩⟩
    ·have e2 : (Mx.ec { z with at_ := 1 }).pend tb2 = 0 := (ec_pend1 rfl).trans (by rw [hfr]; rfl)
     show x.pl + 11 * (Mx.ec { z with at_ := 1 }).pend tb2 ≤ _
     rw [e2]; omega
    ·exact Nat.le_trans (hble _) (Nat.le_of_eq (hb9 (by omega)).symm)
   ·subst q1
    rw [show z.swaps 0 = (true, { z with at_ := 9, c := z.c.fin z.ent2 0 }) from if_neg (by decide)] at h6 ⊢
    rw [hp] at q2
    have he2 := Swapped.tok q2
    have hpl : 0 < z.c.ent.place := by
     rcases hh.ok.st with ⟨a1, a2, a3⟩ | ⟨_, a1, a2, _⟩
     ·have := hh.ok.nf.pos; rw [hn] at hk; omega
     ·omega
    have hf2 : isFresh tb2 = false := by rw [fresh_eq he2]; exact decide_eq_false (by show ¬ z.c.ent.place = 0; omega)
    have ha2 : isAway tb2 = true := by rw [away_eq he2]; exact decide_eq_true rfl
    refine ⟨⟨W.nn, h6.1, ⟨_, he2, .inr ⟨hpl, .inl rfl⟩⟩, W.sm⟩, ⟨fun _ => rfl, hT.2.1, fun q => (by cases q), fun q => (by cases q)⟩, .inr ⟨rfl, hf2, Nat.zero_le _, .inr ⟨ha2, Nat.le_refl _, Nat.zero_le _⟩⟩⟩
  | done h1 => exact ⟨W, hT, .inl ⟨rfl, Nat.le_refl _, Nat.le_refl _, Nat.le_refl _, Nat.le_refl _⟩⟩
theorem MxT.ev {N : Nds} {tb tb2 : Tb} {z : Mx} (h : MxT N tb z) (hf : tb2 = tb ∨ isFresh tb2 = false) : MxT N tb2 z := by
 rcases hf with rfl | hf
 ·exact h
 ·cases z with
  | fl z => exact h
  | fa z => exact h
  | ec z => exact ⟨h.1, h.2.1, h.2.2.1, fun _ => hf⟩
/-- A step of one of the machines. -/
theorem TwI.step {N : Nds} {tb tb2 : Tb} {x x2 : Lg} {zs : List Mx} {z2 : Mx} {c : Bool} (h : TwI N tb x zs) {k : Nat} (hk : k < zs.length) (s : MxS tb x zs[k] c z2 tb2 x2) : TwI N tb2 x2 (zs.set k z2) := by
 obtain ⟨hi, hp, hT⟩ := h.ms _ (List.getElem_mem hk)
 have hsum : ∀ f : Mx → Nat, sumN f zs = f zs[k] + sumN f (zs.eraseIdx k) := fun f => sumN_at f hk
 have hroom : 1 ≤ (zs[k]).pend tb → x.pl + 11 ≤ 404 := fun q => by
  have h1 := h.pot
  unfold phi at h1
  have h2 := hsum (Mx.pend tb)
  omega
 obtain ⟨g1, g2, g3⟩ := s.two h.w hi hp hT hroom
 have h6 := s.step h.w.w (by rw [hp]; exact h.w.hW) hi
 have hfr : tb2 = tb ∨ isFresh tb2 = false := g3.imp (fun q => q.1) (fun q => q.2.1)
 refine ⟨g1, fun z hz => ?_, ?_⟩
 ·rcases List.mem_or_eq_of_mem_set hz with hz | rfl
  ·obtain ⟨a1, a2, a3⟩ := h.ms z hz
   exact ⟨a1.gro h6.2.1, a2, a3.ev hfr⟩
  ·exact ⟨h6.2.2.2.1, h6.2.2.2.2.1.trans hp, g2⟩
 ·have hpot := h.pot
  have hec : ∀ z ∈ zs.eraseIdx k, ∀ q, z = Mx.ec q → q.f.full = false := fun z hz q hq => by
   subst hq
   exact (h.ms _ (List.mem_of_mem_eraseIdx hz)).2.2.2.1
  have hB : sumN (Mx.bst tb2) (zs.eraseIdx k) ≤ sumN (Mx.bst tb) (zs.eraseIdx k) := by
   rcases hfr with rfl | hf
   ·exact Nat.le_refl _
   ·exact sumN_le fun z _ => Mx.bst_ev hf
  have hPf : isFresh tb2 = false → sumN (Mx.pend tb2) (zs.eraseIdx k) ≤ sumN (Mx.pend tb) (zs.eraseIdx k) + (if isAway tb2 = false then sumN Mx.ful (zs.eraseIdx k) else 0) := fun hf => by
   have h1 := sumN_le (f := Mx.pend tb2) (g := fun z => Mx.pend tb z + (if isAway tb2 = false then z.ful else 0)) (l := zs.eraseIdx k) fun z hz => Mx.pend_ev hf (hec z hz)
   rw [sumN_add] at h1
   refine Nat.le_trans h1 (Nat.add_le_add_left ?_ _)
   split
   ·exact Nat.le_refl _
   ·exact Nat.le_of_eq (by generalize zs.eraseIdx k = l; induction l with | nil => rfl | cons a l ih => simp only [sumN]; omega)
  unfold phi at hpot ⊢
  rw [sumN_set _ hk, sumN_set _ hk, sumN_set _ hk]
  rw [hsum (Mx.pend tb), hsum Mx.ful, hsum (Mx.bst tb)] at hpot
  rcases g3 with ⟨rfl, b0, b1, b2, b3⟩ | ⟨rfl, b1, b2, b3⟩
  ·have := phi_arith (a := x2.pl - x.pl) (p := (zs[k]).pend tb2) (p2 := z2.pend tb2) (f := (zs[k]).ful) (f2 := z2.ful) (b := (zs[k]).bst tb2) (b2 := z2.bst tb2) (PR := sumN (Mx.pend tb2) (zs.eraseIdx k)) (PR2 := sumN (Mx.pend tb2) (zs.eraseIdx k)) (FR := sumN Mx.ful (zs.eraseIdx k)) hB (.inl ⟨rfl, by omega, b2, b3⟩)
   omega
  ·have hP := hPf b1
   have key : (0 = 0 ∧ (zs[k]).ful = 1 ∧ z2.ful = 0 ∧ z2.bst tb2 ≤ (zs[k]).bst tb ∧ z2.pend tb2 ≤ (zs[k]).pend tb ∧ sumN (Mx.pend tb2) (zs.eraseIdx k) ≤ sumN (Mx.pend tb) (zs.eraseIdx k) + sumN Mx.ful (zs.eraseIdx k)) ∨ (0 = 0 ∧ (zs[k]).ful = 0 ∧ z2.ful = 0 ∧ (zs[k]).bst tb = 1 ∧ z2.bst tb2 = 0 ∧ z2.pend tb2 ≤ (zs[k]).pend tb ∧ sumN (Mx.pend tb2) (zs.eraseIdx k) ≤ sumN (Mx.pend tb) (zs.eraseIdx k) + sumN Mx.ful (zs.eraseIdx k)) ∨ (0 = 0 ∧ z2.ful ≤ (zs[k]).ful ∧ z2.bst tb2 ≤ (zs[k]).bst tb ∧ z2.pend tb2 ≤ (zs[k]).pend tb ∧ sumN (Mx.pend tb2) (zs.eraseIdx k) ≤ sumN (Mx.pend tb) (zs.eraseIdx k)) := by
    rcases b3 with ⟨c1, ⟨c2, c3, c4⟩ | ⟨c2, c3, c4, c5⟩⟩ | ⟨c1, c2, c3⟩
    ·rw [if_pos c1] at hP; exact .inl ⟨rfl, c2, c3, c4, b2, hP⟩
    ·rw [if_pos c1] at hP; exact .inr (.inl ⟨rfl, c2, c3, c4, c5, b2, hP⟩)
    ·rw [if_neg (by rw [c1]; decide)] at hP; exact .inr (.inr ⟨rfl, c2, c3, b2, hP⟩)
   have := phi_arith (a := 0) (BR2 := sumN (Mx.bst tb2) (zs.eraseIdx k)) (BR := sumN (Mx.bst tb) (zs.eraseIdx k)) hB (.inr key)
   omega

end Go.Hp
