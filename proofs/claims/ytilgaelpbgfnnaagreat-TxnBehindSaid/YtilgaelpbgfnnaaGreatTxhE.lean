import Derived.Test.YtilgaelpbgfnnaaGreatTxhD
set_option linter.unusedVariables false
set_option linter.unusedSimpArgs false
namespace Go.Hp
open Go Go.Proofs

theorem nd_inj : ∀ {l : List Pr}, (pgs l).Nodup → ∀ {a b : Pr}, a ∈ l → b ∈ l → a.page = b.page → a = b
 | [], _, a, b, ha, _, _ => by cases ha
 | c :: l, h, a, b, ha, hb, he => by
  obtain ⟨h1, h2⟩ := List.nodup_cons.1 (show (c.page :: pgs l).Nodup from h)
  rcases List.mem_cons.1 ha with ha2 | ha2
  ·rcases List.mem_cons.1 hb with hb2 | hb2
   ·rw [ha2, hb2]
   ·exact absurd (by rw [← ha2, he]; exact pgs_mem hb2) h1
  ·rcases List.mem_cons.1 hb with hb2 | hb2
   ·exact absurd (by rw [← hb2, ← he]; exact pgs_mem ha2) h1
   ·exact nd_inj h2 ha2 hb2 he
theorem ent_get {tb : Tb} {p : Int} {e : Ent} (h : tb.ent p = some e) : ∃ b, tb.get p = some (b, e) := by
 unfold Tb.ent at h
 obtain ⟨y, hy, rfl⟩ := Option.map_eq_some_iff.1 h
 exact ⟨y.1, hy⟩
section
variable {rs : List Pr} {no pl : Int} {x : Lg} {tb : Tb} {z : Co}
theorem Bph.step (wf : Wf rs) (hl : LgB x) (hm : x.rs.length < 58) (hp : Bph rs no pl x tb z) {b : Bool} {z2 : Co} {x2 : Lg} {tb2 : Tb} (hs : CSt x tb z b z2 x2 tb2) : BWent rs no pl x tb z b z2 x2 tb2 := by
 have hno := hp.hno
 cases hs with
 | take h =>
  obtain ⟨k, hk, hc, hcl, h5, h7⟩ := hp.k (by omega)
  exact ⟨⟨.inr (.inl rfl), hp.hno, hp.txn, hp.all, hp.hl, fun _ => ⟨k, hk, hc, hcl, fun _ => h5 (by omega), fun q => absurd (show (5 : Nat) = 7 from q) (by decide)⟩, fun q => absurd (show (5 : Nat) = 9 from q) (by decide)⟩, hl, .inl rfl, by simp [h], Nat.le_refl _, fun _ _ => rfl, fun _ _ q => q, Nat.le_succ _, ⟨fun q => (by cases q), fun q => absurd (show (5 : Nat) = 9 from q) (by decide)⟩, Nat.le_refl _, .inr (by simp [Co.mu, h])⟩
 | @commit h e x2 he ha =>
  obtain ⟨k, hk, hc, hcl, h5, h7⟩ := hp.k (by omega)
  have e1 := hl.no
  rw [hp.txn] at he ha
  have hbl : (numB no.toNat).length < 198 := by have := numB_10 (n := no.toNat) (by omega); omega
  rw [hl.apE (by omega) hbl (.inr rfl)] at he
  by_cases hcur : z.c.hn = x.no ∧ z.c.hp = x.pl
  ·rw [if_pos hcur] at he
   subst he
   obtain ⟨_, r, hk1, hrb, rfl⟩ := ha.resolve_left (fun q => q.1 rfl)
   have hnp := x.no_push r
   have e : Co.commits z.c 0 = (false, ⟨6, z.c⟩) := if_pos rfl
   rw [e]
   exact ⟨⟨.inr (.inr (.inl rfl)), ⟨hno.1, by omega⟩, hp.txn, hp.all, hp.hl, fun _ => ⟨k, hk, hc, hcl, fun q => absurd (show (6 : Nat) ≤ 5 from q) (by decide), fun q => absurd (show (6 : Nat) = 7 from q) (by decide)⟩, fun q => absurd (show (6 : Nat) = 9 from q) (by decide)⟩, hl.push (by rw [hrb]; exact hbl), .inr ⟨r, hk1, hrb, rfl⟩, by simp [Lg.push, h], by omega, fun _ _ => rfl, fun _ _ q => q, Nat.le_succ _, ⟨fun q => (by cases q), fun q => absurd (show (6 : Nat) = 9 from q) (by decide)⟩, Nat.le_refl _, .inr (by simp [Co.mu, h, hcur])⟩
  ·rw [if_neg hcur] at he
   subst he
   obtain ⟨_, rfl⟩ := ha.resolve_right (fun q => by cases q.1)
   have e : Co.commits z.c 5 = (false, ⟨4, z.c⟩) := (if_neg (by decide)).trans (if_pos rfl)
   rw [e]
   exact ⟨⟨.inl rfl, hp.hno, hp.txn, hp.all, hp.hl, fun _ => ⟨k, hk, hc, hcl, fun _ => h5 (by omega), fun q => absurd (show (4 : Nat) = 7 from q) (by decide)⟩, fun q => absurd (show (4 : Nat) = 9 from q) (by decide)⟩, hl, .inl rfl, by simp [h], Nat.le_refl _, fun _ _ => rfl, fun _ _ q => q, Nat.le_succ _, ⟨fun q => (by cases q), fun q => absurd (show (4 : Nat) = 9 from q) (by decide)⟩, Nat.le_refl _, .inr (by simp [Co.mu, h, hcur])⟩
 | look h =>
  obtain ⟨k, hk, hc, hcl, h5, h7⟩ := hp.k (by omega)
  have hqm : (rotL rs)[k] ∈ rs := (rotL_mem wf.pos _).1 (List.getElem_mem hk)
  have hd0 : z.c.clear.headD 0 = ((rotL rs)[k]).page := by rw [hc, List.drop_eq_getElem_cons hk]; rfl
  have hcl0 : z.c.clear.length = (rotL rs).length - k := by rw [hc]; unfold pgs; rw [List.length_map, List.length_drop]
  rcases hp.all _ hqm with ⟨e, h1, h2, h3, h4⟩ | ⟨e, h1, h2, h3⟩
  ·obtain ⟨bb, hg⟩ := ent_get h1
   have e1 : Co.looks tb z.c = (false, ⟨7, { z.c with ent := e }⟩) := by unfold Co.looks; rw [hd0, hg]; exact if_neg (fun q => q (by rw [hp.txn]; exact h3))
   rw [e1]
   exact ⟨⟨.inr (.inr (.inr (.inl rfl))), hp.hno, hp.txn, hp.all, hp.hl, fun _ => ⟨k, hk, hc, hcl, fun q => absurd (show (7 : Nat) ≤ 5 from q) (by decide), fun _ => h2⟩, fun q => absurd (show (7 : Nat) = 9 from q) (by decide)⟩, hl, .inl rfl, by simp [h], Nat.le_refl _, fun _ _ => rfl, fun _ _ q => q, Nat.le_succ _, ⟨fun q => (by cases q), fun q => absurd (show (7 : Nat) = 9 from q) (by decide)⟩, Nat.le_refl _, .inr (by
    have hmu : (tb.ent (z.c.clear.headD 0)).map (·.tok) = some e.tok := by rw [hd0, h1]; rfl
    simp only [Co.mu, h]; simp only [hmu]; simp; omega)⟩
  ·obtain ⟨bb, hg⟩ := ent_get h1
   have e1 : Co.looks tb z.c = Co.past z.c := by unfold Co.looks; rw [hd0, hg]; exact if_pos (fun q => by rw [hp.txn] at q; have : e.txn = no := q; omega)
   rw [e1]
   obtain ⟨q1, q2⟩ := Bph.pastP (x := x) wf hk hc hp.hno hp.txn hp.all hp.hl (fun r hr => by
    rw [List.take_succ_eq_append_getElem hk] at hr
    rcases List.mem_append.1 hr with hr | hr
    ·exact hcl r hr
    ·cases List.mem_singleton.1 hr; exact ⟨e, h1, h2, h3⟩)
   exact ⟨q1, hl, .inl rfl, by rw [if_neg (by omega : ¬ z.at_ ≤ 5)]; have := q1.at_; unfold Co.past; split <;> simp, Nat.le_refl _, fun _ _ => rfl, fun _ _ q => q, Nat.le_succ _, Co.past_at _, Co.past_clr _, .inr (by have hmu6 : z.mu x tb = 2 * z.c.clear.length := (by unfold Co.mu; rw [if_neg (by omega), if_neg (by omega), if_pos h]); omega)⟩
 | @clear h h0 r tb2 hs =>
  obtain ⟨k, hk, hc, hcl, h5, h7⟩ := hp.k (by omega)
  have hqm : (rotL rs)[k] ∈ rs := (rotL_mem wf.pos _).1 (List.getElem_mem hk)
  have hd0 : z.c.clear.headD 0 = ((rotL rs)[k]).page := by rw [hc, List.drop_eq_getElem_cons hk]; rfl
  have hq0 : z.c.clear[0]'h0 = ((rotL rs)[k]).page := by rw [← hd0, headD_0 h0]
  have hcl0 : z.c.clear.length = (rotL rs).length - k := by rw [hc]; unfold pgs; rw [List.length_map, List.length_drop]
  have hMk := h7 h
  obtain ⟨q, hq⟩ : ∃ q, q = (rotL rs)[k] := ⟨_, rfl⟩
  rw [hq0] at hs
  rw [← hq] at hqm hd0 hMk hs
  have hex : ∃ e0, tb.ent q.page = some e0 := by rcases hp.all q hqm with ⟨e, h1, _⟩ | ⟨e, h1, _⟩ <;> exact ⟨e, h1⟩
  rcases hs with ⟨hnone, _⟩ | ⟨e0, hg, ⟨hbad, _⟩ | ⟨_, hne, rfl, htb⟩ | ⟨_, heq, rfl, hsw⟩⟩
  ·obtain ⟨e, he⟩ := hex; rw [Tb.ent_none hnone] at he; cases he
  ·exact absurd hMk.clr.1 hbad
  ·have htb2 := htb.symm
   subst htb2
   have e1 : Co.clears z.c 5 = (false, ⟨6, z.c⟩) := if_pos rfl
   rw [e1]
   exact ⟨⟨.inr (.inr (.inl rfl)), hp.hno, hp.txn, hp.all, hp.hl, fun _ => ⟨k, hk, hc, hcl, fun q => absurd (show (6 : Nat) ≤ 5 from q) (by decide), fun q => absurd (show (6 : Nat) = 7 from q) (by decide)⟩, fun q => absurd (show (6 : Nat) = 9 from q) (by decide)⟩, hl, .inl rfl, by simp [h], Nat.le_refl _, fun _ _ => rfl, fun _ _ q => q, Nat.le_succ _, ⟨fun q => (by cases q), fun q => absurd (show (6 : Nat) = 9 from q) (by decide)⟩, Nat.le_refl _, .inr (by
    have hmu : ¬ (tb.ent (z.c.clear.headD 0)).map (·.tok) = some z.c.ent.tok := by rw [hd0, Tb.ent_some hg]; exact fun q => hne (Option.some.inj q)
    have hmu7 : z.mu x tb = 2 * z.c.clear.length + 1 := by unfold Co.mu; rw [if_neg (by omega), if_neg (by omega), if_neg (by omega), if_pos h, if_neg hmu]
    have hmu6 : Co.mu ⟨6, z.c⟩ x tb = 2 * z.c.clear.length := rfl
    show Co.mu ⟨6, z.c⟩ x tb < _; omega)⟩
  ·have e1 : Co.clears z.c 0 = Co.past z.c := if_neg (by decide)
   rw [e1]
   have hent := hsw.ent
   have hqc : clrd tb2 no pl q := ⟨_, (hent _).trans (if_pos rfl), ⟨mayP.tok hMk.clr.1 _, hMk.clr.2.1, hMk.clr.2.2.1, hMk.clr.2.2.2⟩, rfl⟩
   have hne : ∀ r ∈ rs, r ≠ q → tb2.ent r.page = tb.ent r.page := fun r hr hrq => by rw [hent, if_neg (fun e => hrq (nd_inj wf.nd hr hqm e))]
   have hcl' : ∀ r ∈ rs, clrd tb no pl r → clrd tb2 no pl r := fun r hr hc' => by
    by_cases e : r.page = q.page
    ·rw [nd_inj wf.nd hr hqm e]; exact hqc
    ·exact hc'.of (by rw [hent, if_neg e])
   have hall : ∀ r ∈ rs, made tb2 rs no pl r ∨ clrd tb2 no pl r := fun r hr => by
    by_cases e : r.page = q.page
    ·rw [nd_inj wf.nd hr hqm e]; exact .inr hqc
    ·have e' : tb2.ent r.page = tb.ent r.page := by rw [hent, if_neg e]
     exact (hp.all r hr).imp (fun h => h.of e') (fun h => h.of e')
   have htake : ∀ r ∈ (rotL rs).take (k + 1), clrd tb2 no pl r := fun r hr => by
    rw [List.take_succ_eq_append_getElem hk, ← hq] at hr
    rcases List.mem_append.1 hr with hr | hr
    ·exact hcl' r ((rotL_mem wf.pos r).1 (List.mem_of_mem_take hr)) (hcl r hr)
    ·cases List.mem_singleton.1 hr; exact hqc
   have hhl : clrd tb2 no pl (hdP rs) → ∀ r ∈ rs, clrd tb2 no pl r := fun hh => by
    by_cases e : (hdP rs).page = q.page
    ·have hk1 : k + 1 = (rotL rs).length := by
      rcases Nat.lt_or_ge (k + 1) (rotL rs).length with hlt | hge
      ·have hnd := rotL_nd wf.pos wf.nd
       rw [split_at hk, ← hq] at hnd
       exact absurd e ((nd_mid hnd).2 _ (hd_drop hlt))
      ·omega
     intro r hr
     have hr2 := (rotL_mem wf.pos r).2 hr
     exact htake r (by rw [hk1, List.take_length]; exact hr2)
    ·intro r hr
     exact hcl' r hr (hp.hl (hh.of (by rw [hent, if_neg e])) r hr)
   have htk := hsw.tok
   obtain ⟨q1, q2⟩ := Bph.pastP (x := x) (tb := tb2) wf hk hc hp.hno hp.txn hall hhl htake
   refine ⟨q1, hl, .inl rfl, by rw [if_neg (by omega : ¬ z.at_ ≤ 5)]; unfold Co.past; split <;> simp, Nat.le_refl _, fun j hj => by rw [hent, if_neg (fun e => hj (by rw [e]; exact pgs_mem hqm))], hcl', by omega, Co.past_at _, Co.past_clr _, .inr ?_⟩
   have hmu7 : 2 * z.c.clear.length - 1 ≤ z.mu x tb := by unfold Co.mu; rw [if_neg (by omega), if_neg (by omega), if_neg (by omega), if_pos h]; split <;> omega
   omega
 | nil h =>
  have h9 : z.at_ = 9 := by have := hp.at_; omega
  exact ⟨hp, hl, .inl rfl, Nat.le_refl _, Nat.le_refl _, fun _ _ => rfl, fun _ _ q => q, Nat.le_succ _, ⟨fun _ => h9, fun _ => rfl⟩, Nat.le_refl _, .inl h9⟩
end

end Go.Hp
