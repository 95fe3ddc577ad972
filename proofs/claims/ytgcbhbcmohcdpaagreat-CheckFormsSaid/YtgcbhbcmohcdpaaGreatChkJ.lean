import Derived.Test.YtgcbhbcmohcdpaaGreatChkI
set_option linter.unusedVariables false
set_option linter.unusedSimpArgs false
namespace Go.Hp
open Go Go.Proofs

theorem Recs.part {J : Imm} {x : Lg} (h : Recs J x) {q : Nat} (h0 : x.p0 ≤ q) (h1 : q < x.pl) : (x.part q).may ∧ (x.part q).place = (q : Int) := by
 obtain ⟨k, hk, h2, h3⟩ := x.find h0 h1
 obtain ⟨j, rfl⟩ := Nat.exists_eq_add_of_le h2
 have hr := h k hk
 have hm := pcut_may hr.ok (i := j) (by rw [kmany_eq]; show j < x.rs[k].n; omega)
 rw [kmany_eq] at hm
 rw [x.part_at hk (by omega)]
 exact ⟨hm, by simp [pcut]⟩
/-- What stands on the disk is the log's. -/
structure Lg.good (n : Nat) (x : Lg) (y : Dk) : Prop where
 ok : x.ok n
 n8 : n ≤ 8192
 on : On y n
 pt : ∀ q, x.p0 ≤ q → q < x.pl → (x.part q).may ∧ (x.part q).place = (q : Int)
 f0 : x.g.first * 8 ≤ x.p0
 se : x.sent ≤ x.g.stop * 8
 bl : ∀ q, x.p0 ≤ q → q < x.sent → bl y (jx x.g.slots q) = penc (x.part q)
theorem Lg.p0_sent {n : Nat} {x : Lg} (ok : x.ok n) : x.p0 ≤ x.sent := by have := ok.s1; unfold Lg.endP at this; omega
theorem Lg.good.push {n : Nat} {x : Lg} {y : Dk} (h : x.good n y) {J : Imm} {r : Rc} (hr : Recs J (x.push r)) (hok : (x.push r).ok n) : (x.push r).good n y := by
 refine ⟨hok, h.n8, h.on, fun q h0 h1 => hr.part h0 h1, h.f0, h.se, fun q h0 h1 => ?_⟩
 have h1 : q < x.sent := h1
 rw [x.part_push r h0 (by have := h.ok.s2; omega)]
 exact h.bl q h0 h1
theorem Lg.good.nofull {n : Nat} {x : Lg} {y : Dk} (h : x.good n y) (hs : x.sent < x.pl) (he : x.sent = x.g.stop * 8) : ¬ x.g.full := by
 have h1 := h.ok.pb; have h2 := h.ok.st; have h3 := h.ok.g.fs
 unfold Sg.full; omega
theorem Lg.good.grown {n : Nat} {x : Lg} {y : Dk} (h : x.good n y) (hs : x.sent < x.pl) : x.grown.good n y ∧ x.sent < x.grown.g.stop * 8 ∧ x.grown.sent = x.sent ∧ x.grown.pl = x.pl := by
 unfold Lg.grown
 by_cases he : x.sent = x.g.stop * 8
 ·rw [if_pos he]
  have hf := h.nofull hs he
  have e : x.g.more = ⟨x.g.slots, x.g.first, x.g.stop + 1⟩ := if_neg hf
  have hok := h.ok.setG h.n8 hf
  rw [e] at hok ⊢
  exact ⟨⟨hok, h.n8, h.on, h.pt, h.f0, by show x.sent ≤ (x.g.stop + 1) * 8; omega, h.bl⟩, by show x.sent < (x.g.stop + 1) * 8; omega, rfl, rfl⟩
 ·rw [if_neg he]
  have := h.se
  exact ⟨h, by omega, rfl, rfl⟩
theorem Lg.grown_part (x : Lg) (q : Nat) : x.grown.part q = x.part q := by unfold Lg.grown; split <;> rfl
theorem Lg.grown_slots (x : Lg) : x.grown.g.slots = x.g.slots := by
 unfold Lg.grown Lg.setG Sg.more
 split
 ·simp only
  split <;> rfl
 ·rfl
theorem Lg.grown_first (x : Lg) : x.grown.g.first = x.g.first := by
 unfold Lg.grown Lg.setG Sg.more
 split
 ·simp only
  split <;> rfl
 ·rfl
theorem Lg.good.jx {n : Nat} {x : Lg} {y : Dk} (h : x.good n y) {p q : Nat} (h0 : x.p0 ≤ p) (h1 : p < q) (h2 : q < x.pl) : Hp.jx x.g.slots p ≠ Hp.jx x.g.slots q := by
 have := h.f0; have := h.ok.pb
 exact jx_ne' h1 (by omega)
/-- A block is written. -/
theorem Lg.good.write {n : Nat} {x : Lg} {y : Dk} (h : x.good n y) (hs : x.sent < x.pl) : ∃ y', pwrt y n x.grown.g (x.part x.sent) = (y', 0) ∧ x.grown.send1.good n y' ∧ y'.waits.length = y.waits.length + 4 ∧ ∀ j, Hp.bl y' j = if j = Hp.jx x.g.slots x.sent then penc (x.part x.sent) else Hp.bl y j := by
 obtain ⟨hg, h1, h2, h3⟩ := h.grown hs
 have hp := h.pt x.sent (Lg.p0_sent h.ok) hs
 have hf := h.f0
 have hp0 := Lg.p0_sent h.ok
 obtain ⟨y', e1, o1, w1, b1⟩ := pwrt_on h.on hg.ok.g hp.1 (by rw [hp.2]; unfold phas; rw [x.grown_first]; omega)
 rw [hp.2, Int.toNat_natCast, x.grown_slots] at b1
 refine ⟨y', e1, ⟨hg.ok.send1 (by omega), h.n8, o1, hg.pt, hg.f0, by show x.grown.sent + 1 ≤ x.grown.g.stop * 8; omega, fun q h0 h1 => ?_⟩, w1, b1⟩
 have h0 : x.grown.p0 ≤ q := h0
 have h1 : q < x.grown.sent + 1 := h1
 have e0 : x.grown.p0 = x.p0 := by unfold Lg.grown; split <;> rfl
 show Hp.bl y' (Hp.jx x.grown.g.slots q) = penc (x.grown.part q)
 rw [x.grown_slots, x.grown_part, b1]
 by_cases hq : q = x.sent
 ·subst hq; rw [if_pos rfl]
 ·rw [if_neg (h.jx (by omega) (by omega) hs)]; exact h.bl q (by omega) (by omega)
theorem bl_sync {y : Dk} (j : Nat) : bl y.sync j = bl y j := by unfold Dk.sync; split <;> rfl
theorem On.sync {y : Dk} {n : Nat} (h : On y n) : On y.sync n := by
 have e : y.sync = { y with plat := y.now, waits := [], syncs := IntKind.i64.wrap (y.syncs + 1) } := by unfold Dk.sync; rw [if_neg (by simp [h.off])]
 refine ⟨Dk.sync_ok h.ok, ?_, ?_⟩
 ·rw [e]; exact h.off
 ·rw [e]; exact h.left
theorem sync_waits {y : Dk} {n : Nat} (h : On y n) : y.sync.waits = [] := by unfold Dk.sync; rw [if_neg (by simp [h.off])]
theorem Lg.good.sync {n : Nat} {x : Lg} {y : Dk} (h : x.good n y) : x.good n y.sync := ⟨h.ok, h.n8, h.on.sync, h.pt, h.f0, h.se, fun q h0 h1 => by rw [bl_sync]; exact h.bl q h0 h1⟩
theorem Lg.good.setW {n : Nat} {x : Lg} {y : Dk} (h : x.good n y) {t : Nat} (h1 : x.base ≤ t) (h2 : t ≤ x.no) (h3 : x.endP (t - x.base) ≤ x.sent) : (x.setW (max x.wr t)).good n y := ⟨h.ok.setW h1 h2 h3, h.n8, h.on, h.pt, h.f0, h.se, h.bl⟩
theorem Lg.good.read {n : Nat} {x : Lg} {y : Dk} (h : x.good n y) {q : Nat} (h0 : x.p0 ≤ q) (h1 : q < x.sent) : pread y n x.g q = (x.part q, 0) := by
 have hp := h.pt q h0 (by have := h.ok.s2; omega)
 have hf := h.f0; have hs := h.se
 unfold pread
 rw [if_pos (by unfold phas; omega), pstand_on h.on h.ok.g, h.bl q h0 h1, pdec_enc hp.1]
 exact if_pos hp.2
/-- The steps of a Flush on a disk that is on. -/
theorem fwork_write {n : Nat} {x : Lg} {y : Dk} {z : Fl} (h : x.good n y) (hz : z.ok x) (h1 : z.at_ = 1) (hs : x.sent < z.tpl) : ∃ y', fstep n x y z = (false, x.grown.send1, y', z) ∧ x.grown.send1.good n y' ∧ y'.waits.length = y.waits.length + 4 ∧ ∀ j, Hp.bl y' j = if j = Hp.jx x.g.slots x.sent then penc (x.part x.sent) else Hp.bl y j := by
 have hp : x.sent < x.pl := by have := hz.tpl (n := n) h1; omega
 obtain ⟨y', e1, g1, w1, b1⟩ := h.write hp
 refine ⟨y', ?_, g1, w1, b1⟩
 unfold fstep
 rw [h1]
 show fwork n x y z = _
 unfold fwork
 rw [if_neg (by omega), if_neg (fun hc => h.nofull hp hc.1 hc.2), e1, if_neg (fun hc => hc rfl)]
theorem fwork_sync {n : Nat} {x : Lg} {y : Dk} {z : Fl} (h : x.good n y) (h1 : z.at_ = 1) (hs : z.tpl ≤ x.sent) : fstep n x y z = (false, x, y.sync, { z with at_ := 2 }) := by
 unfold fstep
 rw [h1]
 show fwork n x y z = _
 unfold fwork
 rw [if_pos hs, if_neg (by simp [h.on.off])]
theorem fstays_eq {n : Nat} {x : Lg} {y : Dk} {z : Fl} (h1 : z.at_ = 2) : fstep n x y z = (true, x.setW (max x.wr z.tno), y, z.fin (max x.wr z.tno) 0) := by
 unfold fstep
 rw [h1]; rfl
theorem fbegin_eq {n : Nat} {x : Lg} {y : Dk} {z : Fl} (h1 : z.at_ = 0) (h2 : ¬ x.no ≤ x.wr) : fstep n x y z = (false, x, y, ⟨1, x.no, x.pl, z.n, z.e⟩) := by
 unfold fstep
 rw [h1]
 show ((fbegin x z).1, x, y, (fbegin x z).2) = _
 unfold fbegin
 rw [if_neg h2]
theorem Fl.ok.begun {n : Nat} {x : Lg} (ok : x.ok n) (a : Nat) (e : Int) : (⟨1, x.no, x.pl, a, e⟩ : Fl).ok x := ⟨fun _ => ⟨by show x.base ≤ x.no; unfold Lg.no; omega, Nat.le_refl _, by show x.pl = x.endP (x.no - x.base); unfold Lg.no; rw [Nat.add_sub_cancel_left, x.endP_len]⟩, fun h => by cases h⟩
/-- Where the log has gone on, a Flush may. -/
theorem Fl.ok.to {x x' : Lg} {z : Fl} (h : z.ok x) (h1 : x'.base = x.base) (h2 : x.no ≤ x'.no) (h3 : ∀ k, k ≤ x.rs.length → x'.endP k = x.endP k) (h4 : x.sent ≤ x'.sent) : z.ok x' := by
 refine ⟨fun ha => ?_, fun ha => Nat.le_trans (h.a2 ha) h4⟩
 obtain ⟨t1, t2, t3⟩ := h.a1 ha
 exact ⟨by omega, by omega, by rw [h1, h3 _ (by unfold Lg.no at t2; omega)]; exact t3⟩
theorem Fl.ok.push {x : Lg} {z : Fl} (h : z.ok x) (r : Rc) : z.ok (x.push r) := h.to rfl (by rw [x.no_push]; omega) (fun k hk => x.endP_push r hk) (Nat.le_refl _)
theorem Fl.ok.sent {x : Lg} {z : Fl} (h : z.ok x) : z.ok x.grown.send1 := by
 have e : x.grown.send1.base = x.base ∧ x.grown.send1.no = x.no ∧ (∀ k, x.grown.send1.endP k = x.endP k) ∧ x.grown.send1.sent = x.sent + 1 := by
  unfold Lg.grown; split <;> exact ⟨rfl, rfl, fun _ => rfl, rfl⟩
 exact h.to e.1 (by omega) (fun k _ => e.2.2.1 k) (by omega)
theorem Fl.ok.setW {x : Lg} {z : Fl} (h : z.ok x) (m : Nat) : z.ok (x.setW m) := h.to rfl (Nat.le_refl _) (fun _ _ => rfl) (Nat.le_refl _)


theorem part_new (x : Lg) (h : x.rs = []) : x.pl = x.p0 := by unfold Lg.pl; rw [h]; rfl
theorem Lg.good.new {n : Nat} {x : Lg} {y : Dk} (ok : x.ok n) (n8 : n ≤ 8192) (on : On y n) (hr : x.rs = []) (hf : x.g.first * 8 ≤ x.p0) (hs : x.sent = x.p0) (hse : x.sent ≤ x.g.stop * 8) : x.good n y :=
 ⟨ok, n8, on, fun q h0 h1 => by have := part_new x hr; omega, hf, hse, fun q h0 h1 => by omega⟩


theorem grown_same (x : Lg) : x.grown.rs = x.rs ∧ x.grown.base = x.base ∧ x.grown.p0 = x.p0 ∧ x.grown.mno = x.mno ∧ x.grown.wr = x.wr ∧ x.grown.era = x.era ∧ x.grown.sent = x.sent := by
 unfold Lg.grown; split <;> exact ⟨rfl, rfl, rfl, rfl, rfl, rfl, rfl⟩


def kx0 : Lg := ⟨1, ⟨20, 1, 1⟩, 0, 8, [], 0, 0, 8⟩
theorem kx0_ap : kx0.apE 0 8 5 [1, 8, 0, 1, 0] = 0 := by
 unfold Lg.apE
 rw [if_neg (by decide), if_neg (by decide), if_neg (by decide), if_neg (by decide), if_neg (by decide)]
theorem grown_stop (x : Lg) : x.g.stop ≤ x.grown.g.stop := by
 unfold Lg.grown Lg.setG Sg.more
 split
 ·simp only
  split
  ·exact Nat.le_refl _
  ·exact Nat.le_succ _
 ·exact Nat.le_refl _
structure AwK (r : Rc) (i : Nat) (x : Lg) (y : Dk) (z : Fl) : Prop where
 g : x.good 648 y
 zo : z.ok x
 rs : x.rs = [r]
 n1 : r.n = 1
 c : x.base = 0 ∧ x.p0 = 8 ∧ x.mno = 0 ∧ x.wr = 0 ∧ x.era = 1
 f : x.g.first = 1 ∧ 1 ≤ x.g.stop
 w : y.waits.length ≤ 4 * i
 s : (i = 0 ∧ z.at_ = 0 ∧ x.sent = 8) ∨ (i = 1 ∧ z.at_ = 1 ∧ z.tno = 1 ∧ z.tpl = 9 ∧ x.sent = 8) ∨ (i = 2 ∧ z.at_ = 1 ∧ z.tno = 1 ∧ z.tpl = 9 ∧ x.sent = 9) ∨ (i = 3 ∧ z.at_ = 2 ∧ z.tno = 1 ∧ x.sent = 9)
structure AwKE (x : Lg) (y : Dk) (z : Fl) : Prop where
 on : On y 648
 f : x.g.first ≤ 1 ∧ 1 ≤ x.g.stop
 e : z.e = 0
 w : y.waits.length ≤ 12
theorem AwK.step {r : Rc} {i : Nat} {x : Lg} {y : Dk} {z : Fl} (h : AwK r i x y z) :
  (i ≤ 2 ∧ (fstep 648 x y z).1 = false ∧ AwK r (i + 1) (fstep 648 x y z).2.1 (fstep 648 x y z).2.2.1 (fstep 648 x y z).2.2.2) ∨ (i = 3 ∧ (fstep 648 x y z).1 = true ∧ AwKE (fstep 648 x y z).2.1 (fstep 648 x y z).2.2.1 (fstep 648 x y z).2.2.2) := by
 obtain ⟨g, hz, rs, hr, ⟨c1, c2, c3, c4, c5⟩, ⟨f1, f2⟩, hw, hs⟩ := h
 have hno : x.no = 1 := by unfold Lg.no; rw [rs, c1]; rfl
 have hpl : x.pl = 9 := by unfold Lg.pl; rw [rs, c2]; simp [blocksN, hr]
 rcases hs with ⟨rfl, h1, h2⟩ | ⟨rfl, h1, h4, h5, h6⟩ | ⟨rfl, h1, h4, h5, h6⟩ | ⟨rfl, h1, h4, h5⟩
 ·left
  rw [fbegin_eq h1 (by omega)]
  exact ⟨by omega, rfl, g, Fl.ok.begun g.ok _ _, rs, hr, ⟨c1, c2, c3, c4, c5⟩, ⟨f1, f2⟩, by show y.waits.length ≤ _; omega, .inr (.inl ⟨rfl, rfl, hno, hpl, h2⟩)⟩
 ·left
  obtain ⟨y', e1, g1, w1, _⟩ := fwork_write g hz h1 (by omega)
  obtain ⟨q1, q2, q3, q4, q5, q6, q7⟩ := grown_same x
  have q8 := x.grown_first
  have q9 := grown_stop x
  rw [e1]
  exact ⟨by omega, rfl, g1, hz.sent, q1.trans rs, hr, ⟨q2.trans c1, q3.trans c2, q4.trans c3, q5.trans c4, q6.trans c5⟩, ⟨q8.trans f1, by show 1 ≤ x.grown.g.stop; omega⟩, by show y'.waits.length ≤ _; omega, .inr (.inr (.inl ⟨rfl, h1, h4, h5, by show x.grown.sent + 1 = _; omega⟩))⟩
 ·left
  rw [fwork_sync g h1 (by omega)]
  refine ⟨by omega, rfl, g.sync, ?_, rs, hr, ⟨c1, c2, c3, c4, c5⟩, ⟨f1, f2⟩, by rw [sync_waits g.on]; exact Nat.zero_le _, .inr (.inr (.inr ⟨rfl, rfl, h4, by show x.sent = 9; omega⟩))⟩
  exact ⟨fun _ => hz.a1 (.inl h1), fun _ => by show z.tpl ≤ x.sent; omega⟩
 ·right
  rw [fstays_eq h1]
  exact ⟨rfl, rfl, g.on, ⟨by show x.g.first ≤ 1; omega, f2⟩, rfl, by show y.waits.length ≤ 12; omega⟩

/-- How far a checkpoint of an empty table is. -/
inductive KpI (J : Imm) (k d s l t c : Nat) : Nat → Chunks → Prop
 | p0 {tb : Tb} {Ll Lt : Chunks} (hl : IsLog J l s d 648 kx0 (Dk.new 648) Ll) (hT : IsT J t tb Lt) (hp : tb.pages = []) (hx : tb.next = 1) : KpI J k d s l t c 0 ((k, row 82 [.pointer (some ⟨d, 0, none⟩), .pointer (some ⟨s, 0, none⟩), .pointer (some ⟨l, 0, none⟩), .pointer (some ⟨t, 0, none⟩), .pointer (some ⟨c, 0, none⟩), .int .i64 1, .int .i64 0, .int .i64 0, .int .i64 1, .int .i64 0, .func (.func 30) #[.pointer (some ⟨k, 0, none⟩)] #[], .int .i64 0, .int .i64 0, .slice none 0 0, .int .i64 0, .int .i64 0, .int .i64 0, .int .i64 0, .slice none 0 0, .int .i64 0, .int .i64 0, .int .i64 0, .int .i64 0, .int .i64 0, .int .i64 0, .int .i64 0, .int .i64 1]) :: (Ll ++ Lt))
 | p1 {tb : Tb} {Ll Lt : Chunks} (hl : IsLog J l s d 648 kx0 (Dk.new 648) Ll) (hT : IsT J t tb Lt) (hp : tb.pages = []) (hx : tb.next = 1) : KpI J k d s l t c 1 ((k, row 82 [.pointer (some ⟨d, 0, none⟩), .pointer (some ⟨s, 0, none⟩), .pointer (some ⟨l, 0, none⟩), .pointer (some ⟨t, 0, none⟩), .pointer (some ⟨c, 0, none⟩), .int .i64 1, .int .i64 0, .int .i64 0, .int .i64 1, .int .i64 0, .func (.func 47) #[.pointer (some ⟨k, 0, none⟩)] #[], .int .i64 0, .int .i64 8, .slice none 0 0, .int .i64 1, .int .i64 8, .int .i64 0, .int .i64 0, .slice none 0 0, .int .i64 0, .int .i64 0, .int .i64 0, .int .i64 0, .int .i64 0, .int .i64 0, .int .i64 0, .int .i64 1]) :: (Lt ++ Ll))
 | p2 {tb : Tb} {Ll Lt : Chunks} {A : Option Addr} {ca : Nat} (hl : IsLog J l s d 648 kx0 (Dk.new 648) Ll) (hT : IsT J t tb Lt) (hx : tb.next = 1) : KpI J k d s l t c 2 ((k, row 82 [.pointer (some ⟨d, 0, none⟩), .pointer (some ⟨s, 0, none⟩), .pointer (some ⟨l, 0, none⟩), .pointer (some ⟨t, 0, none⟩), .pointer (some ⟨c, 0, none⟩), .int .i64 1, .int .i64 0, .int .i64 0, .int .i64 1, .int .i64 0, .func (.func 59) #[.pointer (some ⟨k, 0, none⟩)] #[], .int .i64 0, .int .i64 8, (.slice A 0 ca), .int .i64 1, .int .i64 8, .int .i64 0, .int .i64 0, .slice none 0 0, .int .i64 0, .int .i64 0, .int .i64 0, .int .i64 0, .int .i64 0, .int .i64 0, .int .i64 0, .int .i64 1]) :: (Lt ++ Ll))
 | p3 {Ll Lx : Chunks} {A : Option Addr} {ca : Nat} (hl : IsLog J l s d 648 kx0 (Dk.new 648) Ll) : KpI J k d s l t c 3 ((k, row 82 [.pointer (some ⟨d, 0, none⟩), .pointer (some ⟨s, 0, none⟩), .pointer (some ⟨l, 0, none⟩), .pointer (some ⟨t, 0, none⟩), .pointer (some ⟨c, 0, none⟩), .int .i64 1, .int .i64 0, .int .i64 0, .int .i64 1, .int .i64 0, .func (.func 69) #[.pointer (some ⟨k, 0, none⟩)] #[], .int .i64 0, .int .i64 8, (.slice A 0 ca), .int .i64 1, .int .i64 8, .int .i64 0, .int .i64 1, .slice none 0 0, .int .i64 0, .int .i64 0, .int .i64 0, .int .i64 0, .int .i64 0, .int .i64 0, .int .i64 0, .int .i64 1]) :: (Ll ++ Lx))
 | p4 {Ll Lx : Chunks} {A : Option Addr} {ca : Nat} (hl : IsLog J l s d 648 kx0 (Dk.new 648) Ll) : KpI J k d s l t c 4 ((k, row 82 [.pointer (some ⟨d, 0, none⟩), .pointer (some ⟨s, 0, none⟩), .pointer (some ⟨l, 0, none⟩), .pointer (some ⟨t, 0, none⟩), .pointer (some ⟨c, 0, none⟩), .int .i64 1, .int .i64 0, .int .i64 0, .int .i64 1, .int .i64 0, .func (.func 82) #[.pointer (some ⟨k, 0, none⟩)] #[], .int .i64 0, .int .i64 8, (.slice A 0 ca), .int .i64 1, .int .i64 8, .int .i64 0, .int .i64 1, .slice none 0 0, .int .i64 0, .int .i64 8, .int .i64 0, .int .i64 0, .int .i64 0, .int .i64 0, .int .i64 0, .int .i64 1]) :: (Ll ++ Lx))
 | pf {Ll Lx : Chunks} {A : Option Addr} {ca f b1 b4 b5 b7 i : Nat} {r : Rc} {x : Lg} {y : Dk} {z : Fl} (hl : IsLog J l s d 648 x y Ll) (hw : AwK r i x y z) : KpI J k d s l t c (i + 5) ((k, row 82 [.pointer (some ⟨d, 0, none⟩), .pointer (some ⟨s, 0, none⟩), .pointer (some ⟨l, 0, none⟩), .pointer (some ⟨t, 0, none⟩), .pointer (some ⟨c, 0, none⟩), .int .i64 1, .int .i64 0, .int .i64 0, .int .i64 1, .int .i64 0, .func (.func 72) #[] #[.pointer (some ⟨b4, 0, none⟩), .pointer (some ⟨b5, 0, none⟩)], .int .i64 0, .int .i64 8, (.slice A 0 ca), .int .i64 1, .int .i64 8, .int .i64 0, .int .i64 1, .slice none 0 0, .int .i64 0, .int .i64 8, .int .i64 0, .int .i64 0, .int .i64 0, .int .i64 0, .int .i64 0, .int .i64 1]) :: (b4, row 26 [.func (.func 94) #[.pointer (some ⟨f, 0, none⟩)] #[]]) :: (b5, row 26 [.func (.func 95) #[] #[.pointer (some ⟨b7, 0, none⟩), .pointer (some ⟨b1, 0, none⟩)]]) :: (b7, row 210 [.pointer (some ⟨f, 0, none⟩)]) :: (b1, row 38 [.pointer (some ⟨k, 0, none⟩)]) :: (f, row 225 (flV l f z)) :: (Ll ++ Lx))
 | p9 {Ld Lx : Chunks} {A : Option Addr} {ca : Nat} {y : Dk} {g : Sg} (hd : IsDisk d 648 y Ld) (on : On y 648) (hw : y.waits.length ≤ 12) (hg : g.first ≤ 1 ∧ 1 ≤ g.stop) : KpI J k d s l t c 9 ((k, row 82 [.pointer (some ⟨d, 0, none⟩), .pointer (some ⟨s, 0, none⟩), .pointer (some ⟨l, 0, none⟩), .pointer (some ⟨t, 0, none⟩), .pointer (some ⟨c, 0, none⟩), .int .i64 1, .int .i64 0, .int .i64 0, .int .i64 1, .int .i64 0, .func (.func 97) #[.pointer (some ⟨k, 0, none⟩)] #[], .int .i64 0, .int .i64 8, (.slice A 0 ca), .int .i64 1, .int .i64 8, .int .i64 0, .int .i64 1, .slice none 0 0, .int .i64 0, .int .i64 8, .int .i64 0, .int .i64 0, .int .i64 0, .int .i64 0, .int .i64 0, .int .i64 1]) :: (Ld ++ ((s, row 122 (sgV d g)) :: Lx)))
 | p10 {Ld Lx : Chunks} {A : Option Addr} {ca : Nat} {y : Dk} {g : Sg} (hd : IsDisk d 648 y Ld) (on : On y 648) (hg : g.first ≤ 1 ∧ 1 ≤ g.stop) : KpI J k d s l t c 10 ((k, row 82 [.pointer (some ⟨d, 0, none⟩), .pointer (some ⟨s, 0, none⟩), .pointer (some ⟨l, 0, none⟩), .pointer (some ⟨t, 0, none⟩), .pointer (some ⟨c, 0, none⟩), .int .i64 1, .int .i64 0, .int .i64 0, .int .i64 1, .int .i64 0, .func (.func 110) #[.pointer (some ⟨k, 0, none⟩)] #[], .int .i64 0, .int .i64 8, (.slice A 0 ca), .int .i64 1, .int .i64 8, .int .i64 0, .int .i64 1, .slice none 0 0, .int .i64 0, .int .i64 8, .int .i64 2, .int .i64 8, .int .i64 1, .int .i64 1, .int .i64 0, .int .i64 1]) :: (Ld ++ ((s, row 122 (sgV d g)) :: Lx)))
 | p11 {Lx : Chunks} {A : Option Addr} {ca : Nat} {g : Sg} (hg : g.first ≤ 1 ∧ 1 ≤ g.stop) : KpI J k d s l t c 11 ((k, row 82 [.pointer (some ⟨d, 0, none⟩), .pointer (some ⟨s, 0, none⟩), .pointer (some ⟨l, 0, none⟩), .pointer (some ⟨t, 0, none⟩), .pointer (some ⟨c, 0, none⟩), .int .i64 1, .int .i64 0, .int .i64 0, .int .i64 1, .int .i64 0, .func (.func 122) #[.pointer (some ⟨k, 0, none⟩)] #[], .int .i64 0, .int .i64 8, (.slice A 0 ca), .int .i64 1, .int .i64 8, .int .i64 0, .int .i64 1, .slice none 0 0, .int .i64 0, .int .i64 8, .int .i64 2, .int .i64 8, .int .i64 1, .int .i64 1, .int .i64 0, .int .i64 1]) :: (s, row 122 (sgV d g)) :: Lx)
 | p12 {Lx : Chunks} {A : Option Addr} {ca : Nat} : KpI J k d s l t c 12 ((k, row 82 [.pointer (some ⟨d, 0, none⟩), .pointer (some ⟨s, 0, none⟩), .pointer (some ⟨l, 0, none⟩), .pointer (some ⟨t, 0, none⟩), .pointer (some ⟨c, 0, none⟩), .int .i64 1, .int .i64 0, .int .i64 0, .int .i64 1, .int .i64 0, .nilFunc, .int .i64 0, .int .i64 8, (.slice A 0 ca), .int .i64 1, .int .i64 8, .int .i64 0, .int .i64 1, .slice none 0 0, .int .i64 0, .int .i64 8, .int .i64 2, .int .i64 8, .int .i64 1, .int .i64 1, .int .i64 0, .int .i64 0]) :: Lx)
theorem kperm {α : Type} {S : α} {A B C : List α} : ((A ++ (S :: B)) ++ C).Perm (B ++ (S :: (A ++ C))) := by
 rw [List.append_assoc, List.cons_append]
 refine (List.perm_middle).trans ?_; refine List.Perm.trans ?_ (List.perm_middle).symm
 refine List.Perm.cons _ ?_; rw [← List.append_assoc, ← List.append_assoc]
 exact (List.perm_append_comm).append_right _

theorem kp_Step {J : Imm} {k d s l t c i : Nat} {L : Chunks} (h : KpI J k d s l t c i L) (hi : i ≤ 11) : Spec Tryz.prog 12 [.pointer (some ⟨k, 0, none⟩)] J L (fun v J2 L2 => v = .bool (decide (i = 11)) ∧ KpI J2 k d s l t c (i + 1) L2) := by
 cases h with
 | @p0 tb Ll Lt hl hT hp hx =>
  refine kp_StepF (f := 30) (rs := [.pointer (some ⟨k, 0, none⟩)]) (us := []) (b := false) (R := fun J2 L2 => KpI J2 k d s l t c 1 L2) rfl Tryz.func30 rfl ?_; refine Spec.reorder (kp_marks hl (by decide)) (G := Lt) (.refl _) ?_; rintro v J2 L1 - ⟨rfl, rfl, rfl⟩
  exact ⟨(k, row 82 [.pointer (some ⟨d, 0, none⟩), .pointer (some ⟨s, 0, none⟩), .pointer (some ⟨l, 0, none⟩), .pointer (some ⟨t, 0, none⟩), .pointer (some ⟨c, 0, none⟩), .int .i64 1, .int .i64 0, .int .i64 0, .int .i64 1, .int .i64 0, .func (.func 47) #[.pointer (some ⟨k, 0, none⟩)] #[], .int .i64 0, .int .i64 8, .slice none 0 0, .int .i64 1, .int .i64 8, .int .i64 0, .int .i64 0, .slice none 0 0, .int .i64 0, .int .i64 0, .int .i64 0, .int .i64 0, .int .i64 0, .int .i64 0, .int .i64 0, .int .i64 1]) :: (Lt ++ Ll), (List.perm_append_comm).cons _, rfl, .p1 hl hT hp hx⟩
 | @p1 tb Ll Lt hl hT hp hx =>
  refine kp_StepF (f := 47) (rs := [.pointer (some ⟨k, 0, none⟩)]) (us := []) (b := false) (R := fun J2 L2 => KpI J2 k d s l t c 2 L2) rfl Tryz.func47 rfl ?_; refine Spec.reorder (kp_pages hT hp) (G := Ll) (.refl _) ?_; rintro v J2 L1 - ⟨rfl, rfl, A, ca, rfl⟩
  exact ⟨_, .refl _, rfl, .p2 hl hT hx⟩
 | @p2 tb Ll Lt A ca hl hT hx =>
  refine kp_StepF (f := 59) (rs := [.pointer (some ⟨k, 0, none⟩)]) (us := []) (b := false) (R := fun J2 L2 => KpI J2 k d s l t c 3 L2) rfl Tryz.func59 rfl ?_; refine Spec.reorder (kp_nexts hT) (G := Ll) (.refl _) ?_; rintro v J2 L1 - ⟨rfl, rfl, rfl⟩
  rw [hx]
  exact ⟨(k, row 82 [.pointer (some ⟨d, 0, none⟩), .pointer (some ⟨s, 0, none⟩), .pointer (some ⟨l, 0, none⟩), .pointer (some ⟨t, 0, none⟩), .pointer (some ⟨c, 0, none⟩), .int .i64 1, .int .i64 0, .int .i64 0, .int .i64 1, .int .i64 0, .func (.func 69) #[.pointer (some ⟨k, 0, none⟩)] #[], .int .i64 0, .int .i64 8, (.slice A 0 ca), .int .i64 1, .int .i64 8, .int .i64 0, .int .i64 1, .slice none 0 0, .int .i64 0, .int .i64 0, .int .i64 0, .int .i64 0, .int .i64 0, .int .i64 0, .int .i64 0, .int .i64 1]) :: (Ll ++ Lt), (List.perm_append_comm).cons _, rfl, .p3 hl⟩
 | @p3 Ll Lx A ca hl =>
  refine kp_StepF (f := 69) (rs := [.pointer (some ⟨k, 0, none⟩)]) (us := []) (b := false) (R := fun J2 L2 => KpI J2 k d s l t c 4 L2) rfl Tryz.func69 rfl ?_; refine Spec.reorder (kp_heads hl) (G := Lx) (.refl _) ?_; rintro v J2 L1 - ⟨rfl, rfl, rfl⟩
  exact ⟨(k, row 82 [.pointer (some ⟨d, 0, none⟩), .pointer (some ⟨s, 0, none⟩), .pointer (some ⟨l, 0, none⟩), .pointer (some ⟨t, 0, none⟩), .pointer (some ⟨c, 0, none⟩), .int .i64 1, .int .i64 0, .int .i64 0, .int .i64 1, .int .i64 0, .func (.func 82) #[.pointer (some ⟨k, 0, none⟩)] #[], .int .i64 0, .int .i64 8, (.slice A 0 ca), .int .i64 1, .int .i64 8, .int .i64 0, .int .i64 1, .slice none 0 0, .int .i64 0, .int .i64 8, .int .i64 0, .int .i64 0, .int .i64 0, .int .i64 0, .int .i64 0, .int .i64 1]) :: (Ll ++ Lx), .refl _, rfl, .p4 hl⟩
 | @p4 Ll Lx A ca hl =>
  refine kp_StepF (f := 82) (rs := [.pointer (some ⟨k, 0, none⟩)]) (us := []) (b := false) (R := fun J2 L2 => KpI J2 k d s l t c 5 L2) rfl Tryz.func82 rfl ?_; refine Spec.reorder (kp_appends (hn := 0) (hp := 8) hl kx0_ap) (G := Lx) (.refl _) ?_; rintro v J2 L1 - ⟨rfl, r, f, b4, b5, b7, b1, L4, hrk, hrb, rfl, hl4⟩
  have hg := (Lg.good.new (x := kx0) (y := Dk.new 648) hl.ok (by decide) (On.new (by decide) (by decide)) rfl (by decide) rfl (by decide)).push hl4.recs hl4.ok
  have hrn : r.n = 1 := by unfold Rc.n; rw [hrb]; rfl
  exact ⟨(k, row 82 [.pointer (some ⟨d, 0, none⟩), .pointer (some ⟨s, 0, none⟩), .pointer (some ⟨l, 0, none⟩), .pointer (some ⟨t, 0, none⟩), .pointer (some ⟨c, 0, none⟩), .int .i64 1, .int .i64 0, .int .i64 0, .int .i64 1, .int .i64 0, .func (.func 72) #[] #[.pointer (some ⟨b4, 0, none⟩), .pointer (some ⟨b5, 0, none⟩)], .int .i64 0, .int .i64 8, (.slice A 0 ca), .int .i64 1, .int .i64 8, .int .i64 0, .int .i64 1, .slice none 0 0, .int .i64 0, .int .i64 8, .int .i64 0, .int .i64 0, .int .i64 0, .int .i64 0, .int .i64 0, .int .i64 1]) :: (b4, row 26 [.func (.func 94) #[.pointer (some ⟨f, 0, none⟩)] #[]]) :: (b5, row 26 [.func (.func 95) #[] #[.pointer (some ⟨b7, 0, none⟩), .pointer (some ⟨b1, 0, none⟩)]]) :: (b7, row 210 [.pointer (some ⟨f, 0, none⟩)]) :: (b1, row 38 [.pointer (some ⟨k, 0, none⟩)]) :: (f, row 225 (flV l f ⟨0, 0, 0, 0, 1⟩)) :: (L4 ++ Lx), .refl _, rfl, .pf (i := 0) hl4 ⟨hg, ⟨fun h => (by rcases h with h | h <;> cases h), fun h => (by cases h)⟩, rfl, hrn, ⟨rfl, rfl, rfl, rfl, rfl⟩, ⟨rfl, Nat.le_refl _⟩, Nat.zero_le _, .inl ⟨rfl, rfl, rfl⟩⟩⟩
 | @pf Ll Lx A ca f b1 b4 b5 b7 j r x y z hl hw =>
  have hwb : y.waits.length + 8192 ≤ 1954687338000 := by
   have h1 := hw.w
   have h2 : j ≤ 3 := by rcases hw.s with h | h | h | h <;> omega
   omega
  rcases hw.step with ⟨h1, h2, h3⟩ | ⟨rfl, h2, h3⟩
  ·rw [show decide (j + 5 = 11) = false from decide_eq_false (by omega)]
   refine kp_StepF (f := 72) (rs := []) (us := [.pointer (some ⟨b4, 0, none⟩), .pointer (some ⟨b5, 0, none⟩)]) (b := false) (R := fun J2 L2 => KpI J2 k d s l t c (j + 5 + 1) L2) rfl Tryz.func72 rfl ?_; refine Spec.reorder (kp_wait_f hl hw.zo hwb h2) (G := Lx) (.refl _) ?_; rintro v J2 L1 - ⟨rfl, L2, rfl, hl2⟩
   rw [show j + 5 + 1 = (j + 1) + 5 by omega]
   exact ⟨(k, row 82 [.pointer (some ⟨d, 0, none⟩), .pointer (some ⟨s, 0, none⟩), .pointer (some ⟨l, 0, none⟩), .pointer (some ⟨t, 0, none⟩), .pointer (some ⟨c, 0, none⟩), .int .i64 1, .int .i64 0, .int .i64 0, .int .i64 1, .int .i64 0, .func (.func 72) #[] #[.pointer (some ⟨b4, 0, none⟩), .pointer (some ⟨b5, 0, none⟩)], .int .i64 0, .int .i64 8, (.slice A 0 ca), .int .i64 1, .int .i64 8, .int .i64 0, .int .i64 1, .slice none 0 0, .int .i64 0, .int .i64 8, .int .i64 0, .int .i64 0, .int .i64 0, .int .i64 0, .int .i64 0, .int .i64 1]) :: (b4, row 26 [.func (.func 94) #[.pointer (some ⟨f, 0, none⟩)] #[]]) :: (b5, row 26 [.func (.func 95) #[] #[.pointer (some ⟨b7, 0, none⟩), .pointer (some ⟨b1, 0, none⟩)]]) :: (b7, row 210 [.pointer (some ⟨f, 0, none⟩)]) :: (b1, row 38 [.pointer (some ⟨k, 0, none⟩)]) :: (f, row 225 (flV l f (fstep 648 x y z).2.2.2)) :: (L2 ++ Lx), .refl _, rfl, .pf hl2 h3⟩
  ·refine kp_StepF (f := 72) (rs := []) (us := [.pointer (some ⟨b4, 0, none⟩), .pointer (some ⟨b5, 0, none⟩)]) (b := false) (R := fun J2 L2 => KpI J2 k d s l t c (3 + 5 + 1) L2) rfl Tryz.func72 rfl ?_
   refine Spec.reorder (kp_wait_t hl hw.zo hwb h2 h3.e) (G := Lx) (.refl _) ?_; rintro v J2 L1 - ⟨rfl, L2, rfl, hl2⟩
   obtain ⟨Lr, Ld, rfl, hd, _⟩ := hl2.disk
   exact ⟨(k, row 82 [.pointer (some ⟨d, 0, none⟩), .pointer (some ⟨s, 0, none⟩), .pointer (some ⟨l, 0, none⟩), .pointer (some ⟨t, 0, none⟩), .pointer (some ⟨c, 0, none⟩), .int .i64 1, .int .i64 0, .int .i64 0, .int .i64 1, .int .i64 0, .func (.func 97) #[.pointer (some ⟨k, 0, none⟩)] #[], .int .i64 0, .int .i64 8, (.slice A 0 ca), .int .i64 1, .int .i64 8, .int .i64 0, .int .i64 1, .slice none 0 0, .int .i64 0, .int .i64 8, .int .i64 0, .int .i64 0, .int .i64 0, .int .i64 0, .int .i64 0, .int .i64 1]) :: (Ld ++ ((s, row 122 (sgV d (fstep 648 x y z).2.1.g)) :: (Lr ++ Lx))), (kperm.symm).cons _, rfl, .p9 hd h3.on h3.w h3.f⟩
 | @p9 Ld Lx A ca y g hd on hw hg =>
  refine kp_StepF (f := 97) (rs := [.pointer (some ⟨k, 0, none⟩)]) (us := []) (b := false) (R := fun J2 L2 => KpI J2 k d s l t c 10 L2) rfl Tryz.func97 rfl ?_; refine Spec.reorder (kp_writes hd on (by decide) (by omega)) (G := (s, row 122 (sgV d g)) :: Lx) (.refl _) ?_; rintro v J2 L1 - ⟨rfl, y2, Ld2, rfl, hd2, on2⟩
  exact ⟨(k, row 82 [.pointer (some ⟨d, 0, none⟩), .pointer (some ⟨s, 0, none⟩), .pointer (some ⟨l, 0, none⟩), .pointer (some ⟨t, 0, none⟩), .pointer (some ⟨c, 0, none⟩), .int .i64 1, .int .i64 0, .int .i64 0, .int .i64 1, .int .i64 0, .func (.func 110) #[.pointer (some ⟨k, 0, none⟩)] #[], .int .i64 0, .int .i64 8, (.slice A 0 ca), .int .i64 1, .int .i64 8, .int .i64 0, .int .i64 1, .slice none 0 0, .int .i64 0, .int .i64 8, .int .i64 2, .int .i64 8, .int .i64 1, .int .i64 1, .int .i64 0, .int .i64 1]) :: (Ld2 ++ ((s, row 122 (sgV d g)) :: Lx)), .refl _, rfl, .p10 hd2 on2 hg⟩
 | @p10 Ld Lx A ca y g hd on hg =>
  refine kp_StepF (f := 110) (rs := [.pointer (some ⟨k, 0, none⟩)]) (us := []) (b := false) (R := fun J2 L2 => KpI J2 k d s l t c 11 L2) rfl Tryz.func110 rfl ?_; refine Spec.reorder (kp_syncs hd on) (G := (s, row 122 (sgV d g)) :: Lx) (.refl _) ?_; rintro v J2 L1 - ⟨rfl, rfl, Ld2, rfl⟩
  exact ⟨(k, row 82 [.pointer (some ⟨d, 0, none⟩), .pointer (some ⟨s, 0, none⟩), .pointer (some ⟨l, 0, none⟩), .pointer (some ⟨t, 0, none⟩), .pointer (some ⟨c, 0, none⟩), .int .i64 1, .int .i64 0, .int .i64 0, .int .i64 1, .int .i64 0, .func (.func 122) #[.pointer (some ⟨k, 0, none⟩)] #[], .int .i64 0, .int .i64 8, (.slice A 0 ca), .int .i64 1, .int .i64 8, .int .i64 0, .int .i64 1, .slice none 0 0, .int .i64 0, .int .i64 8, .int .i64 2, .int .i64 8, .int .i64 1, .int .i64 1, .int .i64 0, .int .i64 1]) :: (s, row 122 (sgV d g)) :: (Ld2 ++ Lx), ((List.perm_middle).symm).cons _, rfl, .p11 hg⟩
 | @p11 Lx A ca g hg =>
  refine kp_StepF (f := 122) (rs := [.pointer (some ⟨k, 0, none⟩)]) (us := []) (b := true) (R := fun J2 L2 => KpI J2 k d s l t c 12 L2) rfl Tryz.func122 rfl ?_; refine Spec.reorder (kp_releases hg.1 hg.2) (G := Lx) (.refl _) ?_; rintro v J2 L1 - ⟨rfl, rfl, L2, rfl⟩
  exact ⟨(k, row 82 [.pointer (some ⟨d, 0, none⟩), .pointer (some ⟨s, 0, none⟩), .pointer (some ⟨l, 0, none⟩), .pointer (some ⟨t, 0, none⟩), .pointer (some ⟨c, 0, none⟩), .int .i64 1, .int .i64 0, .int .i64 0, .int .i64 1, .int .i64 0, .nilFunc, .int .i64 0, .int .i64 8, (.slice A 0 ca), .int .i64 1, .int .i64 8, .int .i64 0, .int .i64 1, .slice none 0 0, .int .i64 0, .int .i64 8, .int .i64 2, .int .i64 8, .int .i64 1, .int .i64 1, .int .i64 0, .int .i64 0]) :: (L2 ++ Lx), .refl _, rfl, .p12⟩
 | p12 => omega

end Go.Hp
