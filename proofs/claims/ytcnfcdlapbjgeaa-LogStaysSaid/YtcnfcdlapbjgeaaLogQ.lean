import Derived.Test.YtcnfcdlapbjgeaaLogN
set_option linter.unusedVariables false
set_option linter.unusedSimpArgs false
namespace Go.Hp
open Go Go.Proofs

/-- What the platters have at a block. -/
def plb (x : Dk) (j : Nat) : List UInt8 := (x.plat.drop ((8 + j * 4) * 64)).take 256
theorem puts_more : ∀ (k : Nat) (x : Dk) (a : Nat) (b : List UInt8), x.left = -1 →
  (Dk.puts k x a b).1.plat = x.plat ∧ (0 ≤ x.writes → x.writes + k ≤ 9223372036854775807 → (Dk.puts k x a b).1.writes = x.writes + k) ∧ ∃ ws, (Dk.puts k x a b).1.waits = x.waits ++ ws ∧ ∀ e ∈ ws, a ≤ e.1 ∧ e.1 < a + k
 | 0, x, a, b, _ => ⟨rfl, fun _ _ => by simp [Dk.puts], [], by simp [Dk.puts], fun e he => by cases he⟩
 | k + 1, x, a, b, h => by
  have hw : 0 ≤ x.writes → x.writes + (k + 1 : Nat) ≤ 9223372036854775807 → (x.write1 a (b.take 64)).writes = x.writes + 1 := fun h0 h1 => by
   show IntKind.i64.wrap (x.writes + 1) = _
   exact wrap64_id ⟨by omega, by omega⟩
  obtain ⟨e1, e2, ws, e3, e4⟩ := puts_more k (x.write1 a (b.take 64)) (a + 1) (b.drop 64) (by show dec x.left = -1; rw [h]; rfl)
  rw [Dk.puts, if_neg (by rw [h]; decide)]
  refine ⟨e1, fun h0 h1 => by have := hw h0 h1; rw [e2 (by omega) (by omega), this]; omega, (a, b.take 64) :: ws, ?_, fun e he => ?_⟩
  ·rw [e3]; show (x.waits ++ [_]) ++ ws = _; rw [List.append_assoc]; rfl
  ·rcases List.mem_cons.1 he with rfl | he
   ·exact ⟨Nat.le_refl _, by show a < a + (k + 1); omega⟩
   ·have := e4 e he; omega
theorem pwrt_more {x : Dk} {n : Nat} {g : Sg} {p : Pt} (h : On x n) (hg : g.ok n) (hm : p.may) (hh : phas g p.place) :
  (pwrt x n g p).1.plat = x.plat ∧ (0 ≤ x.writes → x.writes + 4 ≤ 9223372036854775807 → (pwrt x n g p).1.writes = x.writes + 4) ∧ ∃ ws, (pwrt x n g p).1.waits = x.waits ++ ws ∧ ∀ e ∈ ws, 8 + jx g.slots p.place.toNat * 4 ≤ e.1 ∧ e.1 < 8 + jx g.slots p.place.toNat * 4 + 4 := by
 have hl := penc_len hm.len.2
 have hp := psec_lt hg p.place.toNat
 have e : pwrt x n g p = Dk.puts 4 x (psec g p.place.toNat) (penc p) := by
  unfold pwrt
  rw [if_pos hm, if_pos hh]
  unfold Dk.write
  rw [if_neg (by simp [h.off]), if_neg (by omega), if_neg (by omega), hl]; rfl
 rw [e]
 exact puts_more 4 x _ _ h.left
theorem tear_get {n i : Nat} : ∀ (l : List (Nat × List UInt8)) (p : List UInt8) (ks : List Int), (∀ e ∈ l, e.1 < n ∧ e.2.length = 64) → p.length = n * 64 → (∀ e ∈ l, i < e.1 * 64 ∨ e.1 * 64 + 64 ≤ i) → (tear p l ks)[i]? = p[i]?
 | [], p, ks, _, _, _ => rfl
 | e :: l, p, ks, h, hp, hi => by
  have he := h e (by simp)
  have hi2 := hi e (by simp)
  have hk := keepN_le (ks.headD 0)
  rw [tear, tear_get l _ _ (fun a ha => h a (by simp [ha])) (torn_len hp he) (fun a ha => hi a (by simp [ha]))]
  exact put_get (m := keepN (ks.headD 0)) (by rw [List.length_take, he.2]; omega) (by omega) (by omega)
theorem On.up {x : Dk} {n : Nat} (h : On x n) (ks : List Int) : On (x.up ks) n := ⟨Dk.up_ok h.ok ks, rfl, rfl⟩
/-- What no write that waits touches stays. -/
theorem bl_up {x : Dk} {n j : Nat} (h : x.ok n) (ks : List Int) (hw : ∀ e ∈ x.waits, ¬ (8 + j * 4 ≤ e.1 ∧ e.1 < 8 + j * 4 + 4)) : bl (x.up ks) j = plb x j := by
 unfold bl plb
 apply List.ext_getElem?
 intro i
 rw [List.getElem?_take, List.getElem?_take]
 split
 ·rw [List.getElem?_drop, List.getElem?_drop]
  exact tear_get (n := n) _ _ _ h.hw h.lp (fun e he => by have := hw e he; omega)
 ·rfl
def Lg.top (x : Lg) : Nat := (x.g.first + x.g.slots) * 8
/-- A log whose blocks up to P are on the platters. -/
structure Tidy (n P : Nat) (x : Lg) (y : Dk) : Prop where
 g : x.good n y
 wl : y.waits.length ≤ 4 * (x.sent - x.p0)
 w0 : x.p0 ≤ P
 w1 : x.endP (x.wr - x.base) ≤ P
 w2 : P ≤ x.sent
 sp : ∀ q, x.p0 ≤ q → q < P → plb y (Hp.jx x.g.slots q) = penc (x.part q)
 sw : ∀ q, x.p0 ≤ q → q < P → ∀ e ∈ y.waits, ¬ (8 + Hp.jx x.g.slots q * 4 ≤ e.1 ∧ e.1 < 8 + Hp.jx x.g.slots q * 4 + 4)
/-- Nothing stands behind it. -/
structure Blank (x : Lg) (y : Dk) : Prop where
 w : y.writes = 4 * ((x.sent - x.p0 : Nat) : Int)
 z : ∀ q, x.sent ≤ q → q < x.top → bl y (jx x.g.slots q) = List.replicate 256 0
/-- A log that has gone on, with no record more. -/
structure Nx (x x' : Lg) : Prop where
 rs : x'.rs = x.rs
 base : x'.base = x.base
 p0 : x'.p0 = x.p0
 mno : x'.mno = x.mno
 era : x'.era = x.era
 first : x'.g.first = x.g.first
 slots : x'.g.slots = x.g.slots
 wr : x.wr ≤ x'.wr
 sent : x.sent ≤ x'.sent
theorem Nx.refl (x : Lg) : Nx x x := ⟨rfl, rfl, rfl, rfl, rfl, rfl, rfl, Nat.le_refl _, Nat.le_refl _⟩
theorem Nx.trans {x y z : Lg} (h : Nx x y) (k : Nx y z) : Nx x z := ⟨k.rs.trans h.rs, k.base.trans h.base, k.p0.trans h.p0, k.mno.trans h.mno, k.era.trans h.era, k.first.trans h.first, k.slots.trans h.slots, Nat.le_trans h.wr k.wr, Nat.le_trans h.sent k.sent⟩
theorem Nx.endP {x x' : Lg} (h : Nx x x') (k : Nat) : x'.endP k = x.endP k := by unfold Lg.endP; rw [h.rs, h.p0]
theorem Nx.no {x x' : Lg} (h : Nx x x') : x'.no = x.no := by unfold Lg.no; rw [h.rs, h.base]
theorem Nx.pl {x x' : Lg} (h : Nx x x') : x'.pl = x.pl := by unfold Lg.pl; rw [h.rs, h.p0]
theorem Nx.top {x x' : Lg} (h : Nx x x') : x'.top = x.top := by unfold Lg.top; rw [h.first, h.slots]
theorem Nx.flok {x x' : Lg} {z : Fl} (h : Nx x x') (hz : z.ok x) : z.ok x' := hz.to h.base (by rw [h.no]; exact Nat.le_refl _) (fun k _ => h.endP k) h.sent
/-- How far a Flush is that is to have N records stay. -/
structure Fl.st (N P : Nat) (x : Lg) (z : Fl) : Prop where
 a : z.at_ ≤ 3
 n : N ≤ x.no
 s1 : z.at_ = 1 → N ≤ z.tno
 s2 : z.at_ = 2 → N ≤ z.tno ∧ z.tpl ≤ P
 s3 : z.at_ = 3 → z.e = 0 ∧ z.n ≤ x.wr ∧ N ≤ z.n
theorem Fl.st.to {N P P' : Nat} {x x' : Lg} {z : Fl} (h : z.st N P x) (h1 : x.no ≤ x'.no) (h2 : x.wr ≤ x'.wr) (h3 : P ≤ P') : z.st N P' x' := ⟨h.a, Nat.le_trans h.n h1, h.s1, fun e => ⟨(h.s2 e).1, Nat.le_trans (h.s2 e).2 h3⟩, fun e => ⟨(h.s3 e).1, Nat.le_trans (h.s3 e).2.1 h2, (h.s3 e).2.2⟩⟩
def flmu (x : Lg) (z : Fl) : Nat := match z.at_ with
 | 0 => x.top - x.sent + 3
 | 1 => x.top - x.sent + 2
 | 2 => 1
 | _ => 0
theorem flmu_to {x x' : Lg} {z : Fl} (h1 : x'.top = x.top) (h2 : x.sent ≤ x'.sent) : flmu x' z ≤ flmu x z := by
 unfold flmu
 rw [h1]
 split <;> omega
theorem flmu_pos {N P : Nat} {x : Lg} {z : Fl} (h : z.st N P x) (h3 : ¬ z.at_ = 3) : 1 ≤ flmu x z := by
 have := h.a
 have : z.at_ = 0 ∨ z.at_ = 1 ∨ z.at_ = 2 := by omega
 unfold flmu
 rcases this with e | e | e <;> rw [e] <;> simp only <;> omega
theorem Nx.sent1 (x : Lg) : Nx x x.grown.send1 := by
 obtain ⟨q1, q2, q3, q4, q5, q6, q7⟩ := grown_same x
 exact ⟨q1, q2, q3, q4, q6, x.grown_first, x.grown_slots, Nat.le_of_eq q5.symm, by show x.sent ≤ x.grown.sent + 1; omega⟩
theorem Tidy.top {n P : Nat} {x : Lg} {y : Dk} (h : Tidy n P x y) : x.pl ≤ x.top := h.g.ok.pb
theorem Tidy.push {n P : Nat} {x : Lg} {y : Dk} (h : Tidy n P x y) {J : Imm} {r : Rc} (hr : Recs J (x.push r)) (hok : (x.push r).ok n) : Tidy n P (x.push r) y := by
 have hs := h.g.ok.s2
 refine ⟨h.g.push hr hok, h.wl, h.w0, ?_, h.w2, fun q h0 h1 => ?_, h.sw⟩
 ·show (x.push r).endP (x.wr - x.base) ≤ P
  rw [x.endP_push r (by have := h.g.ok.w2; unfold Lg.no at this; omega)]; exact h.w1
 ·rw [x.part_push r h0 (by have := h.w2; omega)]; exact h.sp q h0 h1
theorem Blank.push {x : Lg} {y : Dk} (h : Blank x y) (r : Rc) : Blank (x.push r) y := ⟨h.w, h.z⟩
/-- A step of a Flush. -/
theorem step_tidy {n N P : Nat} {x : Lg} {y : Dk} {z : Fl} (h : Tidy n P x y) (hz : z.ok x) (hs : z.st N P x) :
  ∃ P' x' y' z', fstep n x y z = (decide (z'.at_ = 3), x', y', z') ∧ Tidy n P' x' y' ∧ z'.ok x' ∧ z'.st N P' x' ∧ Nx x x' ∧ P ≤ P' ∧ flmu x' z' ≤ flmu x z - 1 ∧ (Blank x y → Blank x' y') := by
 have ha := hs.a
 have hp := Lg.p0_sent h.g.ok
 rcases (by omega : z.at_ = 0 ∨ z.at_ = 1 ∨ z.at_ = 2 ∨ z.at_ = 3) with e | e | e | e
 ·by_cases hn : x.no ≤ x.wr
  ·rw [fbegin_end e hn]
   refine ⟨P, x, y, (⟨z.at_, x.no, x.pl, z.n, z.e⟩ : Fl).fin x.wr 0, rfl, h, ⟨fun hc => (by rcases hc with hc | hc <;> cases hc), fun hc => (by cases hc)⟩, ⟨Nat.le_refl _, hs.n, fun hc => (by cases hc), fun hc => (by cases hc), fun _ => ⟨rfl, Nat.le_refl _, Nat.le_trans hs.n hn⟩⟩, Nx.refl x, Nat.le_refl _, Nat.zero_le _, id⟩
  ·rw [fbegin_eq e hn]
   refine ⟨P, x, y, (⟨1, x.no, x.pl, z.n, z.e⟩ : Fl), rfl, h, Fl.ok.begun h.g.ok _ _, ⟨by show 1 ≤ 3; omega, hs.n, fun _ => hs.n, fun hc => (by cases hc), fun hc => (by cases hc)⟩, Nx.refl x, Nat.le_refl _, ?_, id⟩
   unfold flmu; rw [e]; simp only; omega
 ·by_cases hlt : x.sent < z.tpl
  ·have hpl : x.sent < x.pl := by have := hz.tpl (n := n) e; omega
   have htop := h.top
   obtain ⟨y', e1, g1, w1, b1⟩ := fwork_write h.g hz e hlt
   have nx := Nx.sent1 x
   have hsn : x.grown.send1.sent = x.sent + 1 := by show x.grown.sent + 1 = _; rw [(grown_same x).2.2.2.2.2.2]
   obtain ⟨hgr, _, _, _⟩ := h.g.grown hpl
   have hpt := h.g.pt x.sent hp hpl
   have hf0 := h.g.f0
   have hst := hgr.se
   have hhas : phas x.grown.g (x.part x.sent).place := by
    obtain ⟨_, q2, q3, _⟩ := h.g.grown hpl
    rw [hpt.2]; unfold phas; rw [x.grown_first]; omega
   have hsm : x.sent ≤ 1099511627776 := by have := hgr.ok.g.sb; have := (grown_same x).2.2.2.2.2.2; have := h.g.ok.st; have := h.g.ok.fb; have := h.g.ok.g.sn; have := h.g.n8; unfold Lg.top at htop; omega
   obtain ⟨m1, m2, ws, m3, m4⟩ := pwrt_more h.g.on hgr.ok.g hpt.1 hhas
   have ey : (pwrt y n x.grown.g (x.part x.sent)).1 = y' := by
    have e2 := e1
    unfold fstep at e2
    rw [e] at e2
    have e3 : fwork n x y z = (false, x.grown.send1, y', z) := e2
    unfold fwork at e3
    rw [if_neg (by omega), if_neg (fun hc => h.g.nofull hpl hc.1 hc.2)] at e3
    split at e3
    ·simp at e3
    ·injection e3 with _ e3; injection e3 with _ e3; injection e3 with e3
   rw [ey] at m1 m2 m3
   rw [hpt.2, Int.toNat_natCast, x.grown_slots] at m4
   rw [e1]
   refine ⟨P, x.grown.send1, y', z, by simp [e], ⟨g1, ?_, ?_, ?_, ?_, ?_, ?_⟩, hz.sent, hs.to (by rw [nx.no]; exact Nat.le_refl _) nx.wr (Nat.le_refl _), nx, Nat.le_refl _, ?_, fun hb => ⟨?_, ?_⟩⟩
   ·rw [w1, hsn, nx.p0]; have := h.wl; omega
   ·rw [nx.p0]; exact h.w0
   ·rw [nx.endP, nx.base, show x.grown.send1.wr = x.wr from (grown_same x).2.2.2.2.1]; exact h.w1
   ·rw [hsn]; have := h.w2; omega
   ·intro q h0 h1
    rw [nx.p0] at h0
    rw [nx.slots, show x.grown.send1.part q = x.part q from x.grown_part q]
    unfold plb; rw [m1]; exact h.sp q h0 h1
   ·intro q h0 h1 e he
    rw [nx.p0] at h0
    rw [nx.slots]
    rw [m3] at he
    rcases List.mem_append.1 he with he | he
    ·exact h.sw q h0 h1 e he
    ·have h2 := m4 e he
     have h3 := h.g.jx (p := q) (q := x.sent) h0 (by have := h.w2; omega) hpl
     omega
   ·unfold flmu; rw [e, nx.top, hsn]; simp only; omega
   ·have hbw := hb.w; rw [m2 (by omega) (by omega), hb.w, hsn, nx.p0]; omega
   ·intro q h0 h1
    rw [nx.top] at h1
    rw [hsn] at h0
    rw [nx.slots, b1, if_neg]
    ·exact hb.z q (by omega) h1
    ·intro hc
     exact jx_ne' (s := x.g.slots) (p := x.sent) (q := q) (by omega) (by unfold Lg.top at h1; omega) hc.symm
  ·rw [fwork_sync h.g e (by omega)]
   have he : y.sync = { y with plat := y.now, waits := [], syncs := IntKind.i64.wrap (y.syncs + 1) } := by unfold Dk.sync; rw [if_neg (by simp [h.g.on.off])]
   refine ⟨x.sent, x, y.sync, { z with at_ := 2 }, rfl, ⟨h.g.sync, ?_, hp, h.g.ok.s1, Nat.le_refl _, ?_, ?_⟩, ⟨fun _ => hz.a1 (.inl e), fun _ => by show z.tpl ≤ x.sent; omega⟩, ⟨by show 2 ≤ 3; omega, hs.n, fun hc => (by cases hc), fun _ => ⟨hs.s1 e, by show z.tpl ≤ x.sent; omega⟩, fun hc => (by cases hc)⟩, Nx.refl x, h.w2, ?_, fun hb => ⟨?_, ?_⟩⟩
   ·rw [sync_waits h.g.on]; exact Nat.zero_le _
   ·intro q h0 h1
    rw [← h.g.bl q h0 h1, he]; rfl
   ·intro q h0 h1 e he
    rw [sync_waits h.g.on] at he; cases he
   ·unfold flmu; rw [e]; simp only; omega
   ·rw [he]; exact hb.w
   ·intro q h0 h1; rw [bl_sync]; exact hb.z q h0 h1
 ·rw [fstays_eq e]
  obtain ⟨t1, t2, t3⟩ := hz.a1 (.inr e)
  have t4 := hz.a2 e
  obtain ⟨t5, t6⟩ := hs.s2 e
  refine ⟨P, x.setW (max x.wr z.tno), y, z.fin (max x.wr z.tno) 0, rfl, ⟨h.g.setW t1 t2 (by omega), h.wl, h.w0, ?_, h.w2, h.sp, h.sw⟩, ⟨fun hc => (by rcases hc with hc | hc <;> cases hc), fun hc => (by cases hc)⟩, ⟨Nat.le_refl _, hs.n, fun hc => (by cases hc), fun hc => (by cases hc), fun _ => ⟨rfl, Nat.le_refl _, by show N ≤ max x.wr z.tno; omega⟩⟩, ⟨rfl, rfl, rfl, rfl, rfl, rfl, rfl, by show x.wr ≤ max x.wr z.tno; omega, Nat.le_refl _⟩, Nat.le_refl _, Nat.zero_le _, fun hb => ⟨hb.w, hb.z⟩⟩
  show x.endP (max x.wr z.tno - x.base) ≤ P
  rcases Nat.le_total x.wr z.tno with hc | hc
  ·rw [Nat.max_eq_right hc]; omega
  ·rw [Nat.max_eq_left hc]; exact h.w1
 ·rw [fdone_eq e]
  refine ⟨P, x, y, z, by simp [e], h, hz, hs, Nx.refl x, Nat.le_refl _, ?_, id⟩
  unfold flmu; rw [e]; exact Nat.zero_le _
/-- What stands on a disk is read. -/
theorem pread_stands {n q : Nat} {y : Dk} {g : Sg} {p : Pt} (on : On y n) (hg : g.ok n) (hb : bl y (jx g.slots q) = penc p) (hm : p.may) (hp : p.place = (q : Int)) (hh : phas g q) : pread y n g q = (p, 0) := by
 unfold pread
 rw [if_pos hh, pstand_on on hg, hb, pdec_enc hm]
 exact if_pos hp
/-- What a crash leaves of them. -/
theorem Tidy.up {n P : Nat} {x : Lg} {y : Dk} (h : Tidy n P x y) (ks : List Int) {q : Nat} (h0 : x.p0 ≤ q) (h1 : q < P) : bl (y.up ks) (Hp.jx x.g.slots q) = penc (x.part q) := by
 rw [bl_up h.g.on.ok ks (h.sw q h0 h1)]; exact h.sp q h0 h1
theorem Tidy.new {n : Nat} {x : Lg} {y : Dk} (ok : x.ok n) (n8 : n ≤ 8192) (on : On y n) (hr : x.rs = []) (hf : x.g.first * 8 ≤ x.p0) (hs : x.sent = x.p0) (hse : x.sent ≤ x.g.stop * 8) (hw : y.waits = []) : Tidy n x.p0 x y :=
 ⟨Lg.good.new ok n8 on hr hf hs hse, by rw [hw]; exact Nat.zero_le _, Nat.le_refl _, by unfold Lg.endP; rw [hr]; simp [blocksN], Nat.le_of_eq hs.symm, fun q h2 h3 => by omega, fun q h2 h3 => by omega⟩
theorem Tidy.all {n P N : Nat} {x : Lg} {y : Dk} {z : Fl} (h : Tidy n P x y) (hs : z.st N P x) (h3 : z.at_ = 3) (hn : N = x.no) : z.n = x.no ∧ x.wr = x.no ∧ x.sent = x.pl ∧ P = x.pl := by
 obtain ⟨_, s1, s2⟩ := hs.s3 h3
 have hw := h.g.ok.w2
 have h2 := h.w1
 rw [show x.wr = x.no by omega, show x.no - x.base = x.rs.length by unfold Lg.no; omega, x.endP_len] at h2
 have := h.w2; have := h.g.ok.s2
 omega

end Go.Hp
