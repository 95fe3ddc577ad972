import Derived.Test.YtcnfcdlapbjgeaaLogL
set_option linter.unusedVariables false
set_option linter.unusedSimpArgs false
namespace Go.Hp
open Go Go.Proofs

theorem Recs.part {J : Imm} {x : Lg} (h : Recs J x) {q : Nat} (h0 : x.p0 ≤ q) (h1 : q < x.pl) : (x.part q).may ∧ (x.part q).place = (q : Int) := by
 obtain ⟨k, hk, h2, h3⟩ := x.find h0 h1
 obtain ⟨j, rfl⟩ := Nat.exists_eq_add_of_le h2
 have hr := h k hk
 have hm := pcut_may hr.ok (i := j) (by rw [kmany_eq]; show j < x.rs[k].n; omega)
 rw [kmany_eq] at hm
 rw [x.part_at hk (by omega)]
 exact ⟨hm, by simp [pcut]⟩
/-- What stands on the disk is the log's. -/
structure Lg.good (n : Nat) (x : Lg) (y : Dk) : Prop where
 ok : x.ok n
 n8 : n ≤ 8192
 on : On y n
 pt : ∀ q, x.p0 ≤ q → q < x.pl → (x.part q).may ∧ (x.part q).place = (q : Int)
 f0 : x.g.first * 8 ≤ x.p0
 se : x.sent ≤ x.g.stop * 8
 bl : ∀ q, x.p0 ≤ q → q < x.sent → bl y (jx x.g.slots q) = penc (x.part q)
theorem Lg.p0_sent {n : Nat} {x : Lg} (ok : x.ok n) : x.p0 ≤ x.sent := by have := ok.s1; unfold Lg.endP at this; omega
theorem Lg.good.push {n : Nat} {x : Lg} {y : Dk} (h : x.good n y) {J : Imm} {r : Rc} (hr : Recs J (x.push r)) (hok : (x.push r).ok n) : (x.push r).good n y := by
 refine ⟨hok, h.n8, h.on, fun q h0 h1 => hr.part h0 h1, h.f0, h.se, fun q h0 h1 => ?_⟩
 have h1 : q < x.sent := h1
 rw [x.part_push r h0 (by have := h.ok.s2; omega)]
 exact h.bl q h0 h1
theorem Lg.good.nofull {n : Nat} {x : Lg} {y : Dk} (h : x.good n y) (hs : x.sent < x.pl) (he : x.sent = x.g.stop * 8) : ¬ x.g.full := by
 have h1 := h.ok.pb; have h2 := h.ok.st; have h3 := h.ok.g.fs
 unfold Sg.full; omega
theorem Lg.good.grown {n : Nat} {x : Lg} {y : Dk} (h : x.good n y) (hs : x.sent < x.pl) : x.grown.good n y ∧ x.sent < x.grown.g.stop * 8 ∧ x.grown.sent = x.sent ∧ x.grown.pl = x.pl := by
 unfold Lg.grown
 by_cases he : x.sent = x.g.stop * 8
 ·rw [if_pos he]
  have hf := h.nofull hs he
  have e : x.g.more = ⟨x.g.slots, x.g.first, x.g.stop + 1⟩ := if_neg hf
  have hok := h.ok.setG h.n8 hf
  rw [e] at hok ⊢
  exact ⟨⟨hok, h.n8, h.on, h.pt, h.f0, by show x.sent ≤ (x.g.stop + 1) * 8; omega, h.bl⟩, by show x.sent < (x.g.stop + 1) * 8; omega, rfl, rfl⟩
 ·rw [if_neg he]
  have := h.se
  exact ⟨h, by omega, rfl, rfl⟩
theorem Lg.grown_part (x : Lg) (q : Nat) : x.grown.part q = x.part q := by unfold Lg.grown; split <;> rfl
theorem Lg.grown_slots (x : Lg) : x.grown.g.slots = x.g.slots := by
 unfold Lg.grown Lg.setG Sg.more
 split
 ·simp only
  split <;> rfl
 ·rfl
theorem Lg.grown_first (x : Lg) : x.grown.g.first = x.g.first := by
 unfold Lg.grown Lg.setG Sg.more
 split
 ·simp only
  split <;> rfl
 ·rfl
theorem Lg.good.jx {n : Nat} {x : Lg} {y : Dk} (h : x.good n y) {p q : Nat} (h0 : x.p0 ≤ p) (h1 : p < q) (h2 : q < x.pl) : Hp.jx x.g.slots p ≠ Hp.jx x.g.slots q := by
 have := h.f0; have := h.ok.pb
 exact jx_ne' h1 (by omega)
/-- A block is written. -/
theorem Lg.good.write {n : Nat} {x : Lg} {y : Dk} (h : x.good n y) (hs : x.sent < x.pl) : ∃ y', pwrt y n x.grown.g (x.part x.sent) = (y', 0) ∧ x.grown.send1.good n y' ∧ y'.waits.length = y.waits.length + 4 ∧ ∀ j, Hp.bl y' j = if j = Hp.jx x.g.slots x.sent then penc (x.part x.sent) else Hp.bl y j := by
 obtain ⟨hg, h1, h2, h3⟩ := h.grown hs
 have hp := h.pt x.sent (Lg.p0_sent h.ok) hs
 have hf := h.f0
 have hp0 := Lg.p0_sent h.ok
 obtain ⟨y', e1, o1, w1, b1⟩ := pwrt_on h.on hg.ok.g hp.1 (by rw [hp.2]; unfold phas; rw [x.grown_first]; omega)
 rw [hp.2, Int.toNat_natCast, x.grown_slots] at b1
 refine ⟨y', e1, ⟨hg.ok.send1 (by omega), h.n8, o1, hg.pt, hg.f0, by show x.grown.sent + 1 ≤ x.grown.g.stop * 8; omega, fun q h0 h1 => ?_⟩, w1, b1⟩
 have h0 : x.grown.p0 ≤ q := h0
 have h1 : q < x.grown.sent + 1 := h1
 have e0 : x.grown.p0 = x.p0 := by unfold Lg.grown; split <;> rfl
 show Hp.bl y' (Hp.jx x.grown.g.slots q) = penc (x.grown.part q)
 rw [x.grown_slots, x.grown_part, b1]
 by_cases hq : q = x.sent
 ·subst hq; rw [if_pos rfl]
 ·rw [if_neg (h.jx (by omega) (by omega) hs)]; exact h.bl q (by omega) (by omega)
theorem bl_sync {y : Dk} (j : Nat) : bl y.sync j = bl y j := by unfold Dk.sync; split <;> rfl
theorem On.sync {y : Dk} {n : Nat} (h : On y n) : On y.sync n := by
 have e : y.sync = { y with plat := y.now, waits := [], syncs := IntKind.i64.wrap (y.syncs + 1) } := by unfold Dk.sync; rw [if_neg (by simp [h.off])]
 refine ⟨Dk.sync_ok h.ok, ?_, ?_⟩
 ·rw [e]; exact h.off
 ·rw [e]; exact h.left
theorem sync_waits {y : Dk} {n : Nat} (h : On y n) : y.sync.waits = [] := by unfold Dk.sync; rw [if_neg (by simp [h.off])]
theorem Lg.good.sync {n : Nat} {x : Lg} {y : Dk} (h : x.good n y) : x.good n y.sync := ⟨h.ok, h.n8, h.on.sync, h.pt, h.f0, h.se, fun q h0 h1 => by rw [bl_sync]; exact h.bl q h0 h1⟩
theorem Lg.good.setW {n : Nat} {x : Lg} {y : Dk} (h : x.good n y) {t : Nat} (h1 : x.base ≤ t) (h2 : t ≤ x.no) (h3 : x.endP (t - x.base) ≤ x.sent) : (x.setW (max x.wr t)).good n y := ⟨h.ok.setW h1 h2 h3, h.n8, h.on, h.pt, h.f0, h.se, h.bl⟩
theorem Lg.good.adv {n : Nat} {x : Lg} {y : Dk} (h : x.good n y) (to : Int) (hok : (x.adv to).ok n) : (x.adv to).good n y := by
 unfold Lg.adv at hok ⊢
 split at hok
 ·rename_i h1; rw [if_pos h1]; exact h
 ·rename_i h1; rw [if_neg h1]; exact ⟨hok, h.n8, h.on, h.pt, h.f0, h.se, h.bl⟩
theorem Lg.good.read {n : Nat} {x : Lg} {y : Dk} (h : x.good n y) {q : Nat} (h0 : x.p0 ≤ q) (h1 : q < x.sent) : pread y n x.g q = (x.part q, 0) := by
 have hp := h.pt q h0 (by have := h.ok.s2; omega)
 have hf := h.f0; have hs := h.se
 unfold pread
 rw [if_pos (by unfold phas; omega), pstand_on h.on h.ok.g, h.bl q h0 h1, pdec_enc hp.1]
 exact if_pos hp.2
/-- The steps of a Flush on a disk that is on. -/
theorem fwork_write {n : Nat} {x : Lg} {y : Dk} {z : Fl} (h : x.good n y) (hz : z.ok x) (h1 : z.at_ = 1) (hs : x.sent < z.tpl) : ∃ y', fstep n x y z = (false, x.grown.send1, y', z) ∧ x.grown.send1.good n y' ∧ y'.waits.length = y.waits.length + 4 ∧ ∀ j, Hp.bl y' j = if j = Hp.jx x.g.slots x.sent then penc (x.part x.sent) else Hp.bl y j := by
 have hp : x.sent < x.pl := by have := hz.tpl (n := n) h1; omega
 obtain ⟨y', e1, g1, w1, b1⟩ := h.write hp
 refine ⟨y', ?_, g1, w1, b1⟩
 unfold fstep
 rw [h1]
 show fwork n x y z = _
 unfold fwork
 rw [if_neg (by omega), if_neg (fun hc => h.nofull hp hc.1 hc.2), e1, if_neg (fun hc => hc rfl)]
theorem fwork_sync {n : Nat} {x : Lg} {y : Dk} {z : Fl} (h : x.good n y) (h1 : z.at_ = 1) (hs : z.tpl ≤ x.sent) : fstep n x y z = (false, x, y.sync, { z with at_ := 2 }) := by
 unfold fstep
 rw [h1]
 show fwork n x y z = _
 unfold fwork
 rw [if_pos hs, if_neg (by simp [h.on.off])]
theorem fstays_eq {n : Nat} {x : Lg} {y : Dk} {z : Fl} (h1 : z.at_ = 2) : fstep n x y z = (true, x.setW (max x.wr z.tno), y, z.fin (max x.wr z.tno) 0) := by
 unfold fstep
 rw [h1]; rfl
theorem fbegin_eq {n : Nat} {x : Lg} {y : Dk} {z : Fl} (h1 : z.at_ = 0) (h2 : ¬ x.no ≤ x.wr) : fstep n x y z = (false, x, y, ⟨1, x.no, x.pl, z.n, z.e⟩) := by
 unfold fstep
 rw [h1]
 show ((fbegin x z).1, x, y, (fbegin x z).2) = _
 unfold fbegin
 rw [if_neg h2]
theorem fbegin_end {n : Nat} {x : Lg} {y : Dk} {z : Fl} (h1 : z.at_ = 0) (h2 : x.no ≤ x.wr) : fstep n x y z = (true, x, y, (⟨z.at_, x.no, x.pl, z.n, z.e⟩ : Fl).fin x.wr 0) := by
 have e : fbegin x z = (true, (⟨z.at_, x.no, x.pl, z.n, z.e⟩ : Fl).fin x.wr 0) := if_pos h2
 unfold fstep
 rw [e]
 simp only [h1]
theorem fdone_eq {n : Nat} {x : Lg} {y : Dk} {z : Fl} (h1 : z.at_ = 3) : fstep n x y z = (true, x, y, z) := by
 unfold fstep
 rw [h1]; rfl
theorem Fl.ok.begun {n : Nat} {x : Lg} (ok : x.ok n) (a : Nat) (e : Int) : (⟨1, x.no, x.pl, a, e⟩ : Fl).ok x := ⟨fun _ => ⟨by show x.base ≤ x.no; unfold Lg.no; omega, Nat.le_refl _, by show x.pl = x.endP (x.no - x.base); unfold Lg.no; rw [Nat.add_sub_cancel_left, x.endP_len]⟩, fun h => by cases h⟩
/-- Where the log has gone on, a Flush may. -/
theorem Fl.ok.to {x x' : Lg} {z : Fl} (h : z.ok x) (h1 : x'.base = x.base) (h2 : x.no ≤ x'.no) (h3 : ∀ k, k ≤ x.rs.length → x'.endP k = x.endP k) (h4 : x.sent ≤ x'.sent) : z.ok x' := by
 refine ⟨fun ha => ?_, fun ha => Nat.le_trans (h.a2 ha) h4⟩
 obtain ⟨t1, t2, t3⟩ := h.a1 ha
 exact ⟨by omega, by omega, by rw [h1, h3 _ (by unfold Lg.no at t2; omega)]; exact t3⟩
theorem Fl.ok.push {x : Lg} {z : Fl} (h : z.ok x) (r : Rc) : z.ok (x.push r) := h.to rfl (by rw [x.no_push]; omega) (fun k hk => x.endP_push r hk) (Nat.le_refl _)
theorem Fl.ok.sent {x : Lg} {z : Fl} (h : z.ok x) : z.ok x.grown.send1 := by
 have e : x.grown.send1.base = x.base ∧ x.grown.send1.no = x.no ∧ (∀ k, x.grown.send1.endP k = x.endP k) ∧ x.grown.send1.sent = x.sent + 1 := by
  unfold Lg.grown; split <;> exact ⟨rfl, rfl, fun _ => rfl, rfl⟩
 exact h.to e.1 (by omega) (fun k _ => e.2.2.1 k) (by omega)
theorem Fl.ok.setW {x : Lg} {z : Fl} (h : z.ok x) (m : Nat) : z.ok (x.setW m) := h.to rfl (Nat.le_refl _) (fun _ _ => rfl) (Nat.le_refl _)
/-- The steps of a Read whose blocks stand there. -/
def rdAt (P : Nat) (ps : List Pt) : Rd := ⟨P, ps, false, 0, 0, [], 1⟩
theorem rdNew_at (P : Nat) (no era : Int) (b : List UInt8) (m : Nat) : rdNew P = rdAt P ((List.range 0).map (pcut no (P : Int) era b m)) := rfl
theorem rstep_next {f : Nat → Pt × Int} {no era kind : Int} {P i : Nat} {b : List UInt8} (hc : CutOk no P era (kbody kind b)) (hk : 1 ≤ kind ∧ kind ≤ 5) (hi : i < kmany b) (hf : f (P + i) = (pcut no P era (kbody kind b) (kmany b) i, 0)) :
  rstep f (rdAt P ((List.range i).map (pcut no P era (kbody kind b) (kmany b)))) = if i + 1 < kmany b then (false, rdAt P ((List.range (i + 1)).map (pcut no P era (kbody kind b) (kmany b)))) else (true, (rdAt P []).fin ((List.range (i + 1)).map (pcut no P era (kbody kind b) (kmany b))) no kind b 0) := by
 have hl : (rdAt P ((List.range i).map (pcut no P era (kbody kind b) (kmany b)))).ps.length = i := by show ((List.range i).map _).length = i; simp
 have hps : (rdAt P ((List.range i).map (pcut no P era (kbody kind b) (kmany b)))).ps ++ [pcut no P era (kbody kind b) (kmany b) i] = (List.range (i + 1)).map (pcut no P era (kbody kind b) (kmany b)) := by
  rw [List.range_succ, List.map_append]; rfl
 have hpl : (rdAt P ((List.range i).map (pcut no P era (kbody kind b) (kmany b)))).place = P := rfl
 have h0 : (rdAt P ((List.range i).map (pcut no P era (kbody kind b) (kmany b)))).dn = false := rfl
 unfold rstep
 rw [h0, if_neg Bool.false_ne_true, hl, hpl, hf, if_neg (by simp), if_neg (by
  rintro (h | ⟨h1, h2⟩)
  ·exact h rfl
  ·apply h2; simp [pcut, h1])]
 unfold rjoin
 rw [hps]
 have hhd : (((List.range (i + 1)).map (pcut no P era (kbody kind b) (kmany b))).headD ptZ).parts = (kmany b : Int) := by
  rw [List.range_succ_eq_map]; rfl
 rw [hhd, List.length_map, List.length_range]
 by_cases hn : i + 1 < kmany b
 ·rw [if_pos hn, if_pos (by omega)]; rfl
 ·rw [if_neg hn, if_neg (by omega)]
  have e : i + 1 = kmany b := by omega
  have hj := pjoin_cut hc
  rw [kmany_eq] at hj
  rw [e, hj]
  have hb8 : ((UInt8.ofNat kind.toNat).toNat : Int) = kind := by rw [UInt8.toNat_ofNat']; omega
  have hko : kindOk (kbody kind b) := by
   show ¬ (((UInt8.ofNat kind.toNat).toNat : Int) < 1) ∧ ¬ (5 < ((UInt8.ofNat kind.toNat).toNat : Int))
   rw [hb8]; omega
  rw [if_neg (by rintro (h | h); exact h rfl; exact h hko)]
  show (true, Rd.fin _ _ no ((UInt8.ofNat kind.toNat).toNat : Int) b 0) = _
  rw [hb8]; rfl

theorem log_Append_ok {I : Imm} {l s d n : Nat} {x : Lg} {y : Dk} {L : Chunks} (hl : IsLog I l s d n x y L) {hn hp : Nat} {kind : Int} {b : List UInt8} {vb : Value} (hb : SlRd (Im I) vb b.length 1 (bytesV b)) (he : x.apE hn hp kind b = 0) : Spec Try.prog 10 [.pointer (some ⟨l, 0, none⟩), .agg #[.int .i64 (hn : Int), .int .i64 (hp : Int)], .int .i64 kind, vb] I L (fun v J L' => ∃ r : Rc, r.kind = kind ∧ r.b = b ∧ v = .tuple #[.agg #[.int .i64 ((x.push r).no : Int), .int .i64 ((x.push r).pl : Int)], .int .i64 0] ∧ IsLog J l s d n (x.push r) y L') :=
 (log_Append hl hb).mono (fun v J L' _ h => (h.resolve_left (fun h => h.1 he)).2)
theorem log_Append_bad {I : Imm} {l s d n : Nat} {x : Lg} {y : Dk} {L : Chunks} (hl : IsLog I l s d n x y L) {hn hp : Nat} {kind : Int} {b : List UInt8} {vb : Value} (hb : SlRd (Im I) vb b.length 1 (bytesV b)) {e : Int} (he : x.apE hn hp kind b = e) (h0 : e ≠ 0) : Spec Try.prog 10 [.pointer (some ⟨l, 0, none⟩), .agg #[.int .i64 (hn : Int), .int .i64 (hp : Int)], .int .i64 kind, vb] I L (fun v J L' => v = .tuple #[.agg #[.int .i64 0, .int .i64 0], .int .i64 e] ∧ IsLog J l s d n x y L') :=
 (log_Append hl hb).mono (fun v J L' _ h => by subst he; exact (h.resolve_right (fun h => h0 h.1)).2)
def aw0 : Lg := ⟨1, ⟨10, 1, 1⟩, 0, 8, [], 0, 0, 8⟩
def awb : List UInt8 := List.replicate 198 0
theorem awb_len : awb.length = 198 := List.length_replicate
def awc : List UInt8 := [0]
theorem awc_len : awc.length = 1 := rfl
theorem awb_many : kmany awb = 2 := by unfold kmany; rw [awb_len]
theorem aw_e1 : aw0.apE 0 8 1 awb = 0 := by
 unfold Lg.apE
 rw [if_neg (by decide), if_neg (by rw [awb_len]; decide), if_neg (by decide), if_neg (by decide), if_neg (by rw [awb_many]; decide)]
theorem aw_pl (r : Rc) (h : r.b = awb) : (aw0.push r).pl = 10 := by rw [aw0.pl_push r]; unfold Rc.n; rw [h, awb_many]; rfl
theorem aw_e2 (r : Rc) (h : r.b = awb) {b : List UInt8} (hb : b.length < 12672) : (aw0.push r).apE 0 8 1 b = 5 := by
 unfold Lg.apE
 rw [if_neg (by decide), if_neg (by omega), if_pos (fun hc => absurd hc.1 (by show ¬ (0 = 0 + ([] ++ [r]).length); simp))]
theorem part_new (x : Lg) (h : x.rs = []) : x.pl = x.p0 := by unfold Lg.pl; rw [h]; rfl
theorem Lg.good.new {n : Nat} {x : Lg} {y : Dk} (ok : x.ok n) (n8 : n ≤ 8192) (on : On y n) (hr : x.rs = []) (hf : x.g.first * 8 ≤ x.p0) (hs : x.sent = x.p0) (hse : x.sent ≤ x.g.stop * 8) : x.good n y :=
 ⟨ok, n8, on, fun q h0 h1 => by have := part_new x hr; omega, hf, hse, fun q h0 h1 => by omega⟩
structure AwI (r : Rc) (i : Nat) (x : Lg) (y : Dk) (z : Fl) : Prop where
 g : x.good 328 y
 zo : z.ok x
 rs : x.rs = [r]
 c : x.base = 0 ∧ x.p0 = 8 ∧ x.mno = 0 ∧ x.wr = 0 ∧ x.era = 1
 w : y.waits.length ≤ 4 * i
 s : (i = 0 ∧ z.at_ = 0 ∧ x.sent = 8) ∨ (1 ≤ i ∧ i ≤ 3 ∧ z.at_ = 1 ∧ z.tno = 1 ∧ z.tpl = 10 ∧ x.sent = 7 + i) ∨ (i = 4 ∧ z.at_ = 2 ∧ z.tno = 1 ∧ x.sent = 10)
structure AwE (r : Rc) (x : Lg) (y : Dk) (z : Fl) : Prop where
 g : x.good 328 y
 rs : x.rs = [r]
 c : x.base = 0 ∧ x.p0 = 8 ∧ x.mno = 0 ∧ x.wr = 1 ∧ x.era = 1
 s : x.sent = 10
 n : z.n = 1
 e : z.e = 0
theorem AwI.no {r : Rc} {x : Lg} (h : x.rs = [r]) (h2 : x.base = 0) : x.no = 1 := by unfold Lg.no; rw [h, h2]; rfl
theorem AwI.pl {r : Rc} {x : Lg} (h : x.rs = [r]) (h2 : x.p0 = 8) (hr : r.n = 2) : x.pl = 10 := by unfold Lg.pl; rw [h, h2]; simp [blocksN, hr]
theorem grown_same (x : Lg) : x.grown.rs = x.rs ∧ x.grown.base = x.base ∧ x.grown.p0 = x.p0 ∧ x.grown.mno = x.mno ∧ x.grown.wr = x.wr ∧ x.grown.era = x.era ∧ x.grown.sent = x.sent := by
 unfold Lg.grown; split <;> exact ⟨rfl, rfl, rfl, rfl, rfl, rfl, rfl⟩
theorem AwI.step {r : Rc} {i : Nat} {x : Lg} {y : Dk} {z : Fl} (h : AwI r i x y z) (hr : r.n = 2) :
  (i ≤ 3 ∧ (fstep 328 x y z).1 = false ∧ AwI r (i + 1) (fstep 328 x y z).2.1 (fstep 328 x y z).2.2.1 (fstep 328 x y z).2.2.2) ∨ (i = 4 ∧ (fstep 328 x y z).1 = true ∧ AwE r (fstep 328 x y z).2.1 (fstep 328 x y z).2.2.1 (fstep 328 x y z).2.2.2) := by
 obtain ⟨g, hz, rs, ⟨c1, c2, c3, c4, c5⟩, hw, hs⟩ := h
 have hno := AwI.no rs c1
 have hpl := AwI.pl rs c2 hr
 rcases hs with ⟨rfl, h1, h2⟩ | ⟨h0, h3, h1, h4, h5, h6⟩ | ⟨rfl, h1, h4, h5⟩
 ·left
  rw [fbegin_eq h1 (by omega)]
  refine ⟨by omega, rfl, g, ?_, rs, ⟨c1, c2, c3, c4, c5⟩, by show y.waits.length ≤ _; omega, .inr (.inl ⟨by omega, by omega, rfl, hno, hpl, h2⟩)⟩
  exact Fl.ok.begun g.ok _ _
 ·left
  by_cases hlt : x.sent < z.tpl
  ·obtain ⟨y', e1, g1, w1, _⟩ := fwork_write g hz h1 hlt
   obtain ⟨q1, q2, q3, q4, q5, q6, q7⟩ := grown_same x
   rw [e1]
   exact ⟨h3, rfl, g1, hz.sent, q1.trans rs, ⟨q2.trans c1, q3.trans c2, q4.trans c3, q5.trans c4, q6.trans c5⟩, by show y'.waits.length ≤ _; omega, .inr (.inl ⟨by omega, by omega, h1, h4, h5, by show x.grown.sent + 1 = _; omega⟩)⟩
  ·rw [fwork_sync g h1 (by omega)]
   refine ⟨h3, rfl, g.sync, ?_, rs, ⟨c1, c2, c3, c4, c5⟩, by rw [sync_waits g.on]; exact Nat.zero_le _, .inr (.inr ⟨by omega, rfl, h4, by show x.sent = 10; omega⟩)⟩
   exact ⟨fun _ => hz.a1 (.inl h1), fun _ => by show z.tpl ≤ x.sent; omega⟩
 ·right
  rw [fstays_eq h1]
  obtain ⟨t1, t2, t3⟩ := hz.a1 (.inr h1)
  have t4 := hz.a2 h1
  have hm : max x.wr z.tno = 1 := by rw [c4, h4]; rfl
  refine ⟨rfl, rfl, g.setW t1 t2 (by omega), rs, ⟨c1, c2, c3, hm, c5⟩, h5, hm, rfl⟩
theorem adv_mark {x : Lg} {to : Int} {m : Nat} (h : min to (x.no : Int) = (m : Int)) (h2 : x.mno < m) : x.adv to = x.mk_ m := by
 unfold Lg.adv
 rw [h, if_neg (by omega)]; rfl
structure AWC where
 r : Rc
 J : Imm
 L : Chunks
 b : Nat
structure AWX where
 i : Nat
 x : Lg
 y : Dk
 z : Fl
 J : Imm
 L : Chunks

theorem hok0 : aw0.ok 328 := ⟨⟨by decide, by decide, by decide, by decide⟩, by decide, by decide, by decide, by decide, by decide, by decide, by decide, by decide, by decide, by decide, by decide⟩
set_option maxHeartbeats 2000000 in
theorem log_awake {I : Imm} : Spec Try.prog 8 [] I [] (fun v J L => v = .bool true ∧ L = []) := by
 refine Spec.of Try.func8 rfl Try.ntmps8 (Nat.le_of_ble_eq_true rfl) (fun F => ?_)
 try simp only [nf]
 dsimp only [argsEnv]
 refine WP.seq ?_
 refine WP.region [0] rfl ?_
 refine WP.mv rfl rfl ?_
 refine WP.nil ?_
 refine WP.next ?_
 refine WP.seq ?_
 refine WP.region [0, 1, 2, 3, 4, 5, 6, 7, 8] rfl ?_
 refine WP.vl rfl (Yld.buildS (pl := [(1, 1, 1)]) rfl ty_zr_29 ty_zd_29 (by kernel_rfl) rfl (vs := [_]) rfl (segs := [(1, [_])]) rfl rfl (by repeat (first | exact SetSeg.nil | apply SetSeg.one | exact SetAt.zero | apply SetAt.succ))) ?_
 refine WP.loud rfl rfl ?_
 refine Op.cl (log_begun (n := 328) (f := 1) (hn := 0) (hp := 8) (era := 1) (by decide) (by decide) (by decide) (by decide) (by decide) (by decide) (by decide)) rfl Try.func9 rfl rfl rfl rfl ?_
 rintro v J L1 - ⟨rfl, x, d, s, l, q, rt, rm, Ll, rfl, rfl, hl⟩
 try simp only [nf]
 have hl : IsLog _ l s d 328 aw0 (Dk.new 328) Ll := hl
 refine WP.mv rfl rfl ?_
 refine WP.vl rfl (Yld.extract rfl rfl rfl) ?_
 refine WP.vl rfl (Yld.extract rfl rfl rfl) ?_
 refine WP.vl rfl (Yld.extract rfl rfl rfl) ?_
 iterate 3 refine WP.mv rfl rfl ?_
 refine WP.nil ?_
 refine WP.sub [(0, _), (1, _), (2, _)] ?_ ⟨rfl, rfl, rfl, trivial⟩
 refine WP.next ?_
 refine WP.seq ?_
 refine WP.seq ?_
 refine WP.region [0, 1] rfl ?_
 refine WP.mv rfl rfl ?_
 refine WP.vl rfl (Yld.not rfl rfl) ?_
 refine WP.nil ?_
 refine WP.sub [(0, _), (1, _), (2, _), (24, _)] ?_ ⟨rfl, rfl, rfl, rfl, trivial⟩
 refine WP.next ?_
 refine WP.condF rfl ?_
 refine WP.skip ?_
 refine WP.next ?_
 refine WP.cut (X := AWC) (fun t : AWC => [(1, .pointer (some ⟨x, 0, none⟩)), (4, .pointer (some ⟨t.b, 0, none⟩)), (5, .int .i64 0)]) (fun t => t.J) (fun t : AWC => (x, row 43 [.pointer (some ⟨d, 0, none⟩), .pointer (some ⟨s, 0, none⟩), .pointer (some ⟨l, 0, none⟩), .pointer (some ⟨q, 0, none⟩), .pointer (some ⟨rt, 0, none⟩), .pointer (some ⟨rm, 0, none⟩), .slice none 0 0, .slice none 0 0, .slice none 0 0, .slice none 0 0]) :: (t.b, row 29 [.int .i64 ((1 : Nat) : Int), .int .i64 ((10 : Nat) : Int)]) :: (t.L ++ F)) (fun t : AWC => I.le t.J ∧ t.r.kind = 1 ∧ t.r.b = awb ∧ IsLog t.J l s d 328 (aw0.push t.r) (Dk.new 328) t.L) ?_ ?_
 ·skip
  refine WD.start Trymixed 11 (fun c o => c = x ∧ o = row 43 [.pointer (some ⟨d, 0, none⟩), .pointer (some ⟨s, 0, none⟩), .pointer (some ⟨l, 0, none⟩), .pointer (some ⟨q, 0, none⟩), .pointer (some ⟨rt, 0, none⟩), .pointer (some ⟨rm, 0, none⟩), .slice none 0 0, .slice none 0 0, .slice none 0 0, .slice none 0 0]) (fun _ _ => False) (by rintro _ _ ⟨rfl, rfl⟩; exact (by repeat (first | exact There.h | exact There.i (by assumption) | apply There.t | apply There.s))) (fun _ _ h => h.elim) 13 [false, false, false, false, false, false, false, false, false, false, false, false, false] rfl rfl ?_
  refine WD.val (i := 0) rfl rfl rfl rfl (by kernel_rfl) rfl (Yld.move rfl rfl) ?_
  refine WD.val (i := 1) rfl rfl rfl rfl (by kernel_rfl) rfl (Yld.nilCheck rfl rfl) ?_
  refine WD.val (i := 2) rfl rfl rfl rfl (by kernel_rfl) rfl (Yld.fieldAddr rfl ty_fd_43_2 rfl) ?_
  refine WD.val1 (i := 3) rfl rfl rfl rfl (by kernel_rfl) rfl (by kernel_rfl) (Yld.load (v := .pointer (some ⟨l, 0, none⟩)) rfl ty_sc_34 rfl (.inl ⟨rfl, rfl⟩) rfl) ?_
  refine WD.val (i := 4) rfl rfl rfl rfl (by kernel_rfl) rfl (Yld.buildS (pl := [(1, 1, 1)]) rfl ty_zr_29 ty_zd_29 (by kernel_rfl) rfl (vs := [_]) rfl (segs := [(1, [_])]) rfl rfl (by repeat (first | exact SetSeg.nil | apply SetSeg.one | exact SetAt.zero | apply SetAt.succ))) ?_
  refine WD.both (i := 5) (j := 10) (by kernel_rfl) rfl rfl ?_ ?_
  ·refine WP.oper rfl rfl ?_
   refine Op.make (l := 198) (c := 198) rfl ty_sl_46 ty_el_46 rfl rfl rfl rfl rfl (Nat.le_refl _) (by decide) (by decide) (fun b5 => ?_)
   rw [bytes0']
   refine WP.share (fun J1 hJ1 hb5 => ?_)
   have hl := hl.mono hJ1
   have hb1 : SlRd (Im J1) (.slice (some ⟨b5, 0, none⟩) 198 198) awb.length 1 (bytesV awb) := by have h := Im_lit (l := awb) (sp := []) (c := 198) (by rw [List.append_nil]; exact hb5) (by rw [awb_len]; exact Nat.le_refl _); rw [awb_len] at h ⊢; exact h
   refine WD.gR ?_
   refine WD.both (i := 6) (j := 10) (by kernel_rfl) rfl rfl ?_ ?_
   ·refine WP.oper rfl rfl ?_
    refine Op.cl (log_Append_ok (hn := 0) (hp := 8) (kind := 1) hl hb1 aw_e1) rfl Try.func10 rfl rfl rfl rfl ?_
    rintro v J2 La hJ2 ⟨r, hrk, hrb, rfl, hl⟩
    try simp only [nf]
    have hr2 : r.n = 2 := by unfold Rc.n; rw [hrb, awb_many]
    have e1 : (aw0.push r).no = 1 := rfl
    rw [e1, aw_pl r hrb]
    refine WD.gR ?_
    refine WD.val (i := 7) rfl rfl rfl rfl (by kernel_rfl) rfl (Yld.move rfl rfl) ?_
    refine WD.val (i := 8) rfl rfl rfl rfl (by kernel_rfl) rfl (Yld.extract rfl rfl rfl) ?_
    refine WD.val (i := 9) rfl rfl rfl rfl (by kernel_rfl) rfl (Yld.extract rfl rfl rfl) ?_
    refine WD.loud (i := 10) (by kernel_rfl) rfl rfl rfl ?_
    refine Op.alloc rfl rfl rfl ty_zr_29 (fun b4 => ?_)
    refine WD.gR ?_
    refine WD.loud (i := 11) (by kernel_rfl) rfl rfl rfl ?_
    refine Op.sA rfl rfl ty_sz_29 rfl rfl rfl rfl rfl ?_
    refine WD.go (.inl rfl) (fun _ _ h => h.elim) ?_
    refine WD.val (i := 12) rfl rfl rfl rfl (by kernel_rfl) rfl (Yld.assign rfl rfl) ?_
    refine WD.done (by kernel_rfl) ?_
    refine WP.sub [(0, _), (1, _), (2, _), (4, _), (5, _), (24, _)] ?_ ⟨rfl, rfl, rfl, rfl, rfl, rfl, trivial⟩
    exact WP.mt (⟨r, J2, La, b4⟩ : AWC) ⟨Imm.le_trans hJ1 hJ2, hrk, hrb, hl⟩ ⟨rfl, rfl, rfl, trivial⟩ rfl
   ·refine WP.oper rfl rfl ?_
    refine Op.alloc rfl rfl rfl ty_zr_29 (fun b4 => ?_)
    refine WD.gR ?_
    refine WD.loud (i := 6) (by kernel_rfl) rfl rfl rfl ?_
    refine Op.cl (log_Append_ok (hn := 0) (hp := 8) (kind := 1) hl hb1 aw_e1) rfl Try.func10 rfl rfl rfl rfl ?_
    rintro v J2 La hJ2 ⟨r, hrk, hrb, rfl, hl⟩
    try simp only [nf]
    have hr2 : r.n = 2 := by unfold Rc.n; rw [hrb, awb_many]
    have e1 : (aw0.push r).no = 1 := rfl
    rw [e1, aw_pl r hrb]
    refine WD.gR ?_
    refine WD.val (i := 7) rfl rfl rfl rfl (by kernel_rfl) rfl (Yld.move rfl rfl) ?_
    refine WD.val (i := 8) rfl rfl rfl rfl (by kernel_rfl) rfl (Yld.extract rfl rfl rfl) ?_
    refine WD.val (i := 9) rfl rfl rfl rfl (by kernel_rfl) rfl (Yld.extract rfl rfl rfl) ?_
    refine WD.loud (i := 11) (by kernel_rfl) rfl rfl rfl ?_
    refine Op.sA rfl rfl ty_sz_29 rfl rfl rfl rfl rfl ?_
    refine WD.go (.inl rfl) (fun _ _ h => h.elim) ?_
    refine WD.val (i := 12) rfl rfl rfl rfl (by kernel_rfl) rfl (Yld.assign rfl rfl) ?_
    refine WD.done (by kernel_rfl) ?_
    refine WP.sub [(0, _), (1, _), (2, _), (4, _), (5, _), (24, _)] ?_ ⟨rfl, rfl, rfl, rfl, rfl, rfl, trivial⟩
    exact WP.mt (⟨r, J2, La, b4⟩ : AWC) ⟨Imm.le_trans hJ1 hJ2, hrk, hrb, hl⟩ ⟨rfl, rfl, rfl, trivial⟩ rfl
  ·refine WP.oper rfl rfl ?_
   refine Op.alloc rfl rfl rfl ty_zr_29 (fun b4 => ?_)
   refine WD.gR ?_
   refine WD.loud (i := 5) (by kernel_rfl) rfl rfl rfl ?_
   refine Op.make (l := 198) (c := 198) rfl ty_sl_46 ty_el_46 rfl rfl rfl rfl rfl (Nat.le_refl _) (by decide) (by decide) (fun b5 => ?_)
   rw [bytes0']
   refine WP.share (fun J1 hJ1 hb5 => ?_)
   have hl := hl.mono hJ1
   have hb1 : SlRd (Im J1) (.slice (some ⟨b5, 0, none⟩) 198 198) awb.length 1 (bytesV awb) := by have h := Im_lit (l := awb) (sp := []) (c := 198) (by rw [List.append_nil]; exact hb5) (by rw [awb_len]; exact Nat.le_refl _); rw [awb_len] at h ⊢; exact h
   refine WD.gR ?_
   refine WD.loud (i := 6) (by kernel_rfl) rfl rfl rfl ?_
   refine Op.cl (log_Append_ok (hn := 0) (hp := 8) (kind := 1) hl hb1 aw_e1) rfl Try.func10 rfl rfl rfl rfl ?_
   rintro v J2 La hJ2 ⟨r, hrk, hrb, rfl, hl⟩
   try simp only [nf]
   have hr2 : r.n = 2 := by unfold Rc.n; rw [hrb, awb_many]
   have e1 : (aw0.push r).no = 1 := rfl
   rw [e1, aw_pl r hrb]
   refine WD.gR ?_
   refine WD.val (i := 7) rfl rfl rfl rfl (by kernel_rfl) rfl (Yld.move rfl rfl) ?_
   refine WD.val (i := 8) rfl rfl rfl rfl (by kernel_rfl) rfl (Yld.extract rfl rfl rfl) ?_
   refine WD.val (i := 9) rfl rfl rfl rfl (by kernel_rfl) rfl (Yld.extract rfl rfl rfl) ?_
   refine WD.loud (i := 11) (by kernel_rfl) rfl rfl rfl ?_
   refine Op.sA rfl rfl ty_sz_29 rfl rfl rfl rfl rfl ?_
   refine WD.go (.inl rfl) (fun _ _ h => h.elim) ?_
   refine WD.val (i := 12) rfl rfl rfl rfl (by kernel_rfl) rfl (Yld.assign rfl rfl) ?_
   refine WD.done (by kernel_rfl) ?_
   refine WP.sub [(0, _), (1, _), (2, _), (4, _), (5, _), (24, _)] ?_ ⟨rfl, rfl, rfl, rfl, rfl, rfl, trivial⟩
   exact WP.mt (⟨r, J2, La, b4⟩ : AWC) ⟨Imm.le_trans hJ1 hJ2, hrk, hrb, hl⟩ ⟨rfl, rfl, rfl, trivial⟩ rfl
 ·rintro ⟨r, J2, La, b4⟩ ⟨hJ2, hrk, hrb, hl⟩; dsimp only at hJ2 hrk hrb hl; have hr2 : r.n = 2 := (by unfold Rc.n; rw [hrb, awb_many])
  refine WP.cut (X := AWC) (fun t : AWC => [(1, .pointer (some ⟨x, 0, none⟩)), (4, .pointer (some ⟨b4, 0, none⟩)), (5, .int .i64 0), (7, .int .i64 5)]) (fun t => t.J) (fun t : AWC => (x, row 43 [.pointer (some ⟨d, 0, none⟩), .pointer (some ⟨s, 0, none⟩), .pointer (some ⟨l, 0, none⟩), .pointer (some ⟨q, 0, none⟩), .pointer (some ⟨rt, 0, none⟩), .pointer (some ⟨rm, 0, none⟩), .slice none 0 0, .slice none 0 0, .slice none 0 0, .slice none 0 0]) :: (b4, row 29 [.int .i64 ((1 : Nat) : Int), .int .i64 ((10 : Nat) : Int)]) :: (t.L ++ F)) (fun t : AWC => J2.le t.J ∧ IsLog t.J l s d 328 (aw0.push r) (Dk.new 328) t.L) ?_ ?_
  ·skip
   refine WD.start Trymixed 11 (fun c o => c = x ∧ o = row 43 [.pointer (some ⟨d, 0, none⟩), .pointer (some ⟨s, 0, none⟩), .pointer (some ⟨l, 0, none⟩), .pointer (some ⟨q, 0, none⟩), .pointer (some ⟨rt, 0, none⟩), .pointer (some ⟨rm, 0, none⟩), .slice none 0 0, .slice none 0 0, .slice none 0 0, .slice none 0 0]) (fun _ _ => False) (by rintro _ _ ⟨rfl, rfl⟩; exact (by repeat (first | exact There.h | exact There.i (by assumption) | apply There.t | apply There.s))) (fun _ _ h => h.elim) 13 [false, false, false, false, false, false, false, false, false, false, false, false, false] rfl rfl ?_
   refine WD.val (i := 0) rfl rfl rfl rfl (by kernel_rfl) rfl (Yld.move rfl rfl) ?_
   refine WD.val (i := 1) rfl rfl rfl rfl (by kernel_rfl) rfl (Yld.nilCheck rfl rfl) ?_
   refine WD.val (i := 2) rfl rfl rfl rfl (by kernel_rfl) rfl (Yld.fieldAddr rfl ty_fd_43_2 rfl) ?_
   refine WD.val1 (i := 3) rfl rfl rfl rfl (by kernel_rfl) rfl (by kernel_rfl) (Yld.load (v := .pointer (some ⟨l, 0, none⟩)) rfl ty_sc_34 rfl (.inl ⟨rfl, rfl⟩) rfl) ?_
   refine WD.val (i := 4) rfl rfl rfl rfl (by kernel_rfl) rfl (Yld.buildS (pl := [(1, 1, 1)]) rfl ty_zr_29 ty_zd_29 (by kernel_rfl) rfl (vs := [_]) rfl (segs := [(1, [_])]) rfl rfl (by repeat (first | exact SetSeg.nil | apply SetSeg.one | exact SetAt.zero | apply SetAt.succ))) ?_
   refine WD.both (i := 5) (j := 10) (by kernel_rfl) rfl rfl ?_ ?_
   ·refine WP.oper rfl rfl ?_
    refine Op.make (l := 1) (c := 1) rfl ty_sl_46 ty_el_46 rfl rfl rfl rfl rfl (Nat.le_refl _) (by decide) (by decide) (fun b6 => ?_)
    rw [bytes0']
    refine WP.share (fun J3 hJ3 hb6 => ?_)
    have hl := hl.mono hJ3
    have hb3 : SlRd (Im J3) (.slice (some ⟨b6, 0, none⟩) 1 1) awc.length 1 (bytesV awc) := by have h := Im_lit (l := awc) (sp := []) (c := 1) (by rw [List.append_nil]; exact hb6) (by rw [awc_len]; exact Nat.le_refl _); rw [awc_len] at h ⊢; exact h
    refine WD.gR ?_
    refine WD.both (i := 6) (j := 10) (by kernel_rfl) rfl rfl ?_ ?_
    ·refine WP.oper rfl rfl ?_
     refine Op.cl (log_Append_bad (hn := 0) (hp := 8) (kind := 1) (b := awc) hl hb3 (aw_e2 r hrb (by decide)) (by decide)) rfl Try.func10 rfl rfl rfl rfl ?_
     rintro v J4 Lb hJ4 ⟨rfl, hl⟩
     try simp only [nf]
     refine WD.gR ?_
     refine WD.val (i := 7) rfl rfl rfl rfl (by kernel_rfl) rfl (Yld.move rfl rfl) ?_
     refine WD.val (i := 8) rfl rfl rfl rfl (by kernel_rfl) rfl (Yld.extract rfl rfl rfl) ?_
     refine WD.val (i := 9) rfl rfl rfl rfl (by kernel_rfl) rfl (Yld.extract rfl rfl rfl) ?_
     refine WD.loud (i := 10) (by kernel_rfl) rfl rfl rfl ?_
     refine Op.alloc rfl rfl rfl ty_zr_29 (fun b7 => ?_)
     refine WD.gR ?_
     refine WD.loud (i := 11) (by kernel_rfl) rfl rfl rfl ?_
     refine Op.sA rfl rfl ty_sz_29 rfl rfl rfl rfl rfl ?_
     refine WD.go (.inl rfl) (fun _ _ h => h.elim) ?_
     refine WD.val (i := 12) rfl rfl rfl rfl (by kernel_rfl) rfl (Yld.assign rfl rfl) ?_
     refine WD.done (by kernel_rfl) ?_
     refine WP.sub [(1, _), (4, _), (5, _), (7, _)] ?_ ⟨rfl, rfl, rfl, rfl, trivial⟩
     exact WP.mt (⟨r, J4, Lb, 0⟩ : AWC) ⟨Imm.le_trans hJ3 hJ4, hl⟩ ⟨rfl, rfl, rfl, rfl, trivial⟩ rfl
    ·refine WP.oper rfl rfl ?_
     refine Op.alloc rfl rfl rfl ty_zr_29 (fun b7 => ?_)
     refine WD.gR ?_
     refine WD.loud (i := 6) (by kernel_rfl) rfl rfl rfl ?_
     refine Op.cl (log_Append_bad (hn := 0) (hp := 8) (kind := 1) (b := awc) hl hb3 (aw_e2 r hrb (by decide)) (by decide)) rfl Try.func10 rfl rfl rfl rfl ?_
     rintro v J4 Lb hJ4 ⟨rfl, hl⟩
     try simp only [nf]
     refine WD.gR ?_
     refine WD.val (i := 7) rfl rfl rfl rfl (by kernel_rfl) rfl (Yld.move rfl rfl) ?_
     refine WD.val (i := 8) rfl rfl rfl rfl (by kernel_rfl) rfl (Yld.extract rfl rfl rfl) ?_
     refine WD.val (i := 9) rfl rfl rfl rfl (by kernel_rfl) rfl (Yld.extract rfl rfl rfl) ?_
     refine WD.loud (i := 11) (by kernel_rfl) rfl rfl rfl ?_
     refine Op.sA rfl rfl ty_sz_29 rfl rfl rfl rfl rfl ?_
     refine WD.go (.inl rfl) (fun _ _ h => h.elim) ?_
     refine WD.val (i := 12) rfl rfl rfl rfl (by kernel_rfl) rfl (Yld.assign rfl rfl) ?_
     refine WD.done (by kernel_rfl) ?_
     refine WP.sub [(1, _), (4, _), (5, _), (7, _)] ?_ ⟨rfl, rfl, rfl, rfl, trivial⟩
     exact WP.mt (⟨r, J4, Lb, 0⟩ : AWC) ⟨Imm.le_trans hJ3 hJ4, hl⟩ ⟨rfl, rfl, rfl, rfl, trivial⟩ rfl
   ·refine WP.oper rfl rfl ?_
    refine Op.alloc rfl rfl rfl ty_zr_29 (fun b7 => ?_)
    refine WD.gR ?_
    refine WD.loud (i := 5) (by kernel_rfl) rfl rfl rfl ?_
    refine Op.make (l := 1) (c := 1) rfl ty_sl_46 ty_el_46 rfl rfl rfl rfl rfl (Nat.le_refl _) (by decide) (by decide) (fun b6 => ?_)
    rw [bytes0']
    refine WP.share (fun J3 hJ3 hb6 => ?_)
    have hl := hl.mono hJ3
    have hb3 : SlRd (Im J3) (.slice (some ⟨b6, 0, none⟩) 1 1) awc.length 1 (bytesV awc) := by have h := Im_lit (l := awc) (sp := []) (c := 1) (by rw [List.append_nil]; exact hb6) (by rw [awc_len]; exact Nat.le_refl _); rw [awc_len] at h ⊢; exact h
    refine WD.gR ?_
    refine WD.loud (i := 6) (by kernel_rfl) rfl rfl rfl ?_
    refine Op.cl (log_Append_bad (hn := 0) (hp := 8) (kind := 1) (b := awc) hl hb3 (aw_e2 r hrb (by decide)) (by decide)) rfl Try.func10 rfl rfl rfl rfl ?_
    rintro v J4 Lb hJ4 ⟨rfl, hl⟩
    try simp only [nf]
    refine WD.gR ?_
    refine WD.val (i := 7) rfl rfl rfl rfl (by kernel_rfl) rfl (Yld.move rfl rfl) ?_
    refine WD.val (i := 8) rfl rfl rfl rfl (by kernel_rfl) rfl (Yld.extract rfl rfl rfl) ?_
    refine WD.val (i := 9) rfl rfl rfl rfl (by kernel_rfl) rfl (Yld.extract rfl rfl rfl) ?_
    refine WD.loud (i := 11) (by kernel_rfl) rfl rfl rfl ?_
    refine Op.sA rfl rfl ty_sz_29 rfl rfl rfl rfl rfl ?_
    refine WD.go (.inl rfl) (fun _ _ h => h.elim) ?_
    refine WD.val (i := 12) rfl rfl rfl rfl (by kernel_rfl) rfl (Yld.assign rfl rfl) ?_
    refine WD.done (by kernel_rfl) ?_
    refine WP.sub [(1, _), (4, _), (5, _), (7, _)] ?_ ⟨rfl, rfl, rfl, rfl, trivial⟩
    exact WP.mt (⟨r, J4, Lb, 0⟩ : AWC) ⟨Imm.le_trans hJ3 hJ4, hl⟩ ⟨rfl, rfl, rfl, rfl, trivial⟩ rfl
  ·rintro ⟨r_, J4, Lb, _⟩ ⟨hJ4, hl⟩; dsimp only at hJ4 hl
   refine WP.seq ?_
   refine WP.region [0, 1, 2, 3, 4, 5] rfl ?_
   refine WP.mv rfl rfl ?_
   refine WP.vl rfl (Yld.nilCheck rfl rfl) ?_
   refine WP.vl rfl (Yld.fieldAddr rfl ty_fd_43_2 rfl) ?_
   refine WP.vl rfl (Yld.ld (v := .pointer (some ⟨l, 0, none⟩)) rfl ty_sc_34 rfl rfl) ?_
   refine WP.loud rfl rfl ?_
   refine Op.cl (log_NewFlush (l := l)) rfl Try.func12 rfl rfl rfl rfl ?_
   rintro v J L1 - ⟨rfl, f, rfl, rfl⟩
   try simp only [nf]
   refine WP.mv rfl rfl ?_
   refine WP.nil ?_
   refine WP.sub [(1, _), (4, _), (5, _), (7, _), (8, _)] ?_ ⟨rfl, rfl, rfl, rfl, rfl, trivial⟩
   refine WP.next ?_
   refine WP.seq ?_
   refine WP.seq ?_
   refine WP.region [0, 1, 2, 3, 4, 5, 6, 7, 8, 9, 10, 11, 12, 13, 14] rfl ?_
   refine WP.mv rfl rfl ?_
   refine WP.vl rfl (Yld.eqlNil rfl ty_pt_47 rfl rfl) ?_
   refine WP.mv rfl rfl ?_
   refine WP.valG rfl rfl rfl rfl rfl rfl rfl (Yld.ldg (vs := [.int .i64 ((1 : Nat) : Int), .int .i64 ((10 : Nat) : Int)]) rfl ty_ag_29 rfl rfl rfl) ?_
   refine WP.valG rfl rfl rfl rfl rfl rfl rfl (Yld.buildS (pl := [(0, 0, 1), (1, 1, 1)]) rfl ty_zr_29 ty_zd_29 (by kernel_rfl) rfl (vs := [_, _]) rfl (segs := [(0, [_]), (1, [_])]) rfl rfl (by repeat (first | exact SetSeg.nil | apply SetSeg.one | exact SetAt.zero | apply SetAt.succ))) ?_
   refine WP.valG rfl rfl rfl rfl rfl rfl rfl (Yld.neqInts (m := 2) (us := [1, 10]) (vs := [1, 10]) rfl (by kernel_rfl) rfl rfl rfl rfl false (by simp)) ?_
   refine WP.vl rfl (Yld.pickF rfl rfl rfl) ?_
   refine WP.mv rfl rfl ?_
   refine WP.valG rfl rfl rfl rfl rfl rfl rfl (Yld.move rfl rfl) ?_
   refine WP.valG rfl rfl rfl rfl rfl rfl rfl (Yld.neq rfl rfl rfl false (decide_eq_false (by simp))) ?_
   refine WP.vl rfl (Yld.pickF rfl rfl rfl) ?_
   refine WP.mv rfl rfl ?_
   refine WP.valG rfl rfl rfl rfl rfl rfl rfl (Yld.move rfl rfl) ?_
   refine WP.valG rfl rfl rfl rfl rfl rfl rfl (Yld.neq rfl rfl rfl false (decide_eq_false (by simp))) ?_
   refine WP.vl rfl (Yld.pickF rfl rfl rfl) ?_
   refine WP.nil ?_
   refine WP.sub [(1, _), (4, _), (5, _), (7, _), (8, _), (64, _)] ?_ ⟨rfl, rfl, rfl, rfl, rfl, rfl, trivial⟩
   refine WP.next ?_
   refine WP.condF rfl ?_
   refine WP.skip ?_
   refine WP.next ?_
   refine WP.seq ?_
   refine WP.region [0] rfl ?_
   refine WP.mv rfl rfl ?_
   refine WP.nil ?_
   have ok1 := hl.ok
   have hgd : (aw0.push r).good 328 (Dk.new 328) := (Lg.good.new (x := aw0) (y := Dk.new 328) hok0 (by decide) (On.new (by decide) (by decide)) rfl (by decide) rfl (by decide)).push (J := J4) hl.recs ok1
   refine WP.next ?_
   refine WP.seq ?_
   refine WP.block ?_
   refine WP.loop (X := AWX) (fun t : AWX => [(1, .pointer (some ⟨x, 0, none⟩)), (8, .pointer (some ⟨f, 0, none⟩)), (9, .int .i64 (t.i : Int))]) (fun t => t.J) (fun t : AWX => (x, row 43 [.pointer (some ⟨d, 0, none⟩), .pointer (some ⟨s, 0, none⟩), .pointer (some ⟨l, 0, none⟩), .pointer (some ⟨q, 0, none⟩), .pointer (some ⟨rt, 0, none⟩), .pointer (some ⟨rm, 0, none⟩), .slice none 0 0, .slice none 0 0, .slice none 0 0, .slice none 0 0]) :: (f, row 97 (flV l f t.z)) :: (t.L ++ F)) (fun t => AwI r t.i t.x t.y t.z ∧ J4.le t.J ∧ IsLog t.J l s d 328 t.x t.y t.L) (fun t => 5 - t.i) ⟨0, aw0.push r, Dk.new 328, ⟨0, 0, 0, 0, 1⟩, J4, Lb⟩ ⟨⟨hgd, ⟨fun h => (by rcases h with h | h <;> cases h), fun h => by cases h⟩, rfl, ⟨rfl, rfl, rfl, rfl, rfl⟩, Nat.zero_le _, .inl ⟨rfl, rfl, rfl⟩⟩, Imm.le_refl _, hl⟩ ⟨rfl, rfl, rfl, trivial⟩ rfl (by (try dsimp only); repeat (first | exact Rm.chunk | exact Rm.here | exact Rm.nil0 | apply Rm.skip | apply Rm.skipS | apply PX.cons | (apply PX.done; (repeat (first | exact Leave.done | apply Leave.drop | apply Leave.dropS)); done) | apply PX.app)) ?_
   rintro ⟨i, xx, yy, zz, J, Lx⟩ ⟨hi, hJ, hl⟩; dsimp only at hi hJ hl
   try dsimp only
   try simp only [nf]
   refine WP.seq ?_
   refine WP.seq ?_
   refine WP.region [0, 1, 2, 3, 4, 5, 6] rfl ?_
   refine WP.mv rfl rfl ?_
   refine WP.split rfl rfl rfl rfl (Yld.lss rfl rfl rfl) (fun hlt => ?_) (fun hlt => ?_)
   ·refine WP.mv rfl rfl ?_
    refine WP.valG rfl rfl rfl rfl rfl rfl rfl (Yld.move rfl rfl) ?_
    refine WP.loudG rfl rfl rfl rfl rfl ?_
    refine Op.cl (flush_Step (f := f) hl hi.zo (by have := hi.w; omega)) rfl Try.func13 rfl rfl rfl rfl ?_
    rintro v J5 L1 hJ5 ⟨rfl, L2, rfl, hl⟩
    try simp only [nf]
    by_cases hdn : (fstep 328 xx yy zz).1 = true
    ·rw [hdn]
     refine WP.valG rfl rfl rfl rfl rfl rfl rfl (Yld.not rfl rfl) ?_
     refine WP.vl rfl (Yld.pickT rfl rfl rfl) ?_
     refine WP.nil ?_
     refine WP.sub [(1, _), (8, _), (9, _), (71, _)] ?_ ⟨rfl, rfl, rfl, rfl, trivial⟩
     refine WP.next ?_
     refine WP.condF rfl ?_
     refine WP.exit ?_
     refine WP.thenE ?_
     refine WP.thenE ?_
     refine WP.hit ?_
     refine WP.next ?_
     refine WP.seq ?_
     obtain ⟨rfl, _, hE⟩ := (hi.step hr2).resolve_left (fun h => by rw [h.2.1] at hdn; cases hdn)
     obtain ⟨gE, rsE, ⟨c1, c2, c3, c4, c5⟩, sE, nE, eE⟩ := hE
     generalize (fstep 328 xx yy zz).2.1 = x1 at *
     generalize (fstep 328 xx yy zz).2.2.1 = y1 at *
     generalize (fstep 328 xx yy zz).2.2.2 = z1 at *
     have hno := AwI.no rsE c1
     have hpl := AwI.pl rsE c2 hr2
     refine WP.region [0, 1, 2, 3, 4, 5, 6] rfl ?_
     refine WP.mv rfl rfl ?_
     refine WP.loud rfl rfl ?_
     refine Op.cl (flush_Upto (l := l) (z := z1)) rfl Try.func14 rfl rfl rfl rfl ?_
     rintro v J L1 - ⟨rfl, rfl, rfl⟩
     try simp only [nf]
     rw [nE, eE]
     refine WP.mv rfl rfl ?_
     refine WP.vl rfl (Yld.extract rfl rfl rfl) ?_
     refine WP.vl rfl (Yld.extract rfl rfl rfl) ?_
     iterate 2 refine WP.mv rfl rfl ?_
     refine WP.nil ?_
     refine WP.sub [(1, _), (8, _), (9, _), (10, _), (11, _), (71, _)] ?_ ⟨rfl, rfl, rfl, rfl, rfl, rfl, trivial⟩
     refine WP.next ?_
     refine WP.seq ?_
     refine WP.region [0, 1, 2, 3, 4] rfl ?_
     refine WP.mv rfl rfl ?_
     refine WP.vl rfl (Yld.nilCheck rfl rfl) ?_
     refine WP.vl rfl (Yld.fieldAddr rfl ty_fd_43_2 rfl) ?_
     refine WP.vl rfl (Yld.ld (v := .pointer (some ⟨l, 0, none⟩)) rfl ty_sc_34 rfl rfl) ?_
     refine WP.loud rfl rfl ?_
     refine Op.cl (log_Advance (to := 1) hl) rfl Try.func29 rfl rfl rfl rfl ?_
     rintro v J L3 - ⟨rfl, rfl, hl⟩
     try simp only [nf]
     rw [adv_mark (m := 1) (by omega) (by omega)] at hl
     have hok2 := hl.ok
     have gm : (x1.mk_ 1).good 328 y1 := ⟨hok2, gE.n8, gE.on, gE.pt, gE.f0, gE.se, gE.bl⟩
     refine WP.nil ?_
     refine WP.sub [(1, _), (8, _), (9, _), (10, _), (11, _), (71, _)] ?_ ⟨rfl, rfl, rfl, rfl, rfl, rfl, trivial⟩
     refine WP.next ?_
     refine WP.seq ?_
     refine WP.region [0, 1, 2, 3, 4, 5] rfl ?_
     refine WP.mv rfl rfl ?_
     refine WP.vl rfl (Yld.nilCheck rfl rfl) ?_
     refine WP.vl rfl (Yld.fieldAddr rfl ty_fd_43_2 rfl) ?_
     refine WP.vl rfl (Yld.ld (v := .pointer (some ⟨l, 0, none⟩)) rfl ty_sc_34 rfl rfl) ?_
     refine WP.loud rfl rfl ?_
     refine Op.cl (log_NewRead (l := l) (p := 8)) rfl Try.func25 rfl rfl rfl rfl ?_
     rintro v J L4 - ⟨rfl, rd, rfl, hrd⟩
     try simp only [nf]
     refine WP.mv rfl rfl ?_
     refine WP.nil ?_
     refine WP.sub [(1, _), (8, _), (9, _), (10, _), (11, _), (12, _), (71, _)] ?_ ⟨rfl, rfl, rfl, rfl, rfl, rfl, rfl, trivial⟩
     refine WP.next ?_
     refine WP.seq ?_
     refine WP.seq ?_
     refine WP.region [0, 1] rfl ?_
     refine WP.mv rfl rfl ?_
     refine WP.vl rfl (Yld.eqlNil rfl ty_pt_69 rfl rfl) ?_
     refine WP.nil ?_
     refine WP.sub [(1, _), (8, _), (9, _), (10, _), (11, _), (12, _), (71, _), (90, _)] ?_ ⟨rfl, rfl, rfl, rfl, rfl, rfl, rfl, rfl, trivial⟩
     refine WP.next ?_
     refine WP.condF rfl ?_
     refine WP.skip ?_
     refine WP.next ?_
     refine WP.seq ?_
     have hrs0 : (x1.mk_ 1).rs = [r] := rsE
     have hlo : (x1.mk_ 1).lo = 1 := by show min 1 x1.wr = 1; rw [c4]; rfl
     have hR := hl.recs 0 (by rw [hrs0]; exact Nat.zero_lt_one)
     have hc : CutOk (((x1.mk_ 1).base + 0 + 1 : Nat) : Int) (((x1.mk_ 1).endP 0 : Nat) : Int) (x1.mk_ 1).era (kbody r.kind r.b) := by have h := hR.ok; simp only [hrs0, List.getElem_cons_zero] at h; exact h
     have hb0 : (x1.mk_ 1).base = 0 := c1
     have hp0 : (x1.mk_ 1).endP 0 = 8 := by show x1.p0 + 0 = 8; omega
     have hera : (x1.mk_ 1).era = 1 := c5
     rw [hb0, hp0, hera, hrk, hrb] at hc
     have hfd : ∀ i, i < 2 → pread y1 328 (x1.mk_ 1).g (8 + i) = (pcut 1 8 1 (kbody 1 awb) (kmany awb) i, 0) := fun i hi => by
      rw [gm.read (show x1.p0 ≤ 8 + i by omega) (show 8 + i < x1.sent by omega)]
      have h := (x1.mk_ 1).part_at (k := 0) (j := i) (by rw [hrs0]; exact Nat.zero_lt_one) (by simp only [hrs0, List.getElem_cons_zero]; omega)
      simp only [hrs0, List.getElem_cons_zero] at h
      rw [hp0, hb0, hera, hrk, hrb] at h
      rw [h]; unfold Rc.n; rw [hrb]; rfl
     have st0 := rstep_next (f := fun q => pread y1 328 (x1.mk_ 1).g q) (no := 1) (P := 8) (era := 1) (kind := 1) (b := awb) (i := 0) hc (by decide) (by rw [awb_many]; decide) (hfd 0 (by decide))
     have st1 := rstep_next (f := fun q => pread y1 328 (x1.mk_ 1).g q) (no := 1) (P := 8) (era := 1) (kind := 1) (b := awb) (i := 1) hc (by decide) (by rw [awb_many]; decide) (hfd 1 (by decide))
     rw [if_pos (by rw [awb_many]; decide)] at st0
     rw [if_neg (by rw [awb_many]; decide)] at st1
     have hnn : (8 : Nat) < (x1.mk_ 1).endP ((x1.mk_ 1).lo - (x1.mk_ 1).base) ∨ (x1.mk_ 1).pl ≤ 8 := by left; rw [hlo, hb0]; show 8 < (x1.mk_ 1).endP (1 - 0); rw [(x1.mk_ 1).endP_ge (by rw [hrs0]; exact Nat.le_refl _)]; show 8 < x1.pl; omega
     refine WP.region [0, 1] rfl ?_
     refine WP.mv rfl rfl ?_
     refine WP.loud rfl rfl ?_
     refine Op.cl (read_Step_live hl (z := rdNew 8) hrd rfl (by decide) (by decide) hnn) rfl Try.func30 rfl rfl rfl rfl ?_
     rintro v J6 L6 hJ6 ⟨rfl, Lr2, L5, rfl, hrd, hl⟩
     try simp only [nf]
     rw [rdNew_at 8 1 1 (kbody 1 awb) (kmany awb), st0] at hrd
     refine WP.nil ?_
     refine WP.sub [(1, _), (8, _), (9, _), (10, _), (11, _), (12, _), (71, _), (90, _)] ?_ ⟨rfl, rfl, rfl, rfl, rfl, rfl, rfl, rfl, trivial⟩
     refine WP.next ?_
     refine WP.seq ?_
     refine WP.region [0, 1] rfl ?_
     refine WP.mv rfl rfl ?_
     refine WP.loud rfl rfl ?_
     refine Op.cl (read_Step_live hl hrd rfl (by show ((List.range 1).map _).length ≤ 63; simp) (by decide) hnn) rfl Try.func30 rfl rfl rfl rfl ?_
     rintro v J7 L8 hJ7 ⟨rfl, Lr3, L7, rfl, hrd, hl⟩
     try simp only [nf]
     rw [st1] at hrd
     refine WP.nil ?_
     refine WP.sub [(1, _), (8, _), (9, _), (10, _), (11, _), (12, _), (71, _), (90, _)] ?_ ⟨rfl, rfl, rfl, rfl, rfl, rfl, rfl, rfl, trivial⟩
     refine WP.next ?_
     refine WP.seq ?_
     refine WP.region [0, 1, 2, 3, 4, 5, 6, 7, 8, 9, 10] rfl ?_
     refine WP.mv rfl rfl ?_
     refine WP.loud rfl rfl ?_
     refine Op.cl (read_Got hrd (by show awb.length ≤ _; rw [awb_len]; decide)) rfl Try.func27 rfl rfl rfl rfl ?_
     rintro v J L9 - ⟨rfl, vc, Lc, rfl, hvc, rfl⟩
     try simp only [nf]
     obtain ⟨Ac, cc, rfl, _⟩ := hvc.slice
     refine WP.mv rfl rfl ?_
     refine WP.vl rfl (Yld.extract rfl rfl rfl) ?_
     refine WP.vl rfl (Yld.extract rfl rfl rfl) ?_
     refine WP.vl rfl (Yld.extract rfl rfl rfl) ?_
     refine WP.vl rfl (Yld.extract rfl rfl rfl) ?_
     iterate 4 refine WP.mv rfl rfl ?_
     refine WP.nil ?_
     refine WP.sub [(1, _), (8, _), (9, _), (10, _), (11, _), (12, _), (13, _), (14, _), (15, _), (16, _), (71, _), (90, _)] ?_ ⟨rfl, rfl, rfl, rfl, rfl, rfl, rfl, rfl, rfl, rfl, rfl, rfl, trivial⟩
     refine WP.next ?_
     refine WP.seq ?_
     refine WP.region [0, 1, 2, 3, 4, 5, 6, 7, 8, 9, 10, 11, 12, 13, 14, 15, 16, 17, 18, 19, 20, 21, 22, 23, 24, 25, 26, 27, 28, 29, 30, 31, 32, 33, 34, 35, 36, 37, 38, 39, 40, 41, 42, 43, 44, 45, 46, 47, 48, 49, 50, 51, 52] rfl ?_
     refine WP.mv rfl rfl ?_
     refine WP.vl rfl (Yld.eql rfl rfl rfl true (decide_eq_true (by rfl))) ?_
     refine WP.mv rfl rfl ?_
     refine WP.valG rfl rfl rfl rfl rfl rfl rfl (Yld.move rfl rfl) ?_
     refine WP.valG rfl rfl rfl rfl rfl rfl rfl (Yld.eql rfl rfl rfl true (decide_eq_true (by rfl))) ?_
     refine WP.vl rfl (Yld.pickT rfl rfl rfl) ?_
     refine WP.mv rfl rfl ?_
     refine WP.valG rfl rfl rfl rfl rfl rfl rfl (Yld.move rfl rfl) ?_
     refine WP.valG rfl rfl rfl rfl rfl rfl rfl (Yld.eql rfl rfl rfl true (decide_eq_true (by rfl))) ?_
     refine WP.vl rfl (Yld.pickT rfl rfl rfl) ?_
     refine WP.mv rfl rfl ?_
     refine WP.valG rfl rfl rfl rfl rfl rfl rfl (Yld.move rfl rfl) ?_
     refine WP.valG rfl rfl rfl rfl rfl rfl rfl (Yld.eql rfl rfl rfl true (decide_eq_true (by rfl))) ?_
     refine WP.vl rfl (Yld.pickT rfl rfl rfl) ?_
     refine WP.mv rfl rfl ?_
     refine WP.valG rfl rfl rfl rfl rfl rfl rfl (Yld.move rfl rfl) ?_
     refine WP.valG rfl rfl rfl rfl rfl rfl rfl (Yld.eql rfl rfl rfl true (decide_eq_true (by rfl))) ?_
     refine WP.vl rfl (Yld.pickT rfl rfl rfl) ?_
     refine WP.mv rfl rfl ?_
     refine WP.valG rfl rfl rfl rfl rfl rfl rfl (Yld.move rfl rfl) ?_
     refine WP.valG rfl rfl rfl rfl rfl rfl rfl (Yld.len rfl ty_sl_46 rfl) ?_
     refine WP.valG rfl rfl rfl rfl rfl rfl rfl (Yld.eql rfl rfl rfl true (decide_eq_true (by show (awb.length : Int) = 198; rw [awb_len]; rfl))) ?_
     refine WP.vl rfl (Yld.pickT rfl rfl rfl) ?_
     refine WP.mv rfl rfl ?_
     refine WP.valG rfl rfl rfl rfl rfl rfl rfl (Yld.move rfl rfl) ?_
     refine WP.valG rfl rfl rfl rfl rfl rfl rfl (Yld.eql rfl rfl rfl true (decide_eq_true (by rfl))) ?_
     refine WP.vl rfl (Yld.pickT rfl rfl rfl) ?_
     refine WP.mv rfl rfl ?_
     refine WP.valG rfl rfl rfl rfl rfl rfl rfl (Yld.move rfl rfl) ?_
     refine WP.valG rfl rfl rfl rfl rfl rfl rfl (Yld.nilCheck rfl rfl) ?_
     refine WP.valG rfl rfl rfl rfl rfl rfl rfl (Yld.fieldAddr rfl ty_fd_43_2 rfl) ?_
     refine WP.valG rfl rfl rfl rfl rfl rfl rfl (Yld.ld (v := .pointer (some ⟨l, 0, none⟩)) rfl ty_sc_34 rfl rfl) ?_
     refine WP.loudG rfl rfl rfl rfl rfl ?_
     refine Op.cl (log_Held hl) rfl Try.func19 rfl rfl rfl rfl ?_
     rintro v J L1 - ⟨rfl, rfl, rfl⟩
     try simp only [nf]
     refine WP.valG rfl rfl rfl rfl rfl rfl rfl (Yld.eql rfl rfl rfl true (decide_eq_true (by show (((x1.mk_ 1).no - (x1.mk_ 1).lo : Nat) : Int) = 0; rw [hlo]; show ((x1.no - 1 : Nat) : Int) = 0; omega))) ?_
     refine WP.vl rfl (Yld.pickT rfl rfl rfl) ?_
     refine WP.mv rfl rfl ?_
     refine WP.valG rfl rfl rfl rfl rfl rfl rfl (Yld.move rfl rfl) ?_
     refine WP.valG rfl rfl rfl rfl rfl rfl rfl (Yld.nilCheck rfl rfl) ?_
     refine WP.valG rfl rfl rfl rfl rfl rfl rfl (Yld.fieldAddr rfl ty_fd_43_2 rfl) ?_
     refine WP.valG rfl rfl rfl rfl rfl rfl rfl (Yld.ld (v := .pointer (some ⟨l, 0, none⟩)) rfl ty_sc_34 rfl rfl) ?_
     refine WP.loudG rfl rfl rfl rfl rfl ?_
     refine Op.cl (log_Written hl) rfl Try.func17 rfl rfl rfl rfl ?_
     rintro v J L1 - ⟨rfl, rfl, rfl⟩
     try simp only [nf]
     refine WP.valG rfl rfl rfl rfl rfl rfl rfl (Yld.eql rfl rfl rfl true (decide_eq_true (by show ((x1.wr : Nat) : Int) = 1; omega))) ?_
     refine WP.vl rfl (Yld.pickT rfl rfl rfl) ?_
     refine WP.mv rfl rfl ?_
     refine WP.valG rfl rfl rfl rfl rfl rfl rfl (Yld.move rfl rfl) ?_
     refine WP.valG rfl rfl rfl rfl rfl rfl rfl (Yld.nilCheck rfl rfl) ?_
     refine WP.valG rfl rfl rfl rfl rfl rfl rfl (Yld.fieldAddr rfl ty_fd_43_2 rfl) ?_
     refine WP.valG rfl rfl rfl rfl rfl rfl rfl (Yld.ld (v := .pointer (some ⟨l, 0, none⟩)) rfl ty_sc_34 rfl rfl) ?_
     refine WP.loudG rfl rfl rfl rfl rfl ?_
     refine Op.cl (log_Mark hl) rfl Try.func31 rfl rfl rfl rfl ?_
     rintro v J L1 - ⟨rfl, rfl, rfl⟩
     try simp only [nf]
     refine WP.valG rfl rfl rfl rfl rfl rfl rfl (Yld.field (v := .int .i64 ((x1.mk_ 1).mpl : Int)) rfl ty_fl_29_1 ty_sc_3 rfl rfl) ?_
     refine WP.valG rfl rfl rfl rfl rfl rfl rfl (Yld.eql rfl rfl rfl true (decide_eq_true (by show (((x1.mk_ 1).endP (1 - (x1.mk_ 1).base) : Nat) : Int) = 10; rw [hb0, (x1.mk_ 1).endP_ge (by rw [hrs0]; exact Nat.le_refl _)]; show ((x1.pl : Nat) : Int) = 10; omega))) ?_
     refine WP.vl rfl (Yld.pickT rfl rfl rfl) ?_
     refine WP.mv rfl rfl ?_
     refine WP.nil ?_
     refine WP.sub [(0, _), (1, _), (8, _), (9, _), (10, _), (11, _), (12, _), (13, _), (14, _), (15, _), (16, _), (71, _), (90, _)] ?_ ⟨rfl, rfl, rfl, rfl, rfl, rfl, rfl, rfl, rfl, rfl, rfl, rfl, rfl, trivial⟩
     refine WP.next ?_
     refine WP.ret ?_
     refine WP.fn .ret (.inr rfl) (res1 rfl rfl) [] (Imm.le_trans hJ2 (Imm.le_trans hJ4 (Imm.le_trans hJ (Imm.le_trans hJ5 (Imm.le_trans hJ6 hJ7))))) ?_
     exact ⟨rfl, rfl⟩
    ·have hdn : (fstep 328 xx yy zz).1 = false := eq_false_of_ne_true hdn
     rw [hdn]
     refine WP.valG rfl rfl rfl rfl rfl rfl rfl (Yld.not rfl rfl) ?_
     refine WP.vl rfl (Yld.pickT rfl rfl rfl) ?_
     refine WP.nil ?_
     refine WP.sub [(1, _), (8, _), (9, _), (71, _)] ?_ ⟨rfl, rfl, rfl, rfl, trivial⟩
     refine WP.next ?_
     refine WP.condT rfl ?_
     refine WP.skip ?_
     refine WP.next ?_
     refine WP.block ?_
     obtain ⟨hi3, _, h2⟩ := (hi.step hr2).resolve_right (fun h => by rw [h.2.1] at hdn; cases hdn)
     refine WP.region [0, 1, 2] rfl ?_
     refine WP.mv rfl rfl ?_
     refine WP.vl rfl (Yld.add64 rfl rfl rfl (by omega)) ?_
     refine WP.mv rfl rfl ?_
     refine WP.nil ?_
     refine WP.sub [(1, _), (8, _), (9, _), (71, _)] ?_ ⟨rfl, rfl, rfl, rfl, trivial⟩
     refine WP.leave ?_
     exact WP.ag ⟨i + 1, _, _, _, J5, L2⟩ ⟨h2, Imm.le_trans hJ hJ5, hl⟩ (show 5 - (i + 1) < 5 - i by omega) ⟨rfl, rfl, rfl, trivial⟩ rfl
   ·exfalso; rcases hi.s with h | h | h <;> omega


end Go.Hp
