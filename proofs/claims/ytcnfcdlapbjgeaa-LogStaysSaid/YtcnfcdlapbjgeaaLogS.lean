import Derived.Test.YtcnfcdlapbjgeaaLogR
import Derived.Test.YtcnfcdlapbjgeaaLogO0
set_option linter.unusedVariables false
set_option linter.unusedSimpArgs false
namespace Go.Hp
open Go Go.Proofs

/-- Two Flushes of one log. -/
structure TwI (P : Nat) (x : Lg) (y : Dk) (z u : Fl) : Prop where
 td : Tidy 552 P x y
 bk : Blank x y
 sd : x.p0 = 8 ∧ x.g.first = 1 ∧ x.g.slots = 17
 z1 : z.ok x
 z2 : z.st 0 P x
 u1 : u.ok x
 u2 : u.st 0 P x
theorem TwI.swap {P : Nat} {x : Lg} {y : Dk} {z u : Fl} (h : TwI P x y z u) : TwI P x y u z := ⟨h.td, h.bk, h.sd, h.u1, h.u2, h.z1, h.z2⟩
theorem TwI.ap {P : Nat} {x x' : Lg} {y : Dk} {z u : Fl} (h : TwI P x y z u) {b : List UInt8} {e : Int} {hn hp : Nat} (ha : ApOk x b e hn hp x') {J : Imm} (hr : Recs J x') (hok : x'.ok 552) : TwI P x' y z u := by
 rcases ha with ⟨_, rfl, _⟩ | ⟨_, r, _, rfl, _⟩
 ·exact h
 ·have hno : x.no ≤ (x.push r).no := by rw [x.no_push]; omega
  exact ⟨h.td.push hr hok, h.bk.push r, h.sd, h.z1.push r, h.z2.to hno (Nat.le_refl _) (Nat.le_refl _), h.u1.push r, h.u2.to hno (Nat.le_refl _) (Nat.le_refl _)⟩
theorem TwI.step {P : Nat} {x : Lg} {y : Dk} {z u : Fl} (h : TwI P x y z u) : ∃ P' x' y' z', fstep 552 x y z = (decide (z'.at_ = 3), x', y', z') ∧ TwI P' x' y' z' u ∧ flmu x' z' ≤ flmu x z - 1 ∧ flmu x' u ≤ flmu x u := by
 obtain ⟨P', x', y', z', e, h1, h2, h3, nx, h5, h6, h7⟩ := step_tidy h.td h.z1 h.z2
 exact ⟨P', x', y', z', e, ⟨h1, h7 h.bk, ⟨nx.p0.trans h.sd.1, nx.first.trans h.sd.2.1, nx.slots.trans h.sd.2.2⟩, h2, h3, nx.flok h.u1, h.u2.to (Nat.le_of_eq nx.no.symm) nx.wr h5⟩, h6, flmu_to nx.top nx.sent⟩
theorem TwI.mu {P : Nat} {x : Lg} {y : Dk} {z u : Fl} (h : TwI P x y z u) : flmu x z ≤ 200 := by have := h.td.mu z; have := h.sd.2.2; omega
theorem TwI.done {P : Nat} {x : Lg} {y : Dk} {z u : Fl} (h : TwI P x y z u) (h0 : flmu x z = 0) : z.at_ = 3 := Classical.byContradiction fun hc => by have := flmu_pos h.z2 hc; omega
def tw0 : Lg := ⟨1, ⟨17, 1, 1⟩, 0, 8, [], 0, 0, 8⟩
def fl0 : Fl := ⟨0, 0, 0, 0, 1⟩
theorem TwI.new : TwI 8 tw0 (Dk.new 552) fl0 fl0 := by
 have ok : tw0.ok 552 := ⟨⟨by decide, by decide, by decide, by decide⟩, by decide, by decide, by decide, by decide, by decide, by decide, by decide, by decide, by decide, by decide, by decide⟩
 have hf := Fl.st.new ok (N := 0) (P := 8) (Nat.zero_le _)
 refine ⟨Tidy.new ok (by decide) (On.new (by decide) (by decide)) rfl (by decide) rfl (by decide) rfl, ⟨rfl, fun q h0 h1 => bl_new ?_⟩, ⟨rfl, rfl, rfl⟩, hf.1, hf.2, hf.1, hf.2⟩
 have : Hp.jx 17 q < 8 * 17 := jx_lt (by decide) q
 show 8 + Hp.jx 17 q * 4 + 4 ≤ 552
 omega
theorem TwI.read {P : Nat} {x : Lg} {y : Dk} {z u : Fl} (h : TwI P x y z u) {q : Nat} (h0 : 8 ≤ q) (h1 : q < 144) : (q < x.sent ∧ (pread y 552 x.g q).2 = 0 ∧ (pread y 552 x.g q).1.place = (q : Int)) ∨ (x.sent ≤ q ∧ (pread y 552 x.g q).2 ≠ 0) := by
 have hp := h.sd.1
 by_cases hs : q < x.sent
 ·left
  rw [h.td.g.read (by omega) hs]
  exact ⟨hs, rfl, (h.td.g.pt q (by omega) (by have := h.td.g.ok.s2; omega)).2⟩
 ·right
  refine ⟨by omega, ?_⟩
  unfold pread
  split
  ·rw [pstand_on h.td.g.on h.td.g.ok.g, h.bk.z q (by omega) (by unfold Lg.top; have := h.sd.2; omega), pdec_zero]
   simp
  ·simp
theorem TwI.end_ {P : Nat} {x : Lg} {y : Dk} {z u : Fl} (h : TwI P x y z u) : 8 ≤ x.sent ∧ x.sent ≤ 144 ∧ y.writes = 4 * ((x.sent - 8 : Nat) : Int) := by
 have h1 := Lg.p0_sent h.td.g.ok; have h2 := h.sd; have h3 := h.td.g.ok.pb; have h4 := h.td.g.ok.s2
 refine ⟨by omega, by omega, ?_⟩
 rw [h.bk.w, h2.1]
structure TWX where
 i : Nat
 P : Nat
 x : Lg
 y : Dk
 z : Fl
 u : Fl
 J : Imm
 L : Chunks
structure TWX.ok (Ja : Imm) (l s d : Nat) (t : TWX) : Prop where
 hI : TwI t.P t.x t.y t.z t.u
 hJ : Ja.le t.J
 hl : IsLog t.J l s d 552 t.x t.y t.L
set_option maxHeartbeats 2000000 in
theorem log_LogTwo {I : Imm} {ls ms : List (Value × List UInt8)} {vl vm vp : Value} {ps : List Int} (hls : RBs I vl ls) (hms : RBs I vm ms) (hps : SlRd (Im I) vp ps.length 1 (ps.map (Value.int .i64))) (hln : ls.length ≤ 140737488351232) (hlm : ms.length ≤ 140737488351232) (hlp : ps.length ≤ 140737488351232) : Spec Try.prog 3 [vl, vm, vp] I [] (fun v J L => v = .bool true ∧ L = []) := by
 obtain ⟨Al, cl, rfl, _, _, _⟩ := id hls.rd
 obtain ⟨Am, cm, rfl, _, _, _⟩ := id hms.rd
 obtain ⟨Ap, cp, rfl, _, _, _⟩ := id hps
 refine Spec.of Try.func3 rfl Try.ntmps3 (Nat.le_of_ble_eq_true rfl) (fun F => ?_)
 try simp only [nf]
 dsimp only [argsEnv]
 refine WP.seq ?_
 refine WP.region [0] rfl ?_
 refine WP.mv rfl rfl ?_
 refine WP.nil ?_
 refine WP.next ?_
 refine WP.seq ?_
 refine WP.region [0, 1] rfl ?_
 refine WP.loud rfl rfl ?_
 refine Op.cl log_awake rfl Try.func8 rfl rfl rfl rfl ?_
 rintro v Ja L1 hJa ⟨rfl, rfl⟩
 try simp only [nf]
 have hls := hls.mono hJa
 have hms := hms.mono hJa
 have hps := hps.mono (fun b o h => hJa.2 b o h)
 refine WP.mv rfl rfl ?_
 refine WP.nil ?_
 refine WP.sub [(0, _), (1, _), (2, _), (6, _), (7, _)] ?_ ⟨rfl, rfl, rfl, rfl, rfl, trivial⟩
 refine WP.next ?_
 refine WP.seq ?_
 refine WP.region [0, 1, 2, 3, 4, 5, 6, 7, 8] rfl ?_
 refine WP.vl rfl (Yld.buildS (pl := [(1, 1, 1)]) rfl ty_zr_29 ty_zd_29 (by kernel_rfl) rfl (vs := [_]) rfl (segs := [(1, [_])]) rfl rfl (by repeat (first | exact SetSeg.nil | apply SetSeg.one | exact SetAt.zero | apply SetAt.succ))) ?_
 refine WP.loud rfl rfl ?_
 refine Op.cl (log_begun (n := 552) (f := 1) (hn := 0) (hp := 8) (era := 1) (by decide) (by decide) (by decide) (by decide) (by decide) (by decide) (by decide)) rfl Try.func9 rfl rfl rfl rfl ?_
 rintro v J L1 - ⟨rfl, x, d, s, l, q, rt, rm, Ll, rfl, rfl, hl⟩
 try simp only [nf]
 have hl : IsLog _ l s d 552 (⟨1, ⟨17, 1, 1⟩, 0, 8, [], 0, 0, 8⟩ : Lg) (Dk.new 552) Ll := hl
 refine WP.mv rfl rfl ?_
 refine WP.vl rfl (Yld.extract rfl rfl rfl) ?_
 refine WP.vl rfl (Yld.extract rfl rfl rfl) ?_
 refine WP.vl rfl (Yld.extract rfl rfl rfl) ?_
 iterate 3 refine WP.mv rfl rfl ?_
 refine WP.nil ?_
 refine WP.sub [(0, _), (1, _), (2, _), (6, _), (7, _), (8, _), (9, _)] ?_ ⟨rfl, rfl, rfl, rfl, rfl, rfl, rfl, trivial⟩
 refine WP.next ?_
 refine WP.seq ?_
 refine WP.seq ?_
 refine WP.region [0, 1, 2, 3, 4, 5] rfl ?_
 refine WP.mv rfl rfl ?_
 refine WP.vl rfl (Yld.not rfl rfl) ?_
 refine WP.mv rfl rfl ?_
 refine WP.valG rfl rfl rfl rfl rfl rfl rfl (Yld.move rfl rfl) ?_
 refine WP.valG rfl rfl rfl rfl rfl rfl rfl (Yld.not rfl rfl) ?_
 refine WP.vl rfl (Yld.pickF rfl rfl rfl) ?_
 refine WP.nil ?_
 refine WP.sub [(0, _), (1, _), (2, _), (6, _), (7, _), (8, _), (9, _), (38, _)] ?_ ⟨rfl, rfl, rfl, rfl, rfl, rfl, rfl, rfl, trivial⟩
 refine WP.next ?_
 refine WP.condF rfl ?_
 refine WP.skip ?_
 refine WP.next ?_
 refine WP.seq ?_
 refine WP.seq ?_
 refine WP.region [0] rfl ?_
 refine WP.mv rfl rfl ?_
 refine WP.nil ?_
 refine WP.next ?_
 refine WP.block ?_
 refine WP.loop (X := TWX) (fun t : TWX => [(0, .slice Al ls.length cl), (1, .slice Am ms.length cm), (2, .slice Ap ps.length cp), (8, .pointer (some ⟨x, 0, none⟩)), (11, .int .i64 (t.i : Int))]) (fun t => t.J) (fun t : TWX => (x, row 43 [.pointer (some ⟨d, 0, none⟩), .pointer (some ⟨s, 0, none⟩), .pointer (some ⟨l, 0, none⟩), .pointer (some ⟨q, 0, none⟩), .pointer (some ⟨rt, 0, none⟩), .pointer (some ⟨rm, 0, none⟩), .slice none 0 0, .slice none 0 0, .slice none 0 0, .slice none 0 0]) :: (t.L ++ F)) (fun t : TWX => t.i ≤ ls.length ∧ t.z = fl0 ∧ t.u = fl0 ∧ t.ok Ja l s d) (fun t => ls.length - t.i) ⟨0, 8, tw0, Dk.new 552, fl0, fl0, Ja, Ll⟩ ⟨Nat.zero_le _, rfl, rfl, TwI.new, Imm.le_refl _, hl⟩ ⟨rfl, rfl, rfl, rfl, rfl, trivial⟩ rfl (by (try dsimp only); repeat (first | exact Rm.chunk | exact Rm.here | exact Rm.nil0 | apply Rm.skip | apply Rm.skipS | apply PX.cons | (apply PX.done; (repeat (first | exact Leave.done | apply Leave.drop | apply Leave.dropS)); done) | apply PX.app)) ?_
 rintro ⟨i, P, xx, yy, zz, uu, J, Lx⟩ ⟨hle, hz0, hu0, hI, hJ, hl⟩; dsimp only at hle hz0 hu0 hI hJ hl; subst hz0; subst hu0
 try dsimp only
 try simp only [nf]
 refine WP.seq ?_
 refine WP.seq ?_
 refine WP.region [0, 1, 2, 3] rfl ?_
 iterate 2 refine WP.mv rfl rfl ?_
 refine WP.vl rfl (Yld.len rfl ty_sl_22 rfl) ?_
 refine WP.split rfl rfl rfl rfl (Yld.lss rfl rfl rfl) (fun hlt => ?_) (fun hlt => ?_)
 ·have hi : i < ls.length := by omega
  have hlse := hls.mono hJ
  obtain ⟨bl, kl, Tl, fl, arl, ea, hbl, hcl⟩ := hlse.at_ hi
  have hel := hlse.el _ (List.getElem_mem hi)
  refine WP.nil ?_
  refine WP.sub [(0, _), (1, _), (2, _), (8, _), (11, _), (42, _)] ?_ ⟨rfl, rfl, rfl, rfl, rfl, rfl, trivial⟩
  refine WP.next ?_
  refine WP.condT rfl ?_
  refine WP.skip ?_
  refine WP.next ?_
  refine WP.cut (X := TWX) (fun t : TWX => [(0, .slice Al ls.length cl), (1, .slice Am ms.length cm), (2, .slice Ap ps.length cp), (8, .pointer (some ⟨x, 0, none⟩)), (11, .int .i64 (i : Int))]) (fun t => t.J) (fun t : TWX => (x, row 43 [.pointer (some ⟨d, 0, none⟩), .pointer (some ⟨s, 0, none⟩), .pointer (some ⟨l, 0, none⟩), .pointer (some ⟨q, 0, none⟩), .pointer (some ⟨rt, 0, none⟩), .pointer (some ⟨rm, 0, none⟩), .slice none 0 0, .slice none 0 0, .slice none 0 0, .slice none 0 0]) :: (t.L ++ F)) (fun t : TWX => t.z = fl0 ∧ t.u = fl0 ∧ t.ok Ja l s d) ?_ ?_
  ·skip
   refine WP.block ?_
   refine WD.start Trymixed 13 (fun c o => (c = x ∧ o = row 43 [.pointer (some ⟨d, 0, none⟩), .pointer (some ⟨s, 0, none⟩), .pointer (some ⟨l, 0, none⟩), .pointer (some ⟨q, 0, none⟩), .pointer (some ⟨rt, 0, none⟩), .pointer (some ⟨rm, 0, none⟩), .slice none 0 0, .slice none 0 0, .slice none 0 0, .slice none 0 0]) ∨ J.blk c = some o) (fun _ _ => False) (by rintro _ _ (⟨rfl, rfl⟩ | h); exact (by repeat (first | exact There.h | exact There.i (by assumption) | apply There.t | apply There.s)); exact There.i h) (fun _ _ h => h.elim) 14 [false, false, false, false, false, false, false, false, false, false, false, false, false, false] rfl rfl ?_
   refine WD.val (i := 0) rfl rfl rfl rfl (by kernel_rfl) rfl (Yld.move rfl rfl) ?_
   refine WD.val (i := 1) rfl rfl rfl rfl (by kernel_rfl) rfl (Yld.nilCheck rfl rfl) ?_
   refine WD.val (i := 2) rfl rfl rfl rfl (by kernel_rfl) rfl (Yld.fieldAddr rfl ty_fd_43_2 rfl) ?_
   refine WD.val1 (i := 3) rfl rfl rfl rfl (by kernel_rfl) rfl (by kernel_rfl) (Yld.load (v := .pointer (some ⟨l, 0, none⟩)) rfl ty_sc_34 rfl (.inl (.inl ⟨rfl, rfl⟩)) rfl) ?_
   refine WD.val (i := 4) rfl rfl rfl rfl (by kernel_rfl) rfl (Yld.move rfl rfl) ?_
   refine WD.val (i := 5) rfl rfl rfl rfl (by kernel_rfl) rfl (Yld.nilCheck rfl rfl) ?_
   refine WD.val (i := 6) rfl rfl rfl rfl (by kernel_rfl) rfl (Yld.fieldAddr rfl ty_fd_43_2 rfl) ?_
   refine WD.val1 (i := 7) rfl rfl rfl rfl (by kernel_rfl) rfl (by kernel_rfl) (Yld.load (v := .pointer (some ⟨l, 0, none⟩)) rfl ty_sc_34 rfl (.inl (.inl ⟨rfl, rfl⟩)) rfl) ?_
   refine WD.val (i := 9) rfl rfl rfl rfl (by kernel_rfl) rfl (Yld.move rfl rfl) ?_
   refine WD.val (i := 10) rfl rfl rfl rfl (by kernel_rfl) rfl (Yld.move rfl rfl) ?_
   refine WD.val (i := 11) rfl rfl rfl rfl (by kernel_rfl) rfl (Yld.indexAddr (i := i) rfl ty_sl_22 (congrArg (fun a => some (Value.slice a ls.length cl)) ea) rfl hi) ?_
   refine WD.val1 (i := 12) rfl rfl rfl rfl (by kernel_rfl) rfl (by kernel_rfl) (Yld.loadC rfl ty_sc_46 rfl (.inl (.inr hbl)) hcl) ?_
   refine WD.loud (i := 8) (by kernel_rfl) rfl rfl rfl ?_
   refine Op.cl (log_Head hl) rfl Try.func11 rfl rfl rfl rfl ?_
   rintro v J L1 - ⟨rfl, rfl, rfl⟩
   try simp only [nf]
   refine WD.go (.inr (by rintro _ _ (⟨rfl, rfl⟩ | h); exact (by repeat (first | exact There.h | exact There.i (by assumption) | apply There.t | apply There.s)); first | exact There.i h | exact There.i (hJ2.2 _ _ h))) (fun _ _ h => h.elim) ?_
   refine WD.loud (i := 13) (by kernel_rfl) rfl rfl rfl ?_
   refine Op.cl (log_AppendX (hn := xx.no) (hp := xx.pl) (kind := 1) hl hel) rfl Try.func10 rfl rfl rfl rfl ?_
   rintro v J2 La hJ2 ⟨e, hn, hp, x2, rfl, _, hap, hl⟩
   try simp only [nf]
   refine WD.go (.inl rfl) (fun _ _ h => h.elim) ?_
   refine WD.done (by kernel_rfl) ?_
   refine WP.sub [(0, _), (1, _), (2, _), (8, _), (11, _), (42, _)] ?_ ⟨rfl, rfl, rfl, rfl, rfl, rfl, trivial⟩
   refine WP.leave ?_
   exact WP.mt (⟨i, P, x2, yy, fl0, fl0, J2, La⟩ : TWX) ⟨rfl, rfl, hI.ap hap hl.recs hl.ok, Imm.le_trans hJ hJ2, hl⟩ ⟨rfl, rfl, rfl, rfl, rfl, trivial⟩ rfl
  ·rintro ⟨_, P, xx, yy, zz, uu, J, Lx⟩ ⟨hz0, hu0, hI, hJ, hl⟩; dsimp only at hz0 hu0 hI hJ hl; subst hz0; subst hu0
   refine WP.region [0, 1, 2] rfl ?_
   refine WP.mv rfl rfl ?_
   refine WP.vl rfl (Yld.add64 rfl rfl rfl (by omega)) ?_
   refine WP.mv rfl rfl ?_
   refine WP.nil ?_
   refine WP.sub [(0, _), (1, _), (2, _), (8, _), (11, _)] ?_ ⟨rfl, rfl, rfl, rfl, rfl, trivial⟩
   exact WP.ag ⟨i + 1, P, xx, yy, fl0, fl0, J, Lx⟩ ⟨(show i + 1 ≤ ls.length by omega), rfl, rfl, hI, hJ, hl⟩ (show ls.length - (i + 1) < ls.length - i by omega) ⟨rfl, rfl, rfl, rfl, rfl, trivial⟩ rfl
 ·refine WP.nil ?_
  refine WP.sub [(0, _), (1, _), (2, _), (8, _), (11, _), (42, _)] ?_ ⟨rfl, rfl, rfl, rfl, rfl, rfl, trivial⟩
  refine WP.next ?_
  refine WP.condF rfl ?_
  refine WP.exit ?_
  refine WP.thenE ?_
  refine WP.thenE ?_
  refine WP.hit ?_
  refine WP.next ?_
  refine WP.seq ?_
  refine WP.region [0, 1, 2, 3, 4, 5] rfl ?_
  refine WP.mv rfl rfl ?_
  refine WP.vl rfl (Yld.nilCheck rfl rfl) ?_
  refine WP.vl rfl (Yld.fieldAddr rfl ty_fd_43_2 rfl) ?_
  refine WP.vl rfl (Yld.ld (v := .pointer (some ⟨l, 0, none⟩)) rfl ty_sc_34 rfl rfl) ?_
  refine WP.loud rfl rfl ?_
  refine Op.cl (log_NewFlush (l := l)) rfl Try.func12 rfl rfl rfl rfl ?_
  rintro v J L1 - ⟨rfl, f, rfl, rfl⟩
  try simp only [nf]
  refine WP.mv rfl rfl ?_
  refine WP.nil ?_
  refine WP.sub [(0, _), (1, _), (2, _), (8, _), (11, _), (12, _), (42, _)] ?_ ⟨rfl, rfl, rfl, rfl, rfl, rfl, rfl, trivial⟩
  refine WP.next ?_
  refine WP.seq ?_
  refine WP.region [0, 1, 2, 3, 4, 5] rfl ?_
  refine WP.mv rfl rfl ?_
  refine WP.vl rfl (Yld.nilCheck rfl rfl) ?_
  refine WP.vl rfl (Yld.fieldAddr rfl ty_fd_43_2 rfl) ?_
  refine WP.vl rfl (Yld.ld (v := .pointer (some ⟨l, 0, none⟩)) rfl ty_sc_34 rfl rfl) ?_
  refine WP.loud rfl rfl ?_
  refine Op.cl (log_NewFlush (l := l)) rfl Try.func12 rfl rfl rfl rfl ?_
  rintro v J L1 - ⟨rfl, g, rfl, rfl⟩
  try simp only [nf]
  refine WP.mv rfl rfl ?_
  refine WP.nil ?_
  refine WP.sub [(0, _), (1, _), (2, _), (8, _), (11, _), (12, _), (13, _), (42, _)] ?_ ⟨rfl, rfl, rfl, rfl, rfl, rfl, rfl, rfl, trivial⟩
  refine WP.next ?_
  refine WP.seq ?_
  refine WP.seq ?_
  refine WP.region [0, 1, 2, 3, 4, 5] rfl ?_
  refine WP.mv rfl rfl ?_
  refine WP.vl rfl (Yld.eqlNil rfl ty_pt_47 rfl rfl) ?_
  refine WP.mv rfl rfl ?_
  refine WP.valG rfl rfl rfl rfl rfl rfl rfl (Yld.move rfl rfl) ?_
  refine WP.valG rfl rfl rfl rfl rfl rfl rfl (Yld.eqlNil rfl ty_pt_47 rfl rfl) ?_
  refine WP.vl rfl (Yld.pickF rfl rfl rfl) ?_
  refine WP.nil ?_
  refine WP.sub [(0, _), (1, _), (2, _), (8, _), (11, _), (12, _), (13, _), (42, _), (74, _)] ?_ ⟨rfl, rfl, rfl, rfl, rfl, rfl, rfl, rfl, rfl, trivial⟩
  refine WP.next ?_
  refine WP.condF rfl ?_
  refine WP.skip ?_
  refine WP.next ?_
  refine WP.seq ?_
  refine WP.seq ?_
  refine WP.region [0] rfl ?_
  refine WP.mv rfl rfl ?_
  refine WP.nil ?_
  refine WP.next ?_
  refine WP.block ?_
  refine WP.loop (X := TWX) (fun t : TWX => [(0, .slice Al ls.length cl), (1, .slice Am ms.length cm), (2, .slice Ap ps.length cp), (8, .pointer (some ⟨x, 0, none⟩)), (12, .pointer (some ⟨f, 0, none⟩)), (13, .pointer (some ⟨g, 0, none⟩)), (14, .int .i64 (t.i : Int))]) (fun t => t.J) (fun t : TWX => (x, row 43 [.pointer (some ⟨d, 0, none⟩), .pointer (some ⟨s, 0, none⟩), .pointer (some ⟨l, 0, none⟩), .pointer (some ⟨q, 0, none⟩), .pointer (some ⟨rt, 0, none⟩), .pointer (some ⟨rm, 0, none⟩), .slice none 0 0, .slice none 0 0, .slice none 0 0, .slice none 0 0]) :: (f, row 97 (flV l f t.z)) :: (g, row 97 (flV l g t.u)) :: (t.L ++ F)) (fun t : TWX => t.i ≤ ps.length ∧ t.ok Ja l s d) (fun t => ps.length - t.i) ⟨0, P, xx, yy, fl0, fl0, J, Lx⟩ ⟨Nat.zero_le _, hI, hJ, hl⟩ ⟨rfl, rfl, rfl, rfl, rfl, rfl, rfl, trivial⟩ rfl (by (try dsimp only); repeat (first | exact Rm.chunk | exact Rm.here | exact Rm.nil0 | apply Rm.skip | apply Rm.skipS | apply PX.cons | (apply PX.done; (repeat (first | exact Leave.done | apply Leave.drop | apply Leave.dropS)); done) | apply PX.app)) ?_
  rintro ⟨i, P, xx, yy, zz, uu, J, Lx⟩ ⟨hle, hI, hJ, hl⟩; dsimp only at hle hI hJ hl
  try dsimp only
  try simp only [nf]
  refine WP.seq ?_
  refine WP.seq ?_
  refine WP.region [0, 1, 2, 3] rfl ?_
  iterate 2 refine WP.mv rfl rfl ?_
  refine WP.vl rfl (Yld.len rfl ty_sl_23 rfl) ?_
  refine WP.split rfl rfl rfl rfl (Yld.lss rfl rfl rfl) (fun hlt => ?_) (fun hlt => ?_)
  ·have hip : i < ps.length := by omega
   obtain ⟨bp, kp, Tp, fp, arp, ep, hbp, hcp⟩ := ints_at (hps.mono (fun b o h => hJ.2 b o h)) hip
   refine WP.nil ?_
   refine WP.sub [(0, _), (1, _), (2, _), (8, _), (12, _), (13, _), (14, _), (78, _)] ?_ ⟨rfl, rfl, rfl, rfl, rfl, rfl, rfl, rfl, trivial⟩
   refine WP.next ?_
   refine WP.condT rfl ?_
   refine WP.skip ?_
   refine WP.next ?_
   refine WP.cut (X := TWX) (fun t : TWX => [(0, .slice Al ls.length cl), (1, .slice Am ms.length cm), (2, .slice Ap ps.length cp), (8, .pointer (some ⟨x, 0, none⟩)), (12, .pointer (some ⟨f, 0, none⟩)), (13, .pointer (some ⟨g, 0, none⟩)), (14, .int .i64 (i : Int))]) (fun t => t.J) (fun t : TWX => (x, row 43 [.pointer (some ⟨d, 0, none⟩), .pointer (some ⟨s, 0, none⟩), .pointer (some ⟨l, 0, none⟩), .pointer (some ⟨q, 0, none⟩), .pointer (some ⟨rt, 0, none⟩), .pointer (some ⟨rm, 0, none⟩), .slice none 0 0, .slice none 0 0, .slice none 0 0, .slice none 0 0]) :: (f, row 97 (flV l f t.z)) :: (g, row 97 (flV l g t.u)) :: (t.L ++ F)) (fun t : TWX => t.ok Ja l s d) ?_ ?_
   ·skip
    refine WP.block ?_
    refine WP.cut (X := TWX) (fun t : TWX => [(0, .slice Al ls.length cl), (1, .slice Am ms.length cm), (2, .slice Ap ps.length cp), (8, .pointer (some ⟨x, 0, none⟩)), (12, .pointer (some ⟨f, 0, none⟩)), (13, .pointer (some ⟨g, 0, none⟩)), (14, .int .i64 (i : Int))]) (fun t => t.J) (fun t : TWX => (x, row 43 [.pointer (some ⟨d, 0, none⟩), .pointer (some ⟨s, 0, none⟩), .pointer (some ⟨l, 0, none⟩), .pointer (some ⟨q, 0, none⟩), .pointer (some ⟨rt, 0, none⟩), .pointer (some ⟨rm, 0, none⟩), .slice none 0 0, .slice none 0 0, .slice none 0 0, .slice none 0 0]) :: (f, row 97 (flV l f t.z)) :: (g, row 97 (flV l g t.u)) :: (t.L ++ F)) (fun t : TWX => t.ok Ja l s d) ?_ ?_
    ·skip
     refine WP.seq ?_
     refine WP.region [0, 1, 2, 3, 4, 5] rfl ?_
     iterate 2 refine WP.mv rfl rfl ?_
     refine WP.vl rfl (Yld.indexAddr (i := i) rfl ty_sl_23 (congrArg (fun a => some (Value.slice a ps.length cp)) ep) rfl hip) ?_
     refine WP.vl rfl (Yld.loadC rfl ty_sc_3 rfl (There.i hbp) hcp) ?_
     refine WP.vl rfl (Yld.remT rfl rfl rfl ⟨by decide, by decide⟩) ?_
     refine WP.split rfl rfl rfl rfl (Yld.eql rfl rfl rfl) (fun hpk => ?_) (fun hpk => ?_)
     ·obtain ⟨P2, x2, y2, z2, e2, hI2, _, _⟩ := hI.step
      refine WP.nil ?_
      refine WP.sub [(0, _), (1, _), (2, _), (8, _), (12, _), (13, _), (14, _), (78, _), (86, _)] ?_ ⟨rfl, rfl, rfl, rfl, rfl, rfl, rfl, rfl, rfl, trivial⟩
      refine WP.next ?_
      refine WP.condT rfl ?_
      refine WP.region [0, 1] rfl ?_
      refine WP.mv rfl rfl ?_
      refine WP.loud rfl rfl ?_
      refine Op.cl (flush_Step (f := f) hl hI.z1 hI.td.wait) rfl Try.func13 rfl rfl rfl rfl ?_
      rintro v J5 L1 hJ5 ⟨rfl, L2, rfl, hl⟩
      try simp only [nf]
      rw [e2] at hl
      rw [e2]
      dsimp only at hl
      dsimp only
      refine WP.nil ?_
      refine WP.sub [(0, _), (1, _), (2, _), (8, _), (12, _), (13, _), (14, _), (78, _), (86, _)] ?_ ⟨rfl, rfl, rfl, rfl, rfl, rfl, rfl, rfl, rfl, trivial⟩
      exact WP.mt (⟨i, P2, x2, y2, z2, uu, J5, L2⟩ : TWX) ⟨hI2, Imm.le_trans hJ hJ5, hl⟩ ⟨rfl, rfl, rfl, rfl, rfl, rfl, rfl, trivial⟩ rfl
     ·obtain ⟨P2, x2, y2, z2, e2, hI2, _, _⟩ := hI.swap.step
      refine WP.nil ?_
      refine WP.sub [(0, _), (1, _), (2, _), (8, _), (12, _), (13, _), (14, _), (78, _), (86, _)] ?_ ⟨rfl, rfl, rfl, rfl, rfl, rfl, rfl, rfl, rfl, trivial⟩
      refine WP.next ?_
      refine WP.condF rfl ?_
      refine WP.region [0, 1] rfl ?_
      refine WP.mv rfl rfl ?_
      refine WP.loud rfl rfl ?_
      refine Op.cl (flush_Step (f := g) hl hI.u1 hI.td.wait) rfl Try.func13 rfl rfl rfl rfl ?_
      rintro v J5 L1 hJ5 ⟨rfl, L2, rfl, hl⟩
      try simp only [nf]
      rw [e2] at hl
      rw [e2]
      dsimp only at hl
      dsimp only
      refine WP.nil ?_
      refine WP.sub [(0, _), (1, _), (2, _), (8, _), (12, _), (13, _), (14, _), (78, _), (86, _)] ?_ ⟨rfl, rfl, rfl, rfl, rfl, rfl, rfl, rfl, rfl, trivial⟩
      exact WP.mt (⟨i, P2, x2, y2, zz, z2, J5, L2⟩ : TWX) ⟨hI2.swap, Imm.le_trans hJ hJ5, hl⟩ ⟨rfl, rfl, rfl, rfl, rfl, rfl, rfl, trivial⟩ rfl
    ·rintro ⟨_, P, xx, yy, zz, uu, J, Lx⟩ ⟨hI, hJ, hl⟩; dsimp only at hI hJ hl
     refine WP.seq ?_
     refine WP.region [0, 1, 2, 3] rfl ?_
     iterate 2 refine WP.mv rfl rfl ?_
     refine WP.vl rfl (Yld.len rfl ty_sl_22 rfl) ?_
     refine WP.split rfl rfl rfl rfl (Yld.lss rfl rfl rfl) (fun hlm => ?_) (fun hlm => ?_)
     ·have hi : i < ms.length := by omega
      have hmse := hms.mono hJ
      obtain ⟨bl, kl, Tl, fl, arl, ea, hbl, hcl⟩ := hmse.at_ hi
      have hel := hmse.el _ (List.getElem_mem hi)
      refine WP.nil ?_
      refine WP.sub [(0, _), (1, _), (2, _), (8, _), (12, _), (13, _), (14, _), (94, _)] ?_ ⟨rfl, rfl, rfl, rfl, rfl, rfl, rfl, rfl, trivial⟩
      refine WP.next ?_
      refine WP.condT rfl ?_
      refine WD.start Trymixed 13 (fun c o => (c = x ∧ o = row 43 [.pointer (some ⟨d, 0, none⟩), .pointer (some ⟨s, 0, none⟩), .pointer (some ⟨l, 0, none⟩), .pointer (some ⟨q, 0, none⟩), .pointer (some ⟨rt, 0, none⟩), .pointer (some ⟨rm, 0, none⟩), .slice none 0 0, .slice none 0 0, .slice none 0 0, .slice none 0 0]) ∨ J.blk c = some o) (fun _ _ => False) (by rintro _ _ (⟨rfl, rfl⟩ | h); exact (by repeat (first | exact There.h | exact There.i (by assumption) | apply There.t | apply There.s)); exact There.i h) (fun _ _ h => h.elim) 14 [false, false, false, false, false, false, false, false, false, false, false, false, false, false] rfl rfl ?_
      refine WD.val (i := 0) rfl rfl rfl rfl (by kernel_rfl) rfl (Yld.move rfl rfl) ?_
      refine WD.val (i := 1) rfl rfl rfl rfl (by kernel_rfl) rfl (Yld.nilCheck rfl rfl) ?_
      refine WD.val (i := 2) rfl rfl rfl rfl (by kernel_rfl) rfl (Yld.fieldAddr rfl ty_fd_43_2 rfl) ?_
      refine WD.val1 (i := 3) rfl rfl rfl rfl (by kernel_rfl) rfl (by kernel_rfl) (Yld.load (v := .pointer (some ⟨l, 0, none⟩)) rfl ty_sc_34 rfl (.inl (.inl ⟨rfl, rfl⟩)) rfl) ?_
      refine WD.val (i := 4) rfl rfl rfl rfl (by kernel_rfl) rfl (Yld.move rfl rfl) ?_
      refine WD.val (i := 5) rfl rfl rfl rfl (by kernel_rfl) rfl (Yld.nilCheck rfl rfl) ?_
      refine WD.val (i := 6) rfl rfl rfl rfl (by kernel_rfl) rfl (Yld.fieldAddr rfl ty_fd_43_2 rfl) ?_
      refine WD.val1 (i := 7) rfl rfl rfl rfl (by kernel_rfl) rfl (by kernel_rfl) (Yld.load (v := .pointer (some ⟨l, 0, none⟩)) rfl ty_sc_34 rfl (.inl (.inl ⟨rfl, rfl⟩)) rfl) ?_
      refine WD.val (i := 9) rfl rfl rfl rfl (by kernel_rfl) rfl (Yld.move rfl rfl) ?_
      refine WD.val (i := 10) rfl rfl rfl rfl (by kernel_rfl) rfl (Yld.move rfl rfl) ?_
      refine WD.val (i := 11) rfl rfl rfl rfl (by kernel_rfl) rfl (Yld.indexAddr (i := i) rfl ty_sl_22 (congrArg (fun a => some (Value.slice a ms.length cm)) ea) rfl hi) ?_
      refine WD.val1 (i := 12) rfl rfl rfl rfl (by kernel_rfl) rfl (by kernel_rfl) (Yld.loadC rfl ty_sc_46 rfl (.inl (.inr hbl)) hcl) ?_
      refine WD.loud (i := 8) (by kernel_rfl) rfl rfl rfl ?_
      refine Op.cl (log_Head hl) rfl Try.func11 rfl rfl rfl rfl ?_
      rintro v J L1 - ⟨rfl, rfl, rfl⟩
      try simp only [nf]
      refine WD.go (.inr (by rintro _ _ (⟨rfl, rfl⟩ | h); exact (by repeat (first | exact There.h | exact There.i (by assumption) | apply There.t | apply There.s)); first | exact There.i h | exact There.i (hJ2.2 _ _ h))) (fun _ _ h => h.elim) ?_
      refine WD.loud (i := 13) (by kernel_rfl) rfl rfl rfl ?_
      refine Op.cl (log_AppendX (hn := xx.no) (hp := xx.pl) (kind := 1) hl hel) rfl Try.func10 rfl rfl rfl rfl ?_
      rintro v J2 La hJ2 ⟨e, hn, hp, x2, rfl, _, hap, hl⟩
      try simp only [nf]
      refine WD.go (.inl rfl) (fun _ _ h => h.elim) ?_
      refine WD.done (by kernel_rfl) ?_
      refine WP.sub [(0, _), (1, _), (2, _), (8, _), (12, _), (13, _), (14, _), (94, _)] ?_ ⟨rfl, rfl, rfl, rfl, rfl, rfl, rfl, rfl, trivial⟩
      refine WP.leave ?_
      exact WP.mt (⟨i, P, x2, yy, zz, uu, J2, La⟩ : TWX) ⟨hI.ap hap hl.recs hl.ok, Imm.le_trans hJ hJ2, hl⟩ ⟨rfl, rfl, rfl, rfl, rfl, rfl, rfl, trivial⟩ rfl
     ·refine WP.nil ?_
      refine WP.sub [(0, _), (1, _), (2, _), (8, _), (12, _), (13, _), (14, _), (94, _)] ?_ ⟨rfl, rfl, rfl, rfl, rfl, rfl, rfl, rfl, trivial⟩
      refine WP.next ?_
      refine WP.condF rfl ?_
      refine WP.skip ?_
      refine WP.leave ?_
      exact WP.mt (⟨i, P, xx, yy, zz, uu, J, Lx⟩ : TWX) ⟨hI, hJ, hl⟩ ⟨rfl, rfl, rfl, rfl, rfl, rfl, rfl, trivial⟩ rfl
   ·rintro ⟨_, P, xx, yy, zz, uu, J, Lx⟩ ⟨hI, hJ, hl⟩; dsimp only at hI hJ hl
    refine WP.region [0, 1, 2] rfl ?_
    refine WP.mv rfl rfl ?_
    refine WP.vl rfl (Yld.add64 rfl rfl rfl (by omega)) ?_
    refine WP.mv rfl rfl ?_
    refine WP.nil ?_
    refine WP.sub [(0, _), (1, _), (2, _), (8, _), (12, _), (13, _), (14, _)] ?_ ⟨rfl, rfl, rfl, rfl, rfl, rfl, rfl, trivial⟩
    exact WP.ag ⟨i + 1, P, xx, yy, zz, uu, J, Lx⟩ ⟨(show i + 1 ≤ ps.length by omega), hI, hJ, hl⟩ (show ps.length - (i + 1) < ps.length - i by omega) ⟨rfl, rfl, rfl, rfl, rfl, rfl, rfl, trivial⟩ rfl
  ·refine WP.nil ?_
   refine WP.sub [(0, _), (1, _), (2, _), (8, _), (12, _), (13, _), (14, _), (78, _)] ?_ ⟨rfl, rfl, rfl, rfl, rfl, rfl, rfl, rfl, trivial⟩
   refine WP.next ?_
   refine WP.condF rfl ?_
   refine WP.exit ?_
   refine WP.thenE ?_
   refine WP.thenE ?_
   refine WP.hit ?_
   refine WP.next ?_
   refine WP.cut (X := TWX) (fun t : TWX => [(8, .pointer (some ⟨x, 0, none⟩)), (12, .pointer (some ⟨f, 0, none⟩)), (13, .pointer (some ⟨g, 0, none⟩))]) (fun t => t.J) (fun t : TWX => (x, row 43 [.pointer (some ⟨d, 0, none⟩), .pointer (some ⟨s, 0, none⟩), .pointer (some ⟨l, 0, none⟩), .pointer (some ⟨q, 0, none⟩), .pointer (some ⟨rt, 0, none⟩), .pointer (some ⟨rm, 0, none⟩), .slice none 0 0, .slice none 0 0, .slice none 0 0, .slice none 0 0]) :: (f, row 97 (flV l f t.z)) :: (g, row 97 (flV l g t.u)) :: (t.L ++ F)) (fun t : TWX => t.z.at_ = 3 ∧ t.u.at_ = 3 ∧ t.ok Ja l s d) ?_ ?_
   ·skip
    refine WP.seq ?_
    refine WP.region [0] rfl ?_
    refine WP.mv rfl rfl ?_
    refine WP.nil ?_
    refine WP.next ?_
    refine WP.block ?_
    refine WP.loop (X := TWX) (fun t : TWX => [(8, .pointer (some ⟨x, 0, none⟩)), (12, .pointer (some ⟨f, 0, none⟩)), (13, .pointer (some ⟨g, 0, none⟩)), (15, .int .i64 (t.i : Int))]) (fun t => t.J) (fun t : TWX => (x, row 43 [.pointer (some ⟨d, 0, none⟩), .pointer (some ⟨s, 0, none⟩), .pointer (some ⟨l, 0, none⟩), .pointer (some ⟨q, 0, none⟩), .pointer (some ⟨rt, 0, none⟩), .pointer (some ⟨rm, 0, none⟩), .slice none 0 0, .slice none 0 0, .slice none 0 0, .slice none 0 0]) :: (f, row 97 (flV l f t.z)) :: (g, row 97 (flV l g t.u)) :: (t.L ++ F)) (fun t : TWX => flmu t.x t.z ≤ 200 - t.i ∧ flmu t.x t.u ≤ 200 - t.i ∧ t.ok Ja l s d) (fun t => 400 - t.i) ⟨0, P, xx, yy, zz, uu, J, Lx⟩ ⟨hI.mu, hI.swap.mu, hI, hJ, hl⟩ ⟨rfl, rfl, rfl, rfl, trivial⟩ rfl (by (try dsimp only); repeat (first | exact Rm.chunk | exact Rm.here | exact Rm.nil0 | apply Rm.skip | apply Rm.skipS | apply PX.cons | (apply PX.done; (repeat (first | exact Leave.done | apply Leave.drop | apply Leave.dropS)); done) | apply PX.app)) ?_
    rintro ⟨i, P, xx, yy, zz, uu, J, Lx⟩ ⟨hm1, hm2, hI, hJ, hl⟩; dsimp only at hm1 hm2 hI hJ hl
    try dsimp only
    try simp only [nf]
    refine WP.seq ?_
    refine WP.seq ?_
    refine WP.region [0, 1] rfl ?_
    refine WP.mv rfl rfl ?_
    refine WP.split rfl rfl rfl rfl (Yld.lss rfl rfl rfl) (fun hlt => ?_) (fun hlt => ?_)
    ·obtain ⟨P2, x2, y2, z2, e2, hI2, hm3, hm4⟩ := hI.step
     obtain ⟨P3, x3, y3, z3, e3, hI3, hm5, hm6⟩ := hI2.swap.step
     refine WP.nil ?_
     refine WP.sub [(8, _), (12, _), (13, _), (15, _), (110, _)] ?_ ⟨rfl, rfl, rfl, rfl, rfl, trivial⟩
     refine WP.next ?_
     refine WP.condT rfl ?_
     refine WP.skip ?_
     refine WP.next ?_
     refine WP.seq ?_
     refine WP.block ?_
     refine WP.seq ?_
     refine WP.region [0, 1, 2] rfl ?_
     refine WP.mv rfl rfl ?_
     refine WP.loud rfl rfl ?_
     refine Op.cl (flush_Step (f := f) hl hI.z1 hI.td.wait) rfl Try.func13 rfl rfl rfl rfl ?_
     rintro v J5 L1 hJ5 ⟨rfl, L2, rfl, hl⟩
     try simp only [nf]
     rw [e2] at hl
     rw [e2]
     dsimp only at hl
     dsimp only
     by_cases hd1 : (decide (z2.at_ = 3)) = true
     ·rw [hd1]
      refine WP.mv rfl rfl ?_
      refine WP.nil ?_
      refine WP.sub [(8, _), (12, _), (13, _), (15, _), (16, _), (110, _)] ?_ ⟨rfl, rfl, rfl, rfl, rfl, rfl, trivial⟩
      refine WP.next ?_
      refine WP.seq ?_
      refine WP.region [0, 1, 2] rfl ?_
      refine WP.mv rfl rfl ?_
      refine WP.loud rfl rfl ?_
      refine Op.cl (flush_Step (f := g) hl hI2.u1 hI2.td.wait) rfl Try.func13 rfl rfl rfl rfl ?_
      rintro v J6 L1 hJ6 ⟨rfl, L3, rfl, hl⟩
      try simp only [nf]
      rw [e3] at hl
      rw [e3]
      dsimp only at hl
      dsimp only
      by_cases hd2 : (decide (z3.at_ = 3)) = true
      ·rw [hd2]
       refine WP.mv rfl rfl ?_
       refine WP.nil ?_
       refine WP.sub [(8, _), (12, _), (13, _), (15, _), (16, _), (17, _), (110, _)] ?_ ⟨rfl, rfl, rfl, rfl, rfl, rfl, rfl, trivial⟩
       refine WP.next ?_
       refine WP.seq ?_
       refine WP.region [0, 1, 2, 3] rfl ?_
       iterate 2 refine WP.mv rfl rfl ?_
       refine WP.valG rfl rfl rfl rfl rfl rfl rfl (Yld.move rfl rfl) ?_
       refine WP.vl rfl (Yld.pickT rfl rfl rfl) ?_
       refine WP.nil ?_
       refine WP.sub [(8, _), (12, _), (13, _), (15, _), (16, _), (17, _), (110, _), (120, _)] ?_ ⟨rfl, rfl, rfl, rfl, rfl, rfl, rfl, rfl, trivial⟩
       refine WP.next ?_
       refine WP.condT rfl ?_
       refine WP.exit ?_
       refine WP.miss rfl ?_
       refine WP.thenE ?_
       refine WP.thenE ?_
       refine WP.hit ?_
       exact WP.mt (⟨0, P3, x3, y3, z2, z3, J6, L3⟩ : TWX) ⟨of_decide_eq_true hd1, of_decide_eq_true hd2, hI3.swap, Imm.le_trans hJ (Imm.le_trans hJ5 hJ6), hl⟩ ⟨rfl, rfl, rfl, trivial⟩ rfl
      ·have hd2 : (decide (z3.at_ = 3)) = false := eq_false_of_ne_true hd2
       rw [hd2]
       refine WP.mv rfl rfl ?_
       refine WP.nil ?_
       refine WP.sub [(8, _), (12, _), (13, _), (15, _), (16, _), (17, _), (110, _)] ?_ ⟨rfl, rfl, rfl, rfl, rfl, rfl, rfl, trivial⟩
       refine WP.next ?_
       refine WP.seq ?_
       refine WP.region [0, 1, 2, 3] rfl ?_
       iterate 2 refine WP.mv rfl rfl ?_
       refine WP.valG rfl rfl rfl rfl rfl rfl rfl (Yld.move rfl rfl) ?_
       refine WP.vl rfl (Yld.pickT rfl rfl rfl) ?_
       refine WP.nil ?_
       refine WP.sub [(8, _), (12, _), (13, _), (15, _), (16, _), (17, _), (110, _), (120, _)] ?_ ⟨rfl, rfl, rfl, rfl, rfl, rfl, rfl, rfl, trivial⟩
       refine WP.next ?_
       refine WP.condF rfl ?_
       refine WP.skip ?_
       refine WP.leave ?_
       refine WP.next ?_
       refine WP.region [0, 1, 2] rfl ?_
       refine WP.mv rfl rfl ?_
       refine WP.vl rfl (Yld.add64 rfl rfl rfl (by omega)) ?_
       refine WP.mv rfl rfl ?_
       refine WP.nil ?_
       refine WP.sub [(8, _), (12, _), (13, _), (15, _), (16, _), (17, _), (110, _), (120, _)] ?_ ⟨rfl, rfl, rfl, rfl, rfl, rfl, rfl, rfl, trivial⟩
       exact WP.ag ⟨i + 1, P3, x3, y3, z2, z3, J6, L3⟩ ⟨(show flmu x3 z2 ≤ 200 - (i + 1) by omega), (show flmu x3 z3 ≤ 200 - (i + 1) by omega), hI3.swap, Imm.le_trans hJ (Imm.le_trans hJ5 hJ6), hl⟩ (show 400 - (i + 1) < 400 - i by omega) ⟨rfl, rfl, rfl, rfl, trivial⟩ rfl
     ·have hd1 : (decide (z2.at_ = 3)) = false := eq_false_of_ne_true hd1
      rw [hd1]
      refine WP.mv rfl rfl ?_
      refine WP.nil ?_
      refine WP.sub [(8, _), (12, _), (13, _), (15, _), (16, _), (110, _)] ?_ ⟨rfl, rfl, rfl, rfl, rfl, rfl, trivial⟩
      refine WP.next ?_
      refine WP.seq ?_
      refine WP.region [0, 1, 2] rfl ?_
      refine WP.mv rfl rfl ?_
      refine WP.loud rfl rfl ?_
      refine Op.cl (flush_Step (f := g) hl hI2.u1 hI2.td.wait) rfl Try.func13 rfl rfl rfl rfl ?_
      rintro v J6 L1 hJ6 ⟨rfl, L3, rfl, hl⟩
      try simp only [nf]
      rw [e3] at hl
      rw [e3]
      dsimp only at hl
      dsimp only
      by_cases hd2 : (decide (z3.at_ = 3)) = true
      ·rw [hd2]
       refine WP.mv rfl rfl ?_
       refine WP.nil ?_
       refine WP.sub [(8, _), (12, _), (13, _), (15, _), (16, _), (17, _), (110, _)] ?_ ⟨rfl, rfl, rfl, rfl, rfl, rfl, rfl, trivial⟩
       refine WP.next ?_
       refine WP.seq ?_
       refine WP.region [0, 1, 2, 3] rfl ?_
       iterate 2 refine WP.mv rfl rfl ?_
       refine WP.passG rfl rfl rfl rfl rfl rfl rfl rfl ?_
       refine WP.vl rfl (Yld.pickF rfl rfl rfl) ?_
       refine WP.nil ?_
       refine WP.sub [(8, _), (12, _), (13, _), (15, _), (16, _), (17, _), (110, _), (120, _)] ?_ ⟨rfl, rfl, rfl, rfl, rfl, rfl, rfl, rfl, trivial⟩
       refine WP.next ?_
       refine WP.condF rfl ?_
       refine WP.skip ?_
       refine WP.leave ?_
       refine WP.next ?_
       refine WP.region [0, 1, 2] rfl ?_
       refine WP.mv rfl rfl ?_
       refine WP.vl rfl (Yld.add64 rfl rfl rfl (by omega)) ?_
       refine WP.mv rfl rfl ?_
       refine WP.nil ?_
       refine WP.sub [(8, _), (12, _), (13, _), (15, _), (16, _), (17, _), (110, _), (120, _)] ?_ ⟨rfl, rfl, rfl, rfl, rfl, rfl, rfl, rfl, trivial⟩
       exact WP.ag ⟨i + 1, P3, x3, y3, z2, z3, J6, L3⟩ ⟨(show flmu x3 z2 ≤ 200 - (i + 1) by omega), (show flmu x3 z3 ≤ 200 - (i + 1) by omega), hI3.swap, Imm.le_trans hJ (Imm.le_trans hJ5 hJ6), hl⟩ (show 400 - (i + 1) < 400 - i by omega) ⟨rfl, rfl, rfl, rfl, trivial⟩ rfl
      ·have hd2 : (decide (z3.at_ = 3)) = false := eq_false_of_ne_true hd2
       rw [hd2]
       refine WP.mv rfl rfl ?_
       refine WP.nil ?_
       refine WP.sub [(8, _), (12, _), (13, _), (15, _), (16, _), (17, _), (110, _)] ?_ ⟨rfl, rfl, rfl, rfl, rfl, rfl, rfl, trivial⟩
       refine WP.next ?_
       refine WP.seq ?_
       refine WP.region [0, 1, 2, 3] rfl ?_
       iterate 2 refine WP.mv rfl rfl ?_
       refine WP.passG rfl rfl rfl rfl rfl rfl rfl rfl ?_
       refine WP.vl rfl (Yld.pickF rfl rfl rfl) ?_
       refine WP.nil ?_
       refine WP.sub [(8, _), (12, _), (13, _), (15, _), (16, _), (17, _), (110, _), (120, _)] ?_ ⟨rfl, rfl, rfl, rfl, rfl, rfl, rfl, rfl, trivial⟩
       refine WP.next ?_
       refine WP.condF rfl ?_
       refine WP.skip ?_
       refine WP.leave ?_
       refine WP.next ?_
       refine WP.region [0, 1, 2] rfl ?_
       refine WP.mv rfl rfl ?_
       refine WP.vl rfl (Yld.add64 rfl rfl rfl (by omega)) ?_
       refine WP.mv rfl rfl ?_
       refine WP.nil ?_
       refine WP.sub [(8, _), (12, _), (13, _), (15, _), (16, _), (17, _), (110, _), (120, _)] ?_ ⟨rfl, rfl, rfl, rfl, rfl, rfl, rfl, rfl, trivial⟩
       exact WP.ag ⟨i + 1, P3, x3, y3, z2, z3, J6, L3⟩ ⟨(show flmu x3 z2 ≤ 200 - (i + 1) by omega), (show flmu x3 z3 ≤ 200 - (i + 1) by omega), hI3.swap, Imm.le_trans hJ (Imm.le_trans hJ5 hJ6), hl⟩ (show 400 - (i + 1) < 400 - i by omega) ⟨rfl, rfl, rfl, rfl, trivial⟩ rfl
    ·refine WP.nil ?_
     refine WP.sub [(8, _), (12, _), (13, _), (15, _), (110, _)] ?_ ⟨rfl, rfl, rfl, rfl, rfl, trivial⟩
     refine WP.next ?_
     refine WP.condF rfl ?_
     refine WP.exit ?_
     refine WP.thenE ?_
     refine WP.thenE ?_
     refine WP.hit ?_
     exact WP.mt (⟨0, P, xx, yy, zz, uu, J, Lx⟩ : TWX) ⟨hI.done (by omega), hI.swap.done (by omega), hI, hJ, hl⟩ ⟨rfl, rfl, rfl, trivial⟩ rfl
   ·rintro ⟨_, P, xx, yy, zz, uu, J, Lx⟩ ⟨h31, h32, hI, hJ, hl⟩; dsimp only at h31 h32 hI hJ hl
    refine WP.seq ?_
    refine WP.region [0, 1, 2, 3, 4, 5, 6] rfl ?_
    refine WP.mv rfl rfl ?_
    refine WP.loud rfl rfl ?_
    refine Op.cl (flush_Upto (l := l) (z := zz)) rfl Try.func14 rfl rfl rfl rfl ?_
    rintro v J L1 - ⟨rfl, rfl, rfl⟩
    try simp only [nf]
    refine WP.mv rfl rfl ?_
    refine WP.vl rfl (Yld.extract rfl rfl rfl) ?_
    refine WP.vl rfl (Yld.extract rfl rfl rfl) ?_
    iterate 2 refine WP.mv rfl rfl ?_
    refine WP.nil ?_
    refine WP.sub [(8, _), (12, _), (13, _), (18, _), (19, _)] ?_ ⟨rfl, rfl, rfl, rfl, rfl, trivial⟩
    refine WP.next ?_
    refine WP.seq ?_
    refine WP.region [0, 1, 2, 3, 4, 5, 6] rfl ?_
    refine WP.mv rfl rfl ?_
    refine WP.loud rfl rfl ?_
    refine Op.cl (flush_Upto (l := l) (z := uu)) rfl Try.func14 rfl rfl rfl rfl ?_
    rintro v J L1 - ⟨rfl, rfl, rfl⟩
    try simp only [nf]
    refine WP.mv rfl rfl ?_
    refine WP.vl rfl (Yld.extract rfl rfl rfl) ?_
    refine WP.vl rfl (Yld.extract rfl rfl rfl) ?_
    iterate 2 refine WP.mv rfl rfl ?_
    refine WP.nil ?_
    refine WP.sub [(8, _), (12, _), (13, _), (18, _), (19, _), (20, _), (21, _)] ?_ ⟨rfl, rfl, rfl, rfl, rfl, rfl, rfl, trivial⟩
    refine WP.next ?_
    refine WP.seq ?_
    obtain ⟨he1, he2, he3⟩ := hI.end_
    obtain ⟨q1, q2, _⟩ := hI.z2.s3 h31
    obtain ⟨q3, q4, _⟩ := hI.u2.s3 h32
    rw [q1, q3]
    obtain ⟨Lr, Ld, rfl, hd, hback⟩ := id hl.disk
    try simp only [nf]
    refine WP.region [0] rfl ?_
    refine WP.mv rfl rfl ?_
    refine WP.nil ?_
    refine WP.next ?_
    refine WP.seq ?_
    refine WP.seq ?_
    refine WP.region [0] rfl ?_
    refine WP.mv rfl rfl ?_
    refine WP.nil ?_
    refine WP.next ?_
    refine WP.block ?_
    refine WP.loop (X := Nat × Imm) (fun t : Nat × Imm => [(8, .pointer (some ⟨x, 0, none⟩)), (18, .int .i64 (zz.n : Int)), (19, .int .i64 0), (20, .int .i64 (uu.n : Int)), (21, .int .i64 0), (22, .int .i64 ((min (8 + t.1) xx.sent - 8 : Nat) : Int)), (23, .int .i64 ((8 + t.1 : Nat) : Int))]) (fun t => t.2) (fun t : Nat × Imm => (x, row 43 [.pointer (some ⟨d, 0, none⟩), .pointer (some ⟨s, 0, none⟩), .pointer (some ⟨l, 0, none⟩), .pointer (some ⟨q, 0, none⟩), .pointer (some ⟨rt, 0, none⟩), .pointer (some ⟨rm, 0, none⟩), .slice none 0 0, .slice none 0 0, .slice none 0 0, .slice none 0 0]) :: (f, row 97 (flV l f zz)) :: (g, row 97 (flV l g uu)) :: (Lr ++ ((s, row 108 (sgV d xx.g)) :: (Ld ++ F)))) (fun t : Nat × Imm => t.1 ≤ 136 ∧ J.le t.2) (fun t => 136 - t.1) (0, J) ⟨Nat.zero_le _, Imm.le_refl _⟩ ⟨rfl, rfl, rfl, rfl, rfl, congrArg (fun z : Nat => some (Value.int .i64 (z : Int))) (show 0 = min (8 + 0) xx.sent - 8 by omega), rfl, trivial⟩ rfl (by (try dsimp only); repeat (first | exact Rm.chunk | exact Rm.here | exact Rm.nil0 | apply Rm.skip | apply Rm.skipS | apply PX.cons | (apply PX.done; (repeat (first | exact Leave.done | apply Leave.drop | apply Leave.dropS)); done) | apply PX.app)) ?_
    rintro ⟨k, J3⟩ ⟨hk, hJ3⟩; dsimp only at hk hJ3; have hl := hl.mono hJ3
    try dsimp only
    try simp only [nf]
    refine WP.seq ?_
    refine WP.seq ?_
    refine WP.region [0, 1] rfl ?_
    refine WP.mv rfl rfl ?_
    refine WP.split rfl rfl rfl rfl (Yld.lss rfl rfl rfl) (fun hlt => ?_) (fun hlt => ?_)
    ·have hrd := hI.read (q := 8 + k) (by omega) (by omega)
     refine WP.nil ?_
     refine WP.sub [(8, _), (18, _), (19, _), (20, _), (21, _), (22, _), (23, _), (132, _)] ?_ ⟨rfl, rfl, rfl, rfl, rfl, rfl, rfl, rfl, trivial⟩
     refine WP.next ?_
     refine WP.condT rfl ?_
     refine WP.skip ?_
     refine WP.next ?_
     refine WP.seq ?_
     refine WP.block ?_
     refine WP.seq ?_
     refine WP.region [0, 1, 2, 3, 4, 5, 6, 7, 8, 9, 10, 11] rfl ?_
     refine WP.mv rfl rfl ?_
     refine WP.vl rfl (Yld.nilCheck rfl rfl) ?_
     refine WP.vl rfl (Yld.fieldAddr rfl ty_fd_43_1 rfl) ?_
     refine WP.vl rfl (Yld.ld (v := .pointer (some ⟨s, 0, none⟩)) rfl ty_sc_33 rfl rfl) ?_
     refine WP.mv rfl rfl ?_
     refine WP.loud rfl rfl ?_
     refine Op.cl (seg_Read (g := xx.g) (p := 8 + k) hd hI.td.g.ok.g (by omega)) rfl Try.func15 rfl rfl rfl rfl ?_
     rintro v J5 L33 hJ5 ⟨cs, rfl, hcs, rfl⟩
     try simp only [nf]
     obtain ⟨va, rfl, hva⟩ := hcs
     refine WP.mv rfl rfl ?_
     refine WP.vl rfl (Yld.extract rfl rfl rfl) ?_
     refine WP.vl rfl (Yld.extract rfl rfl rfl) ?_
     refine WP.loud rfl rfl ?_
     refine Op.alloc rfl rfl rfl ty_zr_52 (fun b33 => ?_)
     refine WP.loud rfl rfl ?_
     refine Op.sA rfl rfl ty_sz_52 rfl rfl rfl (ptV_one (by obtain ⟨A', c', e, _⟩ := hva; exact ⟨_, _, _, e⟩)) rfl ?_
     refine WP.mv rfl rfl ?_
     refine WP.nil ?_
     refine WP.sub [(8, _), (18, _), (19, _), (20, _), (21, _), (22, _), (23, _), (24, _), (25, _), (132, _)] ?_ ⟨rfl, rfl, rfl, rfl, rfl, rfl, rfl, rfl, rfl, rfl, trivial⟩
     refine WP.next ?_
     refine WP.seq ?_
     refine WP.region [0, 1] rfl ?_
     refine WP.mv rfl rfl ?_
     refine WP.split rfl rfl rfl rfl (Yld.eql rfl rfl rfl) (fun hok => ?_) (fun hok => ?_)
     ·obtain ⟨r1, _, r3⟩ := hrd.resolve_right (fun h => h.2 (by omega))
      refine WP.nil ?_
      refine WP.sub [(8, _), (18, _), (19, _), (20, _), (21, _), (22, _), (23, _), (24, _), (25, _), (132, _), (145, _)] ?_ ⟨rfl, rfl, rfl, rfl, rfl, rfl, rfl, rfl, rfl, rfl, rfl, trivial⟩
      refine WP.next ?_
      refine WP.condT rfl ?_
      refine WP.seq ?_
      refine WP.seq ?_
      refine WP.region [0, 1, 2, 3] rfl ?_
      refine WP.vl rfl (Yld.fieldAddr rfl ty_fd_52_0 rfl) ?_
      refine WP.vl rfl (Yld.ld (v := .int .i64 (pread yy 552 xx.g (8 + k)).1.place) rfl ty_sc_3 rfl rfl) ?_
      refine WP.mv rfl rfl ?_
      refine WP.vl rfl (Yld.neq rfl rfl rfl false (decide_eq_false (by omega))) ?_
      refine WP.nil ?_
      refine WP.sub [(8, _), (18, _), (19, _), (20, _), (21, _), (22, _), (23, _), (24, _), (25, _), (132, _), (145, _), (149, _)] ?_ ⟨rfl, rfl, rfl, rfl, rfl, rfl, rfl, rfl, rfl, rfl, rfl, rfl, trivial⟩
      refine WP.next ?_
      refine WP.condF rfl ?_
      refine WP.skip ?_
      refine WP.next ?_
      refine WP.region [0, 1, 2] rfl ?_
      refine WP.mv rfl rfl ?_
      refine WP.vl rfl (Yld.add64 rfl rfl rfl (by omega)) ?_
      refine WP.mv rfl rfl ?_
      refine WP.nil ?_
      refine WP.sub [(8, _), (18, _), (19, _), (20, _), (21, _), (22, _), (23, _), (24, _), (25, _), (132, _), (145, _), (149, _)] ?_ ⟨rfl, rfl, rfl, rfl, rfl, rfl, rfl, rfl, rfl, rfl, rfl, rfl, trivial⟩
      refine WP.leave ?_
      refine WP.next ?_
      refine WP.region [0, 1, 2] rfl ?_
      refine WP.mv rfl rfl ?_
      refine WP.vl rfl (Yld.add64 rfl rfl rfl (by omega)) ?_
      refine WP.mv rfl rfl ?_
      refine WP.nil ?_
      refine WP.sub [(8, _), (18, _), (19, _), (20, _), (21, _), (22, _), (23, _), (24, _), (25, _), (132, _), (145, _), (149, _)] ?_ ⟨rfl, rfl, rfl, rfl, rfl, rfl, rfl, rfl, rfl, rfl, rfl, rfl, trivial⟩
      rw [show ((min (8 + k) xx.sent - 8 : Nat) : Int) + 1 = ((min (8 + (k + 1)) xx.sent - 8 : Nat) : Int) by omega, show ((8 + k : Nat) : Int) + 1 = ((8 + (k + 1) : Nat) : Int) by omega]
      exact WP.ag (k + 1, J5) ⟨(show k + 1 ≤ 136 by omega), Imm.le_trans hJ3 hJ5⟩ (show 136 - (k + 1) < 136 - k by omega) ⟨rfl, rfl, rfl, rfl, rfl, rfl, rfl, trivial⟩ rfl
     ·obtain ⟨r1, _⟩ := hrd.resolve_left (fun h => by have := h.2.1; omega)
      refine WP.nil ?_
      refine WP.sub [(8, _), (18, _), (19, _), (20, _), (21, _), (22, _), (23, _), (24, _), (25, _), (132, _), (145, _)] ?_ ⟨rfl, rfl, rfl, rfl, rfl, rfl, rfl, rfl, rfl, rfl, rfl, trivial⟩
      refine WP.next ?_
      refine WP.condF rfl ?_
      refine WP.skip ?_
      refine WP.leave ?_
      refine WP.next ?_
      refine WP.region [0, 1, 2] rfl ?_
      refine WP.mv rfl rfl ?_
      refine WP.vl rfl (Yld.add64 rfl rfl rfl (by omega)) ?_
      refine WP.mv rfl rfl ?_
      refine WP.nil ?_
      refine WP.sub [(8, _), (18, _), (19, _), (20, _), (21, _), (22, _), (23, _), (24, _), (25, _), (132, _), (145, _)] ?_ ⟨rfl, rfl, rfl, rfl, rfl, rfl, rfl, rfl, rfl, rfl, rfl, trivial⟩
      rw [show ((min (8 + k) xx.sent - 8 : Nat) : Int) = ((min (8 + (k + 1)) xx.sent - 8 : Nat) : Int) by omega, show ((8 + k : Nat) : Int) + 1 = ((8 + (k + 1) : Nat) : Int) by omega]
      exact WP.ag (k + 1, J5) ⟨(show k + 1 ≤ 136 by omega), Imm.le_trans hJ3 hJ5⟩ (show 136 - (k + 1) < 136 - k by omega) ⟨rfl, rfl, rfl, rfl, rfl, rfl, rfl, trivial⟩ rfl
    ·refine WP.nil ?_
     refine WP.sub [(8, _), (18, _), (19, _), (20, _), (21, _), (22, _), (23, _), (132, _)] ?_ ⟨rfl, rfl, rfl, rfl, rfl, rfl, rfl, rfl, trivial⟩
     refine WP.next ?_
     refine WP.condF rfl ?_
     refine WP.exit ?_
     refine WP.thenE ?_
     refine WP.thenE ?_
     refine WP.hit ?_
     refine WP.next ?_
     refine WP.seq ?_
     refine WP.region [0, 1, 2, 3, 4, 5, 6, 7, 8, 9, 10, 11, 12, 13, 14, 15, 16, 17, 18, 19, 20, 21, 22, 23, 24, 25, 26, 27, 28, 29, 30, 31, 32, 33, 34] rfl ?_
     refine WP.mv rfl rfl ?_
     refine WP.vl rfl (Yld.eql rfl rfl rfl true (decide_eq_true (by rfl))) ?_
     refine WP.mv rfl rfl ?_
     refine WP.valG rfl rfl rfl rfl rfl rfl rfl (Yld.move rfl rfl) ?_
     refine WP.valG rfl rfl rfl rfl rfl rfl rfl (Yld.eql rfl rfl rfl true (decide_eq_true (by rfl))) ?_
     refine WP.vl rfl (Yld.pickT rfl rfl rfl) ?_
     refine WP.mv rfl rfl ?_
     refine WP.valG rfl rfl rfl rfl rfl rfl rfl (Yld.move rfl rfl) ?_
     refine WP.valG rfl rfl rfl rfl rfl rfl rfl (Yld.nilCheck rfl rfl) ?_
     refine WP.valG rfl rfl rfl rfl rfl rfl rfl (Yld.fieldAddr rfl ty_fd_43_0 rfl) ?_
     refine WP.valG rfl rfl rfl rfl rfl rfl rfl (Yld.ld (v := .pointer (some ⟨d, 0, none⟩)) rfl ty_sc_32 rfl rfl) ?_
     refine WP.loudG rfl rfl rfl rfl rfl ?_
     refine Op.cl (disk_Writes hd) rfl Try.func16 rfl rfl rfl rfl ?_
     rintro v J L1 - ⟨rfl, rfl, rfl⟩
     try simp only [nf]
     refine WP.valG rfl rfl rfl rfl rfl rfl rfl (Yld.move rfl rfl) ?_
     refine WP.valG rfl rfl rfl rfl rfl rfl rfl (Yld.mul64 rfl rfl rfl (by omega)) ?_
     refine WP.valG rfl rfl rfl rfl rfl rfl rfl (Yld.eql rfl rfl rfl true (decide_eq_true (by omega))) ?_
     refine WP.vl rfl (Yld.pickT rfl rfl rfl) ?_
     refine WP.mv rfl rfl ?_
     refine WP.valG rfl rfl rfl rfl rfl rfl rfl (Yld.move rfl rfl) ?_
     refine WP.valG rfl rfl rfl rfl rfl rfl rfl (Yld.nilCheck rfl rfl) ?_
     refine WP.valG rfl rfl rfl rfl rfl rfl rfl (Yld.fieldAddr rfl ty_fd_43_2 rfl) ?_
     refine WP.valG rfl rfl rfl rfl rfl rfl rfl (Yld.ld (v := .pointer (some ⟨l, 0, none⟩)) rfl ty_sc_34 rfl rfl) ?_
     refine WP.loudG rfl rfl rfl rfl rfl ?_
     refine Op.cl (log_Written hl) rfl Try.func17 rfl rfl rfl rfl ?_
     rintro v J L1 - ⟨rfl, rfl, rfl⟩
     try simp only [nf]
     refine WP.valG rfl rfl rfl rfl rfl rfl rfl (Yld.move rfl rfl) ?_
     refine WP.valG rfl rfl rfl rfl rfl rfl rfl (Yld.geq rfl rfl rfl true (decide_eq_true (by omega))) ?_
     refine WP.vl rfl (Yld.pickT rfl rfl rfl) ?_
     refine WP.mv rfl rfl ?_
     refine WP.valG rfl rfl rfl rfl rfl rfl rfl (Yld.move rfl rfl) ?_
     refine WP.valG rfl rfl rfl rfl rfl rfl rfl (Yld.nilCheck rfl rfl) ?_
     refine WP.valG rfl rfl rfl rfl rfl rfl rfl (Yld.fieldAddr rfl ty_fd_43_2 rfl) ?_
     refine WP.valG rfl rfl rfl rfl rfl rfl rfl (Yld.ld (v := .pointer (some ⟨l, 0, none⟩)) rfl ty_sc_34 rfl rfl) ?_
     refine WP.loudG rfl rfl rfl rfl rfl ?_
     refine Op.cl (log_Written hl) rfl Try.func17 rfl rfl rfl rfl ?_
     rintro v J L1 - ⟨rfl, rfl, rfl⟩
     try simp only [nf]
     refine WP.valG rfl rfl rfl rfl rfl rfl rfl (Yld.move rfl rfl) ?_
     refine WP.valG rfl rfl rfl rfl rfl rfl rfl (Yld.geq rfl rfl rfl true (decide_eq_true (by omega))) ?_
     refine WP.vl rfl (Yld.pickT rfl rfl rfl) ?_
     refine WP.mv rfl rfl ?_
     refine WP.nil ?_
     refine WP.sub [(6, _), (8, _), (18, _), (19, _), (20, _), (21, _), (22, _), (23, _), (132, _)] ?_ ⟨rfl, rfl, rfl, rfl, rfl, rfl, rfl, rfl, rfl, trivial⟩
     refine WP.next ?_
     refine WP.ret ?_
     refine WP.fn .ret (.inr rfl) (res1 rfl rfl) [] (Imm.le_trans hJa (Imm.le_trans hJ hJ3)) ?_
     exact ⟨rfl, rfl⟩


end Go.Hp
