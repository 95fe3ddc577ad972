import Derived.Test.YtilgaelpbgfnnaaGreatTxnH
set_option linter.unusedVariables false
set_option linter.unusedSimpArgs false
namespace Go.Hp
open Go Go.Proofs

theorem IsT.ent {J : Imm} {t : Nat} {x : Tb} {L : Chunks} (h : IsT J t x L) {p : Int} {e : Nat × Ent} (he : x.get p = some e) : entOk J e := by cases h with | mk h => exact h.entOk he
theorem txn_looks {I : Imm} {g l t : Nat} {z : Gp} {Lgr : Chunks} (hg : IsGr I g l t z Lgr) {tb : Tb} {Lt : Chunks} (hT : IsT I t tb Lt) (h0 : 0 < z.c.clear.length) : Spec Tryz.prog 189 [.pointer (some ⟨g, 0, none⟩)] I (Lgr ++ Lt) (fun v J L => v = .bool (z.looks tb).1 ∧ ∃ Lg2 Lt2, L = Lg2 ++ Lt2 ∧ IsGr J g l t (z.looks tb).2 Lg2 ∧ IsT J t tb Lt2) := by
 cases hgt : tb.get (z.c.clear[0]'h0) with
 | none => exact txn_looks0 hg hT h0 hgt
 | some e => exact txn_looks1 hg hT h0 hgt (fun e he => (hT.ent he).1)
theorem txn_EncodeCommit_ok {I : Imm} {t : Int} (ht : (1 ≤ t ∧ t ≤ 1099511627776)) : Spec Tryz.prog 29 [.int .i64 t] I [] (fun v J L' => (∃ vb, v = .tuple #[vb, .int .i64 0] ∧ Own 5 1 vb (bytesV (numB t.toNat)) (numB t.toNat).length L')) :=
 txn_EncodeCommit.mono (by rintro v J L' _ (⟨h, _⟩ | ⟨_, h⟩); exact absurd ht h; exact h)
def ApK (x : Lg) (kind : Int) (b : List UInt8) (e : Int) (x' : Lg) : Prop := (e ≠ 0 ∧ x' = x) ∨ (e = 0 ∧ ∃ r : Rc, r.kind = kind ∧ r.b = b ∧ x' = x.push r)
theorem log_AppendE {I : Imm} {l s d n : Nat} {x : Lg} {y : Dk} {L : Chunks} (hl : IsLog I l s d n x y L) {hn hp : Nat} {kind : Int} {b : List UInt8} {vb : Value} (hb : SlRd (Im I) vb b.length 1 (bytesV b)) : Spec Tryz.prog 80 [.pointer (some ⟨l, 0, none⟩), .agg #[.int .i64 (hn : Int), .int .i64 (hp : Int)], .int .i64 kind, vb] I L (fun v J L' => ∃ (e : Int) (hn' hp' : Nat) (x' : Lg), v = .tuple #[.agg #[.int .i64 (hn' : Int), .int .i64 (hp' : Int)], .int .i64 e] ∧ e = x.apE hn hp kind b ∧ ApK x kind b e x' ∧ (e = 0 → hn' = x'.no ∧ hp' = x'.pl) ∧ IsLog J l s d n x' y L') :=
 (log_Append hl hb).mono (by
  rintro v J L' _ (⟨h1, h2, h3⟩ | ⟨h1, r, h2, h3, h4, h5⟩)
  ·exact ⟨_, 0, 0, x, h2, rfl, .inl ⟨h1, rfl⟩, fun h => absurd h h1, h3⟩
  ·exact ⟨0, _, _, x.push r, h4, h1.symm, .inr ⟨rfl, r, h2, h3, rfl⟩, fun _ => ⟨rfl, rfl⟩, h5⟩)
def Gp.commits (z : Gp) (e : Int) : Bool × Gp := if e = 0 then (false, z.go 6) else if e = 5 then (false, z.go 4) else (true, z.fin e)
def Gp.frees (z : Gp) : Bool × Gp := if z.left.tail = [] then (true, (z.setL []).fin 0) else (false, z.setL z.left.tail)
theorem txn_clears {I : Imm} {g l t : Nat} {z : Gp} {Lgr : Chunks} (hg : IsGr I g l t z Lgr) {tb : Tb} {Lt : Chunks} (hT : IsT I t tb Lt) (h0 : 0 < z.c.clear.length) (htk : tb.tok + 1 < 18446744073709551616) : Spec Tryz.prog 191 [.pointer (some ⟨g, 0, none⟩)] I (Lgr ++ Lt) (fun v J L => ∃ r tb2 Lg2 Lt2, SwR tb (z.c.clear[0]'h0) z.c.ent.tok z.c.ent.clr r tb2 ∧ v = .bool (z.clears r).1 ∧ L = Lg2 ++ Lt2 ∧ IsGr J g l t (z.clears r).2 Lg2 ∧ IsT J t tb2 Lt2) := by
 cases hg with
 | @mk vc vn vw vp vb vl hc hn hw hs hp hb hl hk =>
 obtain ⟨Ac, cc, rfl, hcc, _, _⟩ := id hc
 obtain ⟨nvn, hn1, hn2⟩ := id hn.ex
 obtain ⟨An, cn, rfl, _⟩ := hn1.slice'
 obtain ⟨Aw, cw, rfl, _⟩ := hw.slice'
 obtain ⟨Ap, cp, rfl, hcp, _, _⟩ := id hp.rd
 obtain ⟨Ab, cb, rfl, _⟩ := id hb
 obtain ⟨Al, cl, rfl, hcl, _, _⟩ := id hl.rd
 obtain ⟨bi, ki, Ti, fi, ari, ei, hbi, hci⟩ := ints_at hc h0
 have hre2 : REnt I z.c.ent.clr [.int .u64 (z.c.ent.clr.tok : Int), (.slice An z.c.ent.nodes.length cn), .int .i64 z.c.ent.clr.place, .int .i64 z.c.ent.clr.no, .int .i64 z.c.ent.clr.low, .int .i64 z.c.ent.clr.kept, .int .i64 z.c.ent.clr.txn, .int .i64 z.c.ent.clr.lead, (.slice none 0 0)] := ⟨_, _, nvn, rfl, hn1, hn2, ⟨none, 0, rfl, Nat.le_refl _, rfl, .inl rfl⟩⟩
 have hsz2 : z.c.ent.clr.sized := ⟨hs.nodes, hs.data, Nat.zero_le _⟩
 refine Spec.of Tryz.func191 rfl Tryz.ntmps191 (Nat.le_of_ble_eq_true rfl) (fun F => ?_)
 try simp only [nf]
 dsimp only [argsEnv]
 refine WP.seq ?_; refine WP.region [0] rfl ?_; refine WP.mv rfl rfl ?_; refine WP.nil (WP.next (WP.seq (WP.seq ?_)))
 refine WD.start Tryzmixed 22 (fun c o => (c = g ∧ o = row 60 (cmV l t (nextV g z.at_) (.func (.func 53) [.pointer (some ⟨g, 0, none⟩)].toArray [].toArray) z.c (.slice Ac z.c.clear.length cc) (.slice An z.c.ent.nodes.length cn) (.slice Aw z.c.ent.with_.length cw) [.int .u64 (z.tok : Int), .slice Ap z.pages.length cp, .slice Ab z.bytes.length cb, .int .i64 z.place, .slice Al z.left.length cl])) ∨ I.blk c = some o) (fun _ _ => False) (by rintro _ _ (⟨rfl, rfl⟩ | h); exact zM; exact There.i h) (fun _ _ h => h.elim) 24 [false, false, false, false, false, false, false, false, false, false, false, false, false, false, false, false, false, false, false, false, false, false, false, false] rfl rfl ?_; refine WD.vl (i := 0) rfl (Yld.move rfl rfl) ?_; refine WD.vl (i := 1) rfl (Yld.nilCheck rfl rfl) ?_; refine WD.vl (i := 2) rfl (Yld.fieldAddr rfl ty_fd_58_0 rfl) ?_; refine WD.vl (i := 3) rfl (Yld.fieldAddr rfl ty_fd_54_1 rfl) ?_; refine WD.val1 (i := 4) rfl rfl rfl rfl zK rfl zK (Yld.load (v := .pointer (some ⟨t, 0, none⟩)) rfl ty_sc_32 rfl (.inl (.inl ⟨rfl, rfl⟩)) rfl) ?_; refine WD.vl (i := 5) rfl (Yld.move rfl rfl) ?_; refine WD.vl (i := 6) rfl (Yld.nilCheck rfl rfl) ?_; refine WD.vl (i := 7) rfl (Yld.fieldAddr rfl ty_fd_58_3 rfl) ?_; refine WD.val1 (i := 8) rfl rfl rfl rfl zK rfl zK (Yld.load (v := .slice Ac z.c.clear.length cc) rfl ty_sc_22 rfl (.inl (.inl ⟨rfl, rfl⟩)) rfl) ?_; refine WD.vl (i := 9) rfl (Yld.indexAddr (i := 0) rfl ty_sl_22 (congrArg (fun a => some (Value.slice a z.c.clear.length cc)) ei) rfl h0) ?_
 refine WD.val1 (i := 10) rfl rfl rfl rfl zK rfl zK (Yld.loadC rfl ty_sc_3 rfl (.inl (.inr hbi)) hci) ?_; refine WD.vl (i := 11) rfl (Yld.move rfl rfl) ?_; refine WD.vl (i := 12) rfl (Yld.nilCheck rfl rfl) ?_; refine WD.vl (i := 13) rfl (Yld.fieldAddr rfl ty_fd_58_4 rfl) ?_; refine WD.vl (i := 14) rfl (Yld.fieldAddr rfl ty_fd_43_0 rfl) ?_; refine WD.val1 (i := 15) rfl rfl rfl rfl zK rfl zK (Yld.load (v := .int .u64 (z.c.ent.tok : Int)) rfl ty_sc_40 rfl (.inl (.inl ⟨rfl, rfl⟩)) rfl) ?_; refine WD.vl (i := 16) rfl (Yld.move rfl rfl) ?_; refine WD.vl (i := 17) rfl (Yld.nilCheck rfl rfl) ?_; refine WD.vl (i := 18) rfl (Yld.fieldAddr rfl ty_fd_58_4 rfl) ?_; refine WD.val1 (i := 19) rfl rfl rfl rfl zK rfl zK (Yld.loadAgg (vs := [.int .u64 (z.c.ent.tok : Int), (.slice An z.c.ent.nodes.length cn), .int .i64 z.c.ent.place, .int .i64 z.c.ent.no, .int .i64 z.c.ent.low, .int .i64 z.c.ent.kept, .int .i64 z.c.ent.txn, .int .i64 z.c.ent.lead, (.slice Aw z.c.ent.with_.length cw)]) rfl ty_ag_43 rfl (.inl (.inl ⟨rfl, rfl⟩)) rfl rfl) ?_; refine WD.loud (i := 20) zK rfl rfl rfl ?_; refine Op.buildSlice rfl ty_sl_279 ty_el2_279 rfl rfl rfl rfl (vs := [_]) rfl (segs := [(0, [_])]) (cs := [.func (.func 192) [].toArray [].toArray]) rfl rfl zS (fun ba => ?_)
 refine WD.go (.inr (by rintro _ _ (⟨rfl, rfl⟩ | h); exact zM; first | exact There.i h | exact There.i (hJ2.2 _ _ h) | exact There.i (hJ3.2 _ _ (hJ2.2 _ _ h)) | exact There.i (hJ3.2 _ _ h))) (fun _ _ h => h.elim) ?_; refine WD.loud (i := 21) zK rfl rfl rfl ?_; refine Op.cl (txn_with_done (e := z.c.ent) (ba := ba) (vn := .slice An z.c.ent.nodes.length cn) (vw := .slice Aw z.c.ent.with_.length cw) rfl rfl) rfl Tryz.func181 rfl rfl rfl rfl ?_; rintro v J L1 - ⟨rfl, rfl, rfl⟩
 try simp only [nf]
 refine WD.go (.inr (by rintro _ _ (⟨rfl, rfl⟩ | h); exact zM; first | exact There.i h | exact There.i (hJ2.2 _ _ h) | exact There.i (hJ3.2 _ _ (hJ2.2 _ _ h)) | exact There.i (hJ3.2 _ _ h))) (fun _ _ h => h.elim) ?_; refine WD.loud (i := 22) zK rfl rfl rfl ?_; refine Op.cl (tabT_SwapX hT (p := z.c.clear[0]) (tk := z.c.ent.tok) (e := z.c.ent.clr) hre2 hsz2 htk) rfl Tryz.func83 rfl rfl rfl rfl ?_; rintro v J2 Lt2 hJ2 ⟨r, tb2, rfl, hsw, hT2⟩
 try simp only [nf]
 refine WD.go (.inl rfl) (fun _ _ h => h.elim) ?_; refine WD.split (i := 23) rfl rfl rfl rfl zK rfl (Yld.eql rfl rfl rfl) (fun h5 => ?_) (fun h5 => ?_)
 ·refine WD.done zK ?_
  refine WP.sub [(0, _), (2, _), (26, _)] ?_ ⟨rfl, rfl, rfl, trivial⟩
  refine WP.next ?_; refine WP.condT rfl ?_; refine WP.seq ?_; refine WP.region [0, 1, 2, 3, 4, 5, 6] rfl ?_; refine WP.mv rfl rfl ?_; refine WP.vl rfl (Yld.nilCheck rfl rfl) ?_; refine WP.vl rfl (Yld.fieldAddr rfl ty_fd_58_0 rfl) ?_; refine WP.mv rfl rfl ?_; refine WP.vl rfl (Yld.makeFunc rfl (vs := [_]) (us := []) rfl rfl) ?_; refine WP.loud rfl rfl ?_; refine Op.cl (txn_goes (b := g)) rfl Tryz.func111 rfl rfl rfl rfl ?_; rintro v J L1 - ⟨rfl, rfl, rfl⟩
  try simp only [nf]
  refine WP.mv rfl rfl ?_; refine WP.nil ?_; refine WP.sub [(0, _), (2, _), (26, _)] ?_ ⟨rfl, rfl, rfl, trivial⟩
  refine WP.next (WP.ret ?_)
  refine WP.fn .ret (.inr rfl) (res1 rfl rfl) ([(g, row 60 (cmV l t (nextV g 6) (.func (.func 53) [.pointer (some ⟨g, 0, none⟩)].toArray [].toArray) z.c (.slice Ac z.c.clear.length cc) (.slice An z.c.ent.nodes.length cn) (.slice Aw z.c.ent.with_.length cw) [.int .u64 (z.tok : Int), .slice Ap z.pages.length cp, .slice Ab z.bytes.length cb, .int .i64 z.place, .slice Al z.left.length cl]))] ++ Lt2) hJ2 ?_; have e : z.clears r = (false, z.go 6) := if_pos h5
  exact ⟨r, tb2, _, _, hsw, by rw [e], rfl, by rw [e]; exact (.mk (hc.mono fun b o q => hJ2.2 b o q) (hn.mono hJ2) (hw.mono (Imv.le hJ2)) hs (hp.mono hJ2) (hb.mono fun b o q => hJ2.2 b o q) (hl.mono hJ2) hk), hT2⟩
 ·refine WD.done zK ?_
  refine WP.sub [(0, _), (2, _), (26, _)] ?_ ⟨rfl, rfl, rfl, trivial⟩
  refine WP.next ?_; refine WP.condF rfl ?_; refine WP.skip (WP.next (WP.seq ?_))
  have hg2 := (IsGr.mk (g := g) (l := l) (t := t) (z := z) hc hn hw hs hp hb hl hk).mono hJ2
  refine WP.region [0, 1, 2] rfl ?_; refine WP.mv rfl rfl ?_; refine WP.loud rfl rfl ?_; refine Op.cl (txn_past hg2 h0) rfl Tryz.func190 rfl rfl rfl rfl ?_; rintro v J3 Lr hJ3 ⟨rfl, hres⟩
  try simp only [nf]
  refine WP.mv rfl rfl ?_; refine WP.nil ?_; refine WP.sub [(0, _), (2, _), (26, _)] ?_ ⟨rfl, rfl, rfl, trivial⟩
  refine WP.next (WP.ret ?_)
  refine WP.fn .ret (.inr rfl) (res1 rfl rfl) (Lr ++ Lt2) (Imm.le_trans hJ2 hJ3) ?_; have e : z.clears r = z.past := if_neg h5
  exact ⟨r, tb2, _, _, hsw, by rw [e], rfl, by rw [e]; exact hres, hT2.mono hJ3⟩

theorem txn_commits {I : Imm} {g l t : Nat} {z : Gp} {Lgr : Chunks} (hg : IsGr I g l t z Lgr) {s d n : Nat} {x : Lg} {y : Dk} {Ll : Chunks} (hlg : IsLog I l s d n x y Ll) (ht : 1 ≤ z.c.txn ∧ z.c.txn ≤ 1099511627776) : Spec Tryz.prog 185 [.pointer (some ⟨g, 0, none⟩)] I (Lgr ++ Ll) (fun v J L => ∃ e x2 Lg2 Ll2, e = x.apE z.c.hn z.c.hp 4 (numB z.c.txn.toNat) ∧ ApK x 4 (numB z.c.txn.toNat) e x2 ∧ v = .bool (z.commits e).1 ∧ L = Lg2 ++ Ll2 ∧ IsGr J g l t (z.commits e).2 Lg2 ∧ IsLog J l s d n x2 y Ll2) := by
 cases hg with
 | @mk vc vn vw vp vb vl hc hn hw hs hp hb hl hk =>
 obtain ⟨Ac, cc, rfl, hcc, _, _⟩ := id hc
 obtain ⟨nvn, hn1, hn2⟩ := id hn.ex
 obtain ⟨An, cn, rfl, _⟩ := hn1.slice'
 obtain ⟨Aw, cw, rfl, _⟩ := hw.slice'
 obtain ⟨Ap, cp, rfl, hcp, _, _⟩ := id hp.rd
 obtain ⟨Ab, cb, rfl, _⟩ := id hb
 obtain ⟨Al, cl, rfl, hcl, _, _⟩ := id hl.rd
 refine Spec.of Tryz.func185 rfl Tryz.ntmps185 (Nat.le_of_ble_eq_true rfl) (fun F => ?_)
 try simp only [nf]
 dsimp only [argsEnv]
 refine WP.seq ?_; refine WP.region [0] rfl ?_; refine WP.mv rfl rfl ?_; refine WP.nil (WP.next (WP.seq ?_))
 refine WP.region [0, 1, 2, 3, 4, 5, 6, 7, 8, 9] rfl ?_; refine WP.mv rfl rfl ?_; refine WP.vl rfl (Yld.nilCheck rfl rfl) ?_; refine WP.vl rfl (Yld.fieldAddr rfl ty_fd_58_1 rfl) ?_; refine WP.vl rfl (Yld.ld (v := .int .i64 z.c.txn) rfl ty_sc_3 rfl rfl) ?_; refine WP.loud rfl rfl ?_; refine Op.cl (txn_EncodeCommit_ok ht) rfl Tryz.func29 rfl rfl rfl rfl ?_; rintro v J1 L1 hJ1 ⟨vb2, rfl, hob⟩
 try simp only [nf]
 obtain ⟨Ab2, cb2, rfl, _⟩ := hob.slice
 refine WP.mv rfl rfl ?_; iterate 2 refine WP.vl rfl (Yld.extract rfl rfl rfl) ?_
 iterate 2 refine WP.mv rfl rfl ?_
 refine WP.nil ?_; refine WP.sub [(0, _), (2, _), (3, _), (4, _)] ?_ ⟨rfl, rfl, rfl, rfl, trivial⟩
 refine WP.next (WP.seq (WP.seq ?_))
 refine WP.region [0, 1] rfl ?_; refine WP.mv rfl rfl ?_; refine WP.vl rfl (Yld.neq rfl rfl rfl false (decide_eq_false (by simp))) ?_; refine WP.nil ?_; refine WP.sub [(0, _), (2, _), (3, _), (4, _), (14, _)] ?_ ⟨rfl, rfl, rfl, rfl, rfl, trivial⟩
 refine WP.next ?_; refine WP.condF rfl ?_; refine WP.skip (WP.next (WP.seq ?_))
 refine WP.shO hob (fun J0 hJ0 hb2 => ?_)
 have hlg := (hlg.mono hJ1).mono hJ0
 refine WD.start Tryzmixed 10 (fun c o => (c = g ∧ o = row 60 (cmV l t (nextV g z.at_) (.func (.func 53) [.pointer (some ⟨g, 0, none⟩)].toArray [].toArray) z.c (.slice Ac z.c.clear.length cc) (.slice An z.c.ent.nodes.length cn) (.slice Aw z.c.ent.with_.length cw) [.int .u64 (z.tok : Int), .slice Ap z.pages.length cp, .slice Ab z.bytes.length cb, .int .i64 z.place, .slice Al z.left.length cl])) ∨ J0.blk c = some o) (fun _ _ => False) (by rintro _ _ (⟨rfl, rfl⟩ | h); exact zM; exact There.i h) (fun _ _ h => h.elim) 15 [false, false, false, false, false, false, false, false, false, false, false, false, false, false, false] rfl rfl ?_; refine WD.vl (i := 0) rfl (Yld.move rfl rfl) ?_; refine WD.vl (i := 1) rfl (Yld.nilCheck rfl rfl) ?_; refine WD.vl (i := 2) rfl (Yld.fieldAddr rfl ty_fd_58_0 rfl) ?_; refine WD.vl (i := 3) rfl (Yld.fieldAddr rfl ty_fd_54_0 rfl) ?_; refine WD.val1 (i := 4) rfl rfl rfl rfl zK rfl zK (Yld.load (v := .pointer (some ⟨l, 0, none⟩)) rfl ty_sc_31 rfl (.inl (.inl ⟨rfl, rfl⟩)) rfl) ?_; refine WD.vl (i := 5) rfl (Yld.move rfl rfl) ?_; refine WD.vl (i := 6) rfl (Yld.nilCheck rfl rfl) ?_; refine WD.vl (i := 7) rfl (Yld.fieldAddr rfl ty_fd_58_2 rfl) ?_; refine WD.val1 (i := 8) rfl rfl rfl rfl zK rfl zK (Yld.loadAgg (vs := [.int .i64 (z.c.hn : Int), .int .i64 (z.c.hp : Int)]) rfl ty_ag_56 rfl (.inl (.inl ⟨rfl, rfl⟩)) rfl rfl) ?_; refine WD.vl (i := 9) rfl (Yld.move rfl rfl) ?_; refine WD.loud (i := 10) zK rfl rfl rfl ?_; refine Op.cl (log_AppendE (hn := z.c.hn) (hp := z.c.hp) (kind := 4) hlg hb2) rfl Tryz.func80 rfl rfl rfl rfl ?_
 rintro v J2 Ll2 hJ2 ⟨e, hn', hp', x2, rfl, hee, hap, -, hlg2⟩
 try simp only [nf]
 have hJa := Imm.le_trans hJ1 (Imm.le_trans hJ0 hJ2)
 refine WD.go (.inl rfl) (fun _ _ h => h.elim) ?_; refine WD.vl (i := 11) rfl (Yld.move rfl rfl) ?_; refine WD.vl (i := 12) rfl (Yld.extract rfl rfl rfl) ?_; refine WD.vl (i := 13) rfl (Yld.extract rfl rfl rfl) ?_; refine WD.vl (i := 14) rfl (Yld.assign rfl rfl) ?_; refine WD.done zK ?_; refine WP.sub [(0, _), (2, _), (3, _), (4, _), (14, _)] ?_ ⟨rfl, rfl, rfl, rfl, rfl, trivial⟩
 refine WP.next (WP.seq (WP.seq ?_))
 refine WP.region [0] rfl ?_; refine WP.mv rfl rfl ?_; refine WP.nil (WP.next (WP.block (WP.seq ?_)))
 refine WP.region [0, 1] rfl ?_; refine WP.split rfl rfl rfl rfl (Yld.eql rfl rfl rfl) (fun h0 => ?_) (fun h0 => ?_)
 ·refine WP.mv rfl rfl ?_
  refine WP.nil ?_; refine WP.sub [(0, _), (2, _), (3, _), (4, _), (14, _), (34, _), (35, _)] ?_ ⟨rfl, rfl, rfl, rfl, rfl, rfl, rfl, trivial⟩
  refine WP.next ?_; refine WP.condT rfl ?_; refine WP.seq ?_; refine WP.region [0, 1, 2, 3, 4, 5, 6] rfl ?_; refine WP.mv rfl rfl ?_; refine WP.vl rfl (Yld.nilCheck rfl rfl) ?_; refine WP.vl rfl (Yld.fieldAddr rfl ty_fd_58_0 rfl) ?_; refine WP.mv rfl rfl ?_; refine WP.vl rfl (Yld.makeFunc rfl (vs := [_]) (us := []) rfl rfl) ?_; refine WP.loud rfl rfl ?_; refine Op.cl (txn_goes (b := g)) rfl Tryz.func111 rfl rfl rfl rfl ?_; rintro v J L1 - ⟨rfl, rfl, rfl⟩
  try simp only [nf]
  refine WP.mv rfl rfl ?_; refine WP.nil ?_; refine WP.sub [(0, _), (2, _), (3, _), (4, _), (14, _), (34, _), (35, _)] ?_ ⟨rfl, rfl, rfl, rfl, rfl, rfl, rfl, trivial⟩
  refine WP.next (WP.ret ?_)
  refine WP.fn .ret (.inr rfl) (res1 rfl rfl) ([(g, row 60 (cmV l t (nextV g 6) (.func (.func 53) [.pointer (some ⟨g, 0, none⟩)].toArray [].toArray) z.c (.slice Ac z.c.clear.length cc) (.slice An z.c.ent.nodes.length cn) (.slice Aw z.c.ent.with_.length cw) [.int .u64 (z.tok : Int), .slice Ap z.pages.length cp, .slice Ab z.bytes.length cb, .int .i64 z.place, .slice Al z.left.length cl]))] ++ Ll2) hJa ?_; have e1 : z.commits e = (false, z.go 6) := if_pos h0
  exact ⟨e, x2, _, _, hee, hap, by rw [e1], rfl, by rw [e1]; exact (.mk (hc.mono fun b o q => hJa.2 b o q) (hn.mono hJa) (hw.mono (Imv.le hJa)) hs (hp.mono hJa) (hb.mono fun b o q => hJa.2 b o q) (hl.mono hJa) hk), hlg2⟩
 ·refine WP.mv rfl rfl ?_
  refine WP.nil ?_; refine WP.sub [(0, _), (2, _), (3, _), (4, _), (14, _), (34, _), (35, _)] ?_ ⟨rfl, rfl, rfl, rfl, rfl, rfl, rfl, trivial⟩
  refine WP.next ?_; refine WP.condF rfl ?_; refine WP.seq ?_; refine WP.region [0, 1] rfl ?_; refine WP.split rfl rfl rfl rfl (Yld.eql rfl rfl rfl) (fun h5 => ?_) (fun h5 => ?_)
  ·refine WP.mv rfl rfl ?_
   refine WP.nil ?_; refine WP.sub [(0, _), (2, _), (3, _), (4, _), (14, _), (34, _), (35, _), (43, _)] ?_ ⟨rfl, rfl, rfl, rfl, rfl, rfl, rfl, rfl, trivial⟩
   refine WP.next ?_; refine WP.condT rfl ?_; refine WP.seq ?_; refine WP.region [0, 1, 2, 3, 4, 5, 6] rfl ?_; refine WP.mv rfl rfl ?_; refine WP.vl rfl (Yld.nilCheck rfl rfl) ?_; refine WP.vl rfl (Yld.fieldAddr rfl ty_fd_58_0 rfl) ?_; refine WP.mv rfl rfl ?_; refine WP.vl rfl (Yld.makeFunc rfl (vs := [_]) (us := []) rfl rfl) ?_; refine WP.loud rfl rfl ?_; refine Op.cl (txn_goes (b := g)) rfl Tryz.func111 rfl rfl rfl rfl ?_; rintro v J L1 - ⟨rfl, rfl, rfl⟩
   try simp only [nf]
   refine WP.mv rfl rfl ?_; refine WP.nil ?_; refine WP.sub [(0, _), (2, _), (3, _), (4, _), (14, _), (34, _), (35, _), (43, _)] ?_ ⟨rfl, rfl, rfl, rfl, rfl, rfl, rfl, rfl, trivial⟩
   refine WP.next (WP.ret ?_)
   refine WP.fn .ret (.inr rfl) (res1 rfl rfl) ([(g, row 60 (cmV l t (nextV g 4) (.func (.func 53) [.pointer (some ⟨g, 0, none⟩)].toArray [].toArray) z.c (.slice Ac z.c.clear.length cc) (.slice An z.c.ent.nodes.length cn) (.slice Aw z.c.ent.with_.length cw) [.int .u64 (z.tok : Int), .slice Ap z.pages.length cp, .slice Ab z.bytes.length cb, .int .i64 z.place, .slice Al z.left.length cl]))] ++ Ll2) hJa ?_; have e1 : z.commits e = (false, z.go 4) := (if_neg h0).trans (if_pos h5)
   exact ⟨e, x2, _, _, hee, hap, by rw [e1], rfl, by rw [e1]; exact (.mk (hc.mono fun b o q => hJa.2 b o q) (hn.mono hJa) (hw.mono (Imv.le hJa)) hs (hp.mono hJa) (hb.mono fun b o q => hJa.2 b o q) (hl.mono hJa) hk), hlg2⟩
  ·refine WP.mv rfl rfl ?_
   refine WP.nil ?_; refine WP.sub [(0, _), (2, _), (3, _), (4, _), (14, _), (34, _), (35, _), (43, _)] ?_ ⟨rfl, rfl, rfl, rfl, rfl, rfl, rfl, rfl, trivial⟩
   refine WP.next ?_; refine WP.condF rfl ?_; refine WP.skip (WP.leave (WP.next (WP.seq ?_)))
   refine WP.region [0, 1, 2, 3, 4, 5] rfl ?_; refine WP.mv rfl rfl ?_; refine WP.vl rfl (Yld.nilCheck rfl rfl) ?_; refine WP.vl rfl (Yld.fieldAddr rfl ty_fd_58_0 rfl) ?_; refine WP.mv rfl rfl ?_; refine WP.loud rfl rfl ?_; refine Op.cl (txn_end (b := g)) rfl Tryz.func110 rfl rfl rfl rfl ?_; rintro v J L1 - ⟨rfl, rfl, rfl⟩
   try simp only [nf]
   refine WP.mv rfl rfl ?_; refine WP.nil ?_; refine WP.sub [(0, _), (2, _), (3, _), (4, _), (14, _), (34, _), (35, _), (43, _)] ?_ ⟨rfl, rfl, rfl, rfl, rfl, rfl, rfl, rfl, trivial⟩
   refine WP.next (WP.ret ?_)
   refine WP.fn .ret (.inr rfl) (res1 rfl rfl) ([(g, row 60 (cmV l t (nextV g 9) (.func (.func 53) [.pointer (some ⟨g, 0, none⟩)].toArray [].toArray) ({ z.c with e := e } : Cm) (.slice Ac z.c.clear.length cc) (.slice An z.c.ent.nodes.length cn) (.slice Aw z.c.ent.with_.length cw) [.int .u64 (z.tok : Int), .slice Ap z.pages.length cp, .slice Ab z.bytes.length cb, .int .i64 z.place, .slice Al z.left.length cl]))] ++ Ll2) hJa ?_; have e1 : z.commits e = (true, z.fin e) := (if_neg h0).trans (if_neg h5)
   exact ⟨e, x2, _, _, hee, hap, by rw [e1], rfl, by rw [e1]; exact (.mk (hc.mono fun b o q => hJa.2 b o q) (hn.mono hJa) (hw.mono (Imv.le hJa)) hs (hp.mono hJa) (hb.mono fun b o q => hJa.2 b o q) (hl.mono hJa) hk), hlg2⟩

theorem txn_frees {I : Imm} {g l t : Nat} {z : Gp} {Lgr : Chunks} (hg : IsGr I g l t z Lgr) {tb : Tb} {Lt : Chunks} (hT : IsT I t tb Lt) (h0 : 0 < z.left.length) : Spec Tryz.prog 114 [.pointer (some ⟨g, 0, none⟩)] I (Lgr ++ Lt) (fun v J L => ∃ tb2 Lg2 Lt2, v = .bool z.frees.1 ∧ tb.Freed tb2 (z.left[0]'h0).1.page ∧ L = Lg2 ++ Lt2 ∧ IsGr J g l t z.frees.2 Lg2 ∧ IsT J t tb2 Lt2) := by
 cases hg with
 | @mk vc vn vw vp vb vl hc hn hw hs hp hb hl hk =>
 obtain ⟨Ac, cc, rfl, hcc, _, _⟩ := id hc
 obtain ⟨nvn, hn1, hn2⟩ := id hn.ex
 obtain ⟨An, cn, rfl, _⟩ := hn1.slice'
 obtain ⟨Aw, cw, rfl, _⟩ := hw.slice'
 obtain ⟨Ap, cp, rfl, hcp, _, _⟩ := id hp.rd
 obtain ⟨Ab, cb, rfl, _⟩ := id hb
 obtain ⟨Al, cl, rfl, hcl, _, _⟩ := id hl.rd
 obtain ⟨bl, kl, Tl, fl, arl, ea, hbl, hcl0, hc0⟩ := hl.page h0
 obtain ⟨At, ct, tl1, htl⟩ := hl.tail h0
 refine Spec.of Tryz.func114 rfl Tryz.ntmps114 (Nat.le_of_ble_eq_true rfl) (fun F => ?_)
 try simp only [nf]
 dsimp only [argsEnv]
 refine WP.seq ?_; refine WP.region [0] rfl ?_; refine WP.mv rfl rfl ?_; refine WP.nil (WP.next (WP.seq ?_))
 refine WQ.start Tryzmixed 13 zK _ rfl [13] rfl ?_; refine WQ.val rfl rfl rfl (Yld.move rfl rfl) ?_; refine WQ.val rfl rfl rfl (Yld.nilCheck rfl rfl) ?_; refine WQ.val rfl rfl rfl (Yld.fieldAddr rfl ty_fd_60_0 rfl) ?_; refine WQ.val rfl rfl rfl (Yld.fieldAddr rfl ty_fd_58_0 rfl) ?_; refine WQ.val rfl rfl rfl (Yld.fieldAddr rfl ty_fd_54_1 rfl) ?_; refine WQ.val rfl rfl rfl (Yld.ld (v := .pointer (some ⟨t, 0, none⟩)) rfl ty_sc_32 rfl rfl) ?_; refine WQ.val rfl rfl rfl (Yld.move rfl rfl) ?_; refine WQ.val rfl rfl rfl (Yld.nilCheck rfl rfl) ?_; refine WQ.val rfl rfl rfl (Yld.fieldAddr rfl ty_fd_60_5 rfl) ?_; refine WQ.val rfl rfl rfl (Yld.ld (v := .slice Al z.left.length cl) rfl ty_sc_52 rfl rfl) ?_; refine WQ.val rfl rfl rfl (Yld.indexAddr (i := 0) rfl ty_sl_52 (congrArg (fun a => some (Value.slice a z.left.length cl)) ea) rfl h0) ?_; refine WQ.val rfl rfl rfl (Yld.fieldAddr rfl ty_fd_51_0 rfl) ?_; refine WQ.val rfl rfl rfl (Yld.loadC rfl ty_sc_3 rfl (There.i hbl) hc0) ?_; refine WQ.nil ?_; refine WP.loud rfl rfl ?_; refine Op.cl (tabT_Free hT (p := z.left[0].1.page)) rfl Tryz.func158 rfl rfl rfl rfl ?_; rintro v J2 Lt2 hJ2 ⟨tb2, rfl, rfl, hT2, hfr⟩
 try simp only [nf]
 refine WP.nil ?_; refine WP.sub [(0, _), (2, _)] ?_ ⟨rfl, rfl, trivial⟩
 refine WP.next (WP.seq (WP.seq ?_))
 refine WP.region [0, 1, 2, 3, 4, 5, 6, 7, 8] rfl ?_; iterate 2 refine WP.mv rfl rfl ?_
 refine WP.vl rfl (Yld.nilCheck rfl rfl) ?_; refine WP.vl rfl (Yld.fieldAddr rfl ty_fd_60_5 rfl) ?_; refine WP.vl rfl (Yld.ld (v := .slice Al z.left.length cl) rfl ty_sc_52 rfl rfl) ?_; refine WP.vl rfl (Yld.slice (l := 1) (h := z.left.length) rfl ty_sl_52 rfl (Env.limS rfl) Env.lim0 h0 hcl) ?_; rw [tl1]
 refine WP.vl rfl (Yld.nilCheck rfl rfl) ?_; refine WP.vl rfl (Yld.fieldAddr rfl ty_fd_60_5 rfl) ?_; refine WP.loud rfl rfl ?_; refine Op.s1 rfl rfl ty_sz_52 rfl rfl rfl ?_; refine WP.nil ?_; refine WP.sub [(0, _), (2, _)] ?_ ⟨rfl, rfl, trivial⟩
 refine WP.next (WP.seq ?_)
 refine WP.region [0, 1, 2, 3, 4, 5] rfl ?_; refine WP.mv rfl rfl ?_; refine WP.vl rfl (Yld.nilCheck rfl rfl) ?_; refine WP.vl rfl (Yld.fieldAddr rfl ty_fd_60_5 rfl) ?_; refine WP.vl rfl (Yld.ld (v := .slice At z.left.tail.length ct) rfl ty_sc_52 rfl rfl) ?_; refine WP.vl rfl (Yld.len rfl ty_sl_52 rfl) ?_; refine WP.split rfl rfl rfl rfl (Yld.eql rfl rfl rfl) (fun h1 => ?_) (fun h1 => ?_)
 ·refine WP.nil ?_
  refine WP.sub [(0, _), (2, _), (30, _)] ?_ ⟨rfl, rfl, rfl, trivial⟩
  refine WP.next ?_; refine WP.condT rfl ?_; refine WP.seq ?_; refine WP.region [0, 1, 2, 3, 4, 5] rfl ?_; refine WP.mv rfl rfl ?_; refine WP.vl rfl (Yld.nilCheck rfl rfl) ?_; refine WP.vl rfl (Yld.fieldAddr rfl ty_fd_60_0 rfl) ?_; refine WP.vl rfl (Yld.fieldAddr rfl ty_fd_58_0 rfl) ?_; refine WP.loud rfl rfl ?_; refine Op.cl (txn_end (b := g)) rfl Tryz.func110 rfl rfl rfl rfl ?_; rintro v J L1 - ⟨rfl, rfl, rfl⟩
  try simp only [nf]
  refine WP.mv rfl rfl ?_; refine WP.nil ?_; refine WP.sub [(0, _), (2, _), (30, _)] ?_ ⟨rfl, rfl, rfl, trivial⟩
  refine WP.next (WP.ret ?_)
  refine WP.fn .ret (.inr rfl) (res1 rfl rfl) ([(g, row 60 (cmV l t (nextV g 9) (.func (.func 53) [.pointer (some ⟨g, 0, none⟩)].toArray [].toArray) ({ z.c with e := 0 } : Cm) (.slice Ac z.c.clear.length cc) (.slice An z.c.ent.nodes.length cn) (.slice Aw z.c.ent.with_.length cw) [.int .u64 (z.tok : Int), .slice Ap z.pages.length cp, .slice Ab z.bytes.length cb, .int .i64 z.place, .slice At z.left.tail.length ct]))] ++ Lt2) (Imm.le_refl _) ?_; have e0 : z.left.tail = [] := List.length_eq_zero_iff.1 (by omega)
  have e : z.frees = (true, (z.setL []).fin 0) := if_pos e0
  rw [e]; rw [e0] at htl ⊢; exact ⟨tb2, _, _, rfl, hfr, rfl, .mk hc hn hw hs hp hb htl hk, hT2⟩
 ·refine WP.nil ?_
  refine WP.sub [(0, _), (2, _), (30, _)] ?_ ⟨rfl, rfl, rfl, trivial⟩
  refine WP.next ?_; refine WP.condF rfl ?_; refine WP.skip (WP.next (WP.seq ?_))
  refine WP.region [0] rfl ?_; refine WP.mv rfl rfl ?_; refine WP.nil (WP.next (WP.ret ?_))
  refine WP.fn .ret (.inr rfl) (res1 rfl rfl) ([(g, row 60 (cmV l t (nextV g z.at_) (.func (.func 53) [.pointer (some ⟨g, 0, none⟩)].toArray [].toArray) z.c (.slice Ac z.c.clear.length cc) (.slice An z.c.ent.nodes.length cn) (.slice Aw z.c.ent.with_.length cw) [.int .u64 (z.tok : Int), .slice Ap z.pages.length cp, .slice Ab z.bytes.length cb, .int .i64 z.place, .slice At z.left.tail.length ct]))] ++ Lt2) (Imm.le_refl _) ?_; have e0 : ¬ z.left.tail = [] := fun e => h1 (by rw [e]; rfl)
  have e : z.frees = (false, z.setL z.left.tail) := if_neg e0
  rw [e]; exact ⟨tb2, _, _, rfl, hfr, rfl, .mk hc hn hw hs hp hb htl hk, hT2⟩


end Go.Hp
