import Derived.Test.YtilgaelpbgfnnaaGreatTxnJ
set_option linter.unusedVariables false
set_option linter.unusedSimpArgs false
namespace Go.Hp
open Go Go.Proofs

def PutR (x : Tb) (p : Int) (e : Ent) (r : Int) (x' : Tb) : Prop := (¬ (1 ≤ p ∧ p ≤ 512 ∧ e.mayP) ∧ r = 1 ∧ x' = x) ∨ ((1 ≤ p ∧ p ≤ 512 ∧ e.mayP) ∧ r = 0 ∧ x.Used x' p e)
theorem tabT_PutX {I : Imm} {t : Nat} {x : Tb} {L : Chunks} (hT : IsT I t x L) {p : Int}  {e : Ent} {cs : List Value} (he : REnt I e cs) (hsz : e.sized) (htk : x.tok + 1 < 18446744073709551616) : Spec Tryz.prog 184 [.pointer (some ⟨t, 0, none⟩), .int .i64 p, .agg cs.toArray] I L (fun v J L' => ∃ (r : Int) (x' : Tb), v = .int .i64 r ∧ PutR x p e r x' ∧ IsT J t x' L') :=
 (tabT_Put hT he hsz htk).mono (by
  rintro v J L' hJ (⟨h1, rfl, rfl, h4⟩ | ⟨h1, rfl, x', h3, h4⟩)
  ·exact ⟨_, x, rfl, .inl ⟨h1, rfl, rfl⟩, h4⟩
  ·exact ⟨_, x', rfl, .inr ⟨h1, rfl, h3⟩, h4⟩)
def Gp.puts (z : Gp) (r : Int) : Bool × Gp := if r = 0 then (if z.left.tail = [] then (false, (z.setL []).go 3) else (false, z.setL z.left.tail)) else (true, z.fin r)
theorem txn_puts {I : Imm} {g l t : Nat} {z : Gp} {Lgr : Chunks} (hg : IsGr I g l t z Lgr) {tb : Tb} {Lt : Chunks} (hT : IsT I t tb Lt) (h0 : 0 < z.left.length) (h1p : 0 < z.pages.length) (hsz : (becE z.pages z.c.txn z.place (z.left[0]'h0).1).sized) (htk : tb.tok + 1 < 18446744073709551616) : Spec Tryz.prog 157 [.pointer (some ⟨g, 0, none⟩)] I (Lgr ++ Lt) (fun v J L => ∃ r tb2 Lg2 Lt2, PutR tb (z.left[0]'h0).1.page (becE z.pages z.c.txn z.place (z.left[0]'h0).1) r tb2 ∧ v = .bool (z.puts r).1 ∧ L = Lg2 ++ Lt2 ∧ IsGr J g l t (z.puts r).2 Lg2 ∧ IsT J t tb2 Lt2) := by
 cases hg with
 | @mk vc vn vw vp vb vl hc hn hw hs hp hb hl hk =>
 obtain ⟨Ac, cc, rfl, hcc, _, _⟩ := id hc
 obtain ⟨nvn, hn1, hn2⟩ := id hn.ex
 obtain ⟨An, cn, rfl, _⟩ := hn1.slice'
 obtain ⟨Aw, cw, rfl, _⟩ := hw.slice'
 obtain ⟨Ap, cp, rfl, hcp, _, _⟩ := id hp.rd
 obtain ⟨Ab, cb, rfl, _⟩ := id hb
 obtain ⟨Al, cl, rfl, hcl, _, _⟩ := id hl.rd
 obtain ⟨bl, kl, Tl, fl, arl, ea, hbi, hcl0, hc0⟩ := hl.page h0
 obtain ⟨At, ct, tl1, htl⟩ := hl.tail h0
 obtain ⟨nvl, hnl1, hnl2⟩ := id (hl.el _ (List.getElem_mem h0)).ex
 have hre2 : REnt I (becE z.pages z.c.txn z.place (z.left[0]'h0).1) (entV (becE z.pages z.c.txn z.place (z.left[0]'h0).1) (z.left[0]'h0).2 (.slice none 0 0)) := ⟨_, _, nvl, rfl, hnl1, hnl2, ⟨none, 0, rfl, Nat.le_refl _, rfl, .inl rfl⟩⟩
 refine Spec.of Tryz.func157 rfl Tryz.ntmps157 (Nat.le_of_ble_eq_true rfl) (fun F => ?_)
 try simp only [nf]
 dsimp only [argsEnv]
 refine WP.seq ?_; refine WP.region [0] rfl ?_; refine WP.mv rfl rfl ?_; refine WP.nil (WP.next (WP.seq (WP.seq ?_)))
 refine WD.start Tryzmixed 21 (fun c o => (c = g ∧ o = row 60 (cmV l t (nextV g z.at_) (.func (.func 53) [.pointer (some ⟨g, 0, none⟩)].toArray [].toArray) z.c (.slice Ac z.c.clear.length cc) (.slice An z.c.ent.nodes.length cn) (.slice Aw z.c.ent.with_.length cw) [.int .u64 (z.tok : Int), .slice Ap z.pages.length cp, .slice Ab z.bytes.length cb, .int .i64 z.place, .slice Al z.left.length cl])) ∨ I.blk c = some o) (fun _ _ => False) (by rintro _ _ (⟨rfl, rfl⟩ | h); exact zM; exact There.i h) (fun _ _ h => h.elim) 23 [false, false, false, false, false, false, false, false, false, false, false, false, false, false, false, false, false, false, false, false, false, false, false] rfl rfl ?_; refine WD.vl (i := 0) rfl (Yld.move rfl rfl) ?_; refine WD.vl (i := 1) rfl (Yld.nilCheck rfl rfl) ?_; refine WD.vl (i := 2) rfl (Yld.fieldAddr rfl ty_fd_60_0 rfl) ?_; refine WD.vl (i := 3) rfl (Yld.fieldAddr rfl ty_fd_58_0 rfl) ?_; refine WD.vl (i := 4) rfl (Yld.fieldAddr rfl ty_fd_54_1 rfl) ?_; refine WD.val1 (i := 5) rfl rfl rfl rfl zK rfl zK (Yld.load (v := .pointer (some ⟨t, 0, none⟩)) rfl ty_sc_32 rfl (.inl (.inl ⟨rfl, rfl⟩)) rfl) ?_; refine WD.vl (i := 6) rfl (Yld.move rfl rfl) ?_; refine WD.vl (i := 7) rfl (Yld.nilCheck rfl rfl) ?_; refine WD.vl (i := 8) rfl (Yld.fieldAddr rfl ty_fd_60_5 rfl) ?_; refine WD.val1 (i := 9) rfl rfl rfl rfl zK rfl zK (Yld.load (v := .slice Al z.left.length cl) rfl ty_sc_52 rfl (.inl (.inl ⟨rfl, rfl⟩)) rfl) ?_; refine WD.vl (i := 10) rfl (Yld.indexAddr (i := 0) rfl ty_sl_52 (congrArg (fun a => some (Value.slice a z.left.length cl)) ea) rfl h0) ?_
 refine WD.vl (i := 11) rfl (Yld.fieldAddr rfl ty_fd_51_0 rfl) ?_; refine WD.val1 (i := 12) rfl rfl rfl rfl zK rfl zK (Yld.loadC rfl ty_sc_3 rfl (.inl (.inr hbi)) hc0) ?_; refine WD.vl (i := 13) rfl (Yld.move rfl rfl) ?_; refine WD.vl (i := 14) rfl (Yld.move rfl rfl) ?_; refine WD.vl (i := 15) rfl (Yld.nilCheck rfl rfl) ?_; refine WD.vl (i := 16) rfl (Yld.fieldAddr rfl ty_fd_60_5 rfl) ?_; refine WD.val1 (i := 17) rfl rfl rfl rfl zK rfl zK (Yld.load (v := .slice Al z.left.length cl) rfl ty_sc_52 rfl (.inl (.inl ⟨rfl, rfl⟩)) rfl) ?_; refine WD.vl (i := 18) rfl (Yld.indexAddr (i := 0) rfl ty_sl_52 (congrArg (fun a => some (Value.slice a z.left.length cl)) ea) rfl h0) ?_; refine WD.val1 (i := 19) rfl rfl rfl rfl zK rfl zK (Yld.loadAggC (vs := [.int .i64 z.left[0].1.page, .int .i64 z.left[0].1.prev, z.left[0].2]) rfl ty_ag_51 rfl (.inl (.inr hbi)) hcl0 rfl) ?_; refine WD.loud (i := 20) zK rfl rfl rfl ?_; refine Op.cl (txn_becomes (l := l) (t := t) (g := g) (tok := z.tok) (nx := nextV g z.at_) (th := .func (.func 53) [.pointer (some ⟨g, 0, none⟩)].toArray [].toArray) (z := z.c) (vc := .slice Ac z.c.clear.length cc) (vn := .slice An z.c.ent.nodes.length cn) (vw := .slice Aw z.c.ent.with_.length cw) (vb := .slice Ab z.bytes.length cb) (vl := .slice Al z.left.length cl) (place := z.place) hp h1p (r := z.left[0].1) (vr := z.left[0].2) (hl.el _ (List.getElem_mem h0))) rfl Tryz.func182 rfl rfl rfl rfl ?_; rintro v J L1 - ⟨rfl, rfl, rfl⟩
 try simp only [nf]
 refine WD.go (.inr (by rintro _ _ (⟨rfl, rfl⟩ | h); exact zM; first | exact There.i h | exact There.i (hJ2.2 _ _ h) | exact There.i (hJ3.2 _ _ (hJ2.2 _ _ h)) | exact There.i (hJ3.2 _ _ h))) (fun _ _ h => h.elim) ?_; refine WD.loud (i := 21) zK rfl rfl rfl ?_; refine Op.cl (tabT_PutX hT (p := z.left[0].1.page) (e := becE z.pages z.c.txn z.place (z.left[0]'h0).1) hre2 hsz htk) rfl Tryz.func184 rfl rfl rfl rfl ?_; rintro v J2 Lt2 hJ2 ⟨r, tb2, rfl, hpr, hT2⟩
 try simp only [nf]
 refine WD.go (.inl rfl) (fun _ _ h => h.elim) ?_; refine WD.vl (i := 22) rfl (Yld.assign rfl rfl) ?_; refine WD.done zK ?_; refine WP.sub [(0, _), (2, _), (3, _)] ?_ ⟨rfl, rfl, rfl, trivial⟩
 refine WP.next (WP.seq ?_)
 refine WP.region [0, 1] rfl ?_; refine WP.mv rfl rfl ?_; refine WP.split rfl rfl rfl rfl (Yld.neq rfl rfl rfl) (fun h5 => ?_) (fun h5 => ?_)
 ·refine WP.nil ?_
  refine WP.sub [(0, _), (2, _), (3, _), (27, _)] ?_ ⟨rfl, rfl, rfl, rfl, trivial⟩
  refine WP.next ?_; refine WP.condT rfl ?_; refine WP.seq ?_; refine WP.region [0, 1, 2, 3, 4, 5, 6] rfl ?_; refine WP.mv rfl rfl ?_; refine WP.vl rfl (Yld.nilCheck rfl rfl) ?_; refine WP.vl rfl (Yld.fieldAddr rfl ty_fd_60_0 rfl) ?_; refine WP.vl rfl (Yld.fieldAddr rfl ty_fd_58_0 rfl) ?_; refine WP.mv rfl rfl ?_; refine WP.loud rfl rfl ?_; refine Op.cl (txn_end (b := g)) rfl Tryz.func110 rfl rfl rfl rfl ?_; rintro v J L1 - ⟨rfl, rfl, rfl⟩
  try simp only [nf]
  refine WP.mv rfl rfl ?_; refine WP.nil ?_; refine WP.sub [(0, _), (2, _), (3, _), (27, _)] ?_ ⟨rfl, rfl, rfl, rfl, trivial⟩
  refine WP.next (WP.ret ?_)
  refine WP.fn .ret (.inr rfl) (res1 rfl rfl) ([(g, row 60 (cmV l t (nextV g 9) (.func (.func 53) [.pointer (some ⟨g, 0, none⟩)].toArray [].toArray) ({ z.c with e := r } : Cm) (.slice Ac z.c.clear.length cc) (.slice An z.c.ent.nodes.length cn) (.slice Aw z.c.ent.with_.length cw) [.int .u64 (z.tok : Int), .slice Ap z.pages.length cp, .slice Ab z.bytes.length cb, .int .i64 z.place, .slice Al z.left.length cl]))] ++ Lt2) hJ2 ?_; have e : z.puts r = (true, z.fin r) := if_neg h5
  exact ⟨r, tb2, _, _, hpr, by rw [e], rfl, by rw [e]; exact (.mk (hc.mono fun b o q => hJ2.2 b o q) (hn.mono hJ2) (hw.mono (Imv.le hJ2)) hs (hp.mono hJ2) (hb.mono fun b o q => hJ2.2 b o q) (hl.mono hJ2) hk), hT2⟩
 ·refine WP.nil ?_
  refine WP.sub [(0, _), (2, _), (3, _), (27, _)] ?_ ⟨rfl, rfl, rfl, rfl, trivial⟩
  refine WP.next ?_; refine WP.condF rfl ?_; refine WP.skip (WP.next (WP.seq (WP.seq ?_)))
  refine WP.region [0, 1, 2, 3, 4, 5, 6, 7, 8] rfl ?_; iterate 2 refine WP.mv rfl rfl ?_
  refine WP.vl rfl (Yld.nilCheck rfl rfl) ?_; refine WP.vl rfl (Yld.fieldAddr rfl ty_fd_60_5 rfl) ?_; refine WP.vl rfl (Yld.ld (v := .slice Al z.left.length cl) rfl ty_sc_52 rfl rfl) ?_; refine WP.vl rfl (Yld.slice (l := 1) (h := z.left.length) rfl ty_sl_52 rfl (Env.limS rfl) Env.lim0 h0 hcl) ?_; rw [tl1]
  refine WP.vl rfl (Yld.nilCheck rfl rfl) ?_; refine WP.vl rfl (Yld.fieldAddr rfl ty_fd_60_5 rfl) ?_; refine WP.loud rfl rfl ?_; refine Op.s1 rfl rfl ty_sz_52 rfl rfl rfl ?_; refine WP.nil ?_; refine WP.sub [(0, _), (2, _), (3, _), (27, _)] ?_ ⟨rfl, rfl, rfl, rfl, trivial⟩
  refine WP.next (WP.seq ?_)
  refine WP.region [0, 1, 2, 3, 4, 5] rfl ?_; refine WP.mv rfl rfl ?_; refine WP.vl rfl (Yld.nilCheck rfl rfl) ?_; refine WP.vl rfl (Yld.fieldAddr rfl ty_fd_60_5 rfl) ?_; refine WP.vl rfl (Yld.ld (v := .slice At z.left.tail.length ct) rfl ty_sc_52 rfl rfl) ?_; refine WP.vl rfl (Yld.len rfl ty_sl_52 rfl) ?_; refine WP.split rfl rfl rfl rfl (Yld.eql rfl rfl rfl) (fun h1 => ?_) (fun h1 => ?_)
  ·refine WP.nil ?_
   refine WP.sub [(0, _), (2, _), (3, _), (27, _), (47, _)] ?_ ⟨rfl, rfl, rfl, rfl, rfl, trivial⟩
   refine WP.next ?_; refine WP.condT rfl ?_; refine WP.seq ?_; refine WP.region [0, 1, 2, 3, 4, 5, 6, 7] rfl ?_; refine WP.mv rfl rfl ?_; refine WP.vl rfl (Yld.nilCheck rfl rfl) ?_; refine WP.vl rfl (Yld.fieldAddr rfl ty_fd_60_0 rfl) ?_; refine WP.vl rfl (Yld.fieldAddr rfl ty_fd_58_0 rfl) ?_; refine WP.mv rfl rfl ?_; refine WP.vl rfl (Yld.makeFunc rfl (vs := [_]) (us := []) rfl rfl) ?_; refine WP.loud rfl rfl ?_; refine Op.cl (txn_goes (b := g)) rfl Tryz.func111 rfl rfl rfl rfl ?_; rintro v J L1 - ⟨rfl, rfl, rfl⟩
   try simp only [nf]
   refine WP.mv rfl rfl ?_; refine WP.nil ?_; refine WP.sub [(0, _), (2, _), (3, _), (27, _), (47, _)] ?_ ⟨rfl, rfl, rfl, rfl, rfl, trivial⟩
   refine WP.next (WP.ret ?_)
   refine WP.fn .ret (.inr rfl) (res1 rfl rfl) ([(g, row 60 (cmV l t (nextV g 3) (.func (.func 53) [.pointer (some ⟨g, 0, none⟩)].toArray [].toArray) z.c (.slice Ac z.c.clear.length cc) (.slice An z.c.ent.nodes.length cn) (.slice Aw z.c.ent.with_.length cw) [.int .u64 (z.tok : Int), .slice Ap z.pages.length cp, .slice Ab z.bytes.length cb, .int .i64 z.place, .slice At z.left.tail.length ct]))] ++ Lt2) hJ2 ?_; have e0 : z.left.tail = [] := List.length_eq_zero_iff.1 (by omega)
   have e : z.puts r = (false, (z.setL []).go 3) := (if_pos (by omega)).trans (if_pos e0)
   have htl2 : RPrs J2 (.slice At z.left.tail.length ct) [] := by have q := htl.mono hJ2; rw [e0] at q ⊢; exact q
   exact ⟨r, tb2, _, _, hpr, by rw [e], rfl, by rw [e]; exact (.mk (hc.mono fun b o q => hJ2.2 b o q) (hn.mono hJ2) (hw.mono (Imv.le hJ2)) hs (hp.mono hJ2) (hb.mono fun b o q => hJ2.2 b o q) htl2 hk), hT2⟩
  ·refine WP.nil ?_
   refine WP.sub [(0, _), (2, _), (3, _), (27, _), (47, _)] ?_ ⟨rfl, rfl, rfl, rfl, rfl, trivial⟩
   refine WP.next ?_; refine WP.condF rfl ?_; refine WP.skip (WP.next (WP.seq ?_))
   refine WP.region [0] rfl ?_; refine WP.mv rfl rfl ?_; refine WP.nil (WP.next (WP.ret ?_))
   refine WP.fn .ret (.inr rfl) (res1 rfl rfl) ([(g, row 60 (cmV l t (nextV g z.at_) (.func (.func 53) [.pointer (some ⟨g, 0, none⟩)].toArray [].toArray) z.c (.slice Ac z.c.clear.length cc) (.slice An z.c.ent.nodes.length cn) (.slice Aw z.c.ent.with_.length cw) [.int .u64 (z.tok : Int), .slice Ap z.pages.length cp, .slice Ab z.bytes.length cb, .int .i64 z.place, .slice At z.left.tail.length ct]))] ++ Lt2) hJ2 ?_; have e0 : ¬ z.left.tail = [] := fun e => h1 (by rw [e]; rfl)
   have e : z.puts r = (false, z.setL z.left.tail) := (if_pos (by omega)).trans (if_neg e0)
   exact ⟨r, tb2, _, _, hpr, by rw [e], rfl, by rw [e]; exact (.mk (hc.mono fun b o q => hJ2.2 b o q) (hn.mono hJ2) (hw.mono (Imv.le hJ2)) hs (hp.mono hJ2) (hb.mono fun b o q => hJ2.2 b o q) (htl.mono hJ2) hk), hT2⟩


def NodesNew (V : Nat → Obj → Prop) (nv : List (Bool × Value)) (l : List (Bool × List UInt8)) (i : Nat) : Prop := ∀ (j : Nat) (x : Bool × Value), j < i → nv[j]? = some x → ∃ d, l[j]? = some (x.1, d) ∧ SlRd V x.2 d.length 1 (bytesV d)
theorem NodesNew.step {V V2 : Nat → Obj → Prop} {nv : List (Bool × Value)} {l : List (Bool × List UInt8)} {i : Nat} (h : NodesNew V nv l i) (hV : ∀ b o, V b o → V2 b o) (hi : i < nv.length) {d : List UInt8} (hd : l[i]? = some (nv[i].1, d)) {v : Value} (hv : SlRd V2 v d.length 1 (bytesV d)) : NodesNew V2 (nv.set i (nv[i].1, v)) l (i + 1) := by
 intro j x hj hx
 by_cases e : j = i
 ·subst e
  rw [List.getElem?_set_self hi] at hx
  cases hx; exact ⟨d, hd, hv⟩
 ·rw [List.getElem?_set_ne (Ne.symm e)] at hx
  obtain ⟨d', h1, h2⟩ := h j x (by omega) hx
  exact ⟨d', h1, h2.mono hV⟩
theorem tab_copiedN {I : Imm} {e : Ent} {cs : List Value} (he : REnt I e cs) (hsz : e.sized) : Spec Tryz.prog 51 [.agg cs.toArray] I [] (fun v J L => ∃ cs', v = .agg cs'.toArray ∧ REnt (J.sub I) e cs' ∧ L = []) := by
 obtain ⟨vn, vw, nv, rfl, hn, hno, hw⟩ := he.ex
 obtain ⟨An, cn, rfl, hcn⟩ := hn.slice'
 obtain ⟨Aw, cw, rfl, hcw⟩ := hw.slice'
 refine Spec.of Tryz.func51 rfl Tryz.ntmps51 (Nat.le_of_ble_eq_true rfl) (fun F => ?_)
 try simp only [nf]
 dsimp only [argsEnv]
 refine WP.seq ?_; refine WP.region [0, 1] rfl ?_; refine WP.loud rfl rfl ?_; refine Op.box rfl rfl rfl rfl rfl (fun bt1 => ?_)
 refine WP.loud rfl rfl ?_; refine Op.alloc rfl rfl rfl ty_zr_43 (fun bt2 => ?_)
 refine WP.nil (WP.next (WP.seq ?_))
 refine WP.region [0, 1, 2, 3, 4] rfl ?_; refine WP.vl rfl (Yld.fieldAddr rfl ty_fd_43_1 rfl) ?_; refine WP.vl rfl (Yld.ld rfl ty_sc_41 rfl rfl) ?_; refine WP.vl rfl (Yld.lenR hn rfl ty_sl_41 rfl) ?_; refine WP.loud rfl rfl ?_; refine Op.make (l := e.nodes.length) (c := e.nodes.length) rfl ty_sl_41 ty_el_41 rfl rfl rfl rfl rfl (Nat.le_refl _) (by have := hsz.nodes; omega) (by have := hsz.nodes; omega) (fun bn => ?_)
 have hzl := zeros_len e.nodes.length 2 (Value.agg #[.bool false, .slice none 0 0]).cells.toList rfl
 generalize (List.replicate e.nodes.length (Value.agg #[.bool false, .slice none 0 0]).cells.toList).flatten = zs at hzl ⊢
 have hnl := hno.len
 refine WP.mv rfl rfl ?_; refine WP.nil ?_; refine WP.sub [(0, _), (1, _), (2, _), (3, _)] ?_ ⟨rfl, rfl, rfl, rfl, trivial⟩
 refine WP.next (WP.seq ?_)
 refine WP.region [0, 1, 2, 3] rfl ?_; refine WP.mv rfl rfl ?_; refine WP.vl rfl (Yld.fieldAddr rfl ty_fd_43_1 rfl) ?_; refine WP.vl rfl (Yld.ld rfl ty_sc_41 rfl rfl) ?_; refine WP.loud rfl rfl ?_; refine Op.copy (k := 0) (m := e.nodes.length) (m2 := e.nodes.length) (q := e.nodes.length) (cs := nv.flatMap ndV) (old := zs) (new := nv.flatMap ndV ++ []) rfl ty_sl_41 rfl rfl rfl rfl (SlAt.blk (Nat.le_refl _)) (hn.mono (fun b o h => .inr h)) (ndV_one nv hno) (Nat.min_self _) (by omega) (by rw [List.append_nil, List.take_of_length_le (by rw [flat_len ndV_len]; omega), splice_all _ _ (by rw [flat_len ndV_len, hzl, hnl])]) (by repeat (first | exact Upd.head | apply Upd.tail | apply Upd.tailS)) ?_; refine WP.nil ?_; refine WP.sub [(0, _), (1, _), (2, _), (3, _)] ?_ ⟨rfl, rfl, rfl, rfl, trivial⟩
 refine WP.next (WP.seq (WP.seq ?_))
 refine WP.region [0, 1, 2] rfl ?_; refine WP.mv rfl rfl ?_; refine WP.vl rfl (Yld.len rfl ty_sl_41 rfl) ?_; refine WP.mv rfl rfl ?_; refine WP.nil (WP.next (WP.block ?_))
 refine WP.loop (X := TCX) (fun t : TCX => [(1, .pointer (some ⟨bt1, 0, none⟩)), (2, .pointer (some ⟨bt2, 0, none⟩)), (3, .slice (some ⟨bn, 0, none⟩) e.nodes.length e.nodes.length), (15, .slice (some ⟨bn, 0, none⟩) e.nodes.length e.nodes.length), (16, .int .i64 (e.nodes.length : Int)), (17, .int .i64 (t.i : Int))]) (fun t => t.J) (fun t : TCX => (bn, row 63 (t.nv.flatMap ndV ++ [])) :: (bt1, row 43 (entV e (.slice An e.nodes.length cn) (.slice Aw e.with_.length cw))) :: (bt2, row 43 (entV zeroEnt (.slice none 0 0) (.slice none 0 0))) :: F) (fun t => t.i ≤ e.nodes.length ∧ I.le t.J ∧ NodesOk (Imv t.J) t.nv e.nodes ∧ NodesNew (Imv (t.J.sub I)) t.nv e.nodes t.i) (fun t => e.nodes.length - t.i) ⟨0, I, nv⟩ ⟨Nat.zero_le _, Imm.le_refl _, hno, fun j x hj => absurd hj (Nat.not_lt_zero _)⟩ ⟨rfl, rfl, rfl, rfl, rfl, rfl, trivial⟩ rfl zP ?_; rintro ⟨i, J, nv2⟩ ⟨hle, hJ, hno2, hnn2⟩
 try dsimp only
 try simp only [nf]
 refine WP.seq ?_; refine WP.region [0] rfl ?_; refine WP.split rfl rfl rfl rfl (Yld.lss rfl rfl rfl) (fun hlt => ?_) (fun hlt => ?_)
 ·simp only at hle hJ hno2 hnn2
  have hnl0 := hsz.nodes
  have hi : i < e.nodes.length := by first | omega | (simp only at hlt; omega)
  have hin : i < nv2.length := by rw [hno2.len]; exact hi
  obtain ⟨d, hd1, hd2⟩ := hno2.at_ i _ (List.getElem?_eq_getElem hin)
  obtain ⟨Ad, cd, hvd, hcd, _⟩ := id hd2
  have hdl := hsz.data _ (List.mem_of_getElem? hd1)
  simp only at hdl
  refine WP.nil (WP.next (WP.seq ?_))
  refine WP.condT rfl ?_; refine WP.skip (WP.next (WP.seq (WP.block (WP.seq ?_))))
  refine WP.region [0, 1, 2, 3, 4, 5] rfl ?_; refine WP.mv rfl rfl ?_; refine WP.vl rfl (Yld.indexAddr (i := i) rfl ty_sl_41 rfl rfl hi) ?_; refine WP.vl rfl (Yld.loadAggC rfl ty_ag_63 rfl (show There _ _ bn (row 63 (nv2.flatMap ndV ++ [])) from zM) (flat_seg ndV_len hin []) rfl) ?_; refine WP.loud rfl rfl ?_; refine Op.alloc rfl rfl rfl ty_zr_63 (fun b5 => ?_)
  refine WP.mv rfl rfl ?_; refine WP.loud rfl rfl ?_; refine Op.sA rfl rfl ty_sz_63 rfl rfl rfl (by simp only [ndV, hvd]; rfl) rfl ?_; refine WP.nil ?_; refine WP.sub [(1, _), (2, _), (3, _), (4, _), (5, _), (15, _), (16, _), (17, _), (18, _)] ?_ ⟨rfl, rfl, rfl, rfl, rfl, rfl, rfl, rfl, rfl, trivial⟩
  refine WP.next (WP.seq ?_)
  refine WP.region [0, 1, 2, 3, 4, 5, 6, 7, 8] rfl ?_; iterate 2 refine WP.mv rfl rfl ?_
  refine WP.vl rfl (Yld.fieldAddr rfl ty_fd_63_1 rfl) ?_; refine WP.vl rfl (Yld.ld rfl ty_sc_49 rfl rfl) ?_; refine WP.vl rfl (Yld.lenR hd2 rfl ty_sl_49 rfl) ?_; refine WP.loud rfl rfl ?_; refine Op.make (l := d.length) (c := d.length) rfl ty_sl_49 ty_el_49 rfl rfl rfl rfl rfl (Nat.le_refl _) (by omega) (by omega) (fun bd => ?_)
  rw [bytesZ]
  refine WP.vl rfl (Yld.indexAddr (i := i) rfl ty_sl_41 rfl rfl hi) ?_; refine WP.vl rfl (Yld.fieldAddr rfl ty_fd_63_1 rfl) ?_; refine WP.loud rfl rfl ?_; refine Op.store1 rfl rfl ty_sz_49 rfl rfl rfl (by repeat (first | exact Upd.head | apply Upd.tail | apply Upd.tailS)) (flat_set ndV_len hin (by decide) [] (nv2[i].1, .slice (some ⟨bd, 0, none⟩) d.length d.length) rfl) ?_; refine WP.nil ?_; refine WP.sub [(1, _), (2, _), (3, _), (4, _), (5, _), (15, _), (16, _), (17, _), (18, _)] ?_ ⟨rfl, rfl, rfl, rfl, rfl, rfl, rfl, rfl, rfl, trivial⟩
  refine WP.next ?_; refine WQ.start Tryzmixed 7 zK _ rfl [7] rfl ?_; iterate 2 refine WQ.val rfl rfl rfl (Yld.move rfl rfl) ?_
  refine WQ.val rfl rfl rfl (Yld.indexAddr (i := i) rfl ty_sl_41 rfl rfl hi) ?_; refine WQ.val rfl rfl rfl (Yld.fieldAddr rfl ty_fd_63_1 rfl) ?_; refine WQ.val rfl rfl rfl (Yld.ld rfl ty_sc_49 rfl (flat_at ndV_len (l := nv2.set i (nv2[i].1, .slice (some ⟨bd, 0, none⟩) d.length d.length)) (j := 1) (by simpa using hin) (by decide) [] (by simp only [List.getElem_set_self]; rfl))) ?_; refine WQ.val rfl rfl rfl (Yld.fieldAddr rfl ty_fd_63_1 rfl) ?_; refine WQ.val rfl rfl rfl (Yld.ld rfl ty_sc_49 rfl rfl) ?_; refine WQ.nil ?_; refine WP.loud rfl rfl ?_; refine Op.copyB (k := 0) (m := d.length) (m2 := d.length) (q := d.length) (old := List.replicate d.length 0) (new := d) (s := d) rfl ty_sl_49 rfl rfl rfl rfl (SlAt.blk (Nat.le_refl _)) (hd2.mono (fun b o h => .inr h)) (Nat.min_self _) (by simp) (by simp) (by repeat (first | exact Upd.head | apply Upd.tail | apply Upd.tailS)) ?_; refine WP.nil ?_; refine WP.sub [(1, _), (2, _), (3, _), (4, _), (5, _), (15, _), (16, _), (17, _), (18, _)] ?_ ⟨rfl, rfl, rfl, rfl, rfl, rfl, rfl, rfl, rfl, trivial⟩
  have hob := Own.blk (T := 5) (sz := 1) (b := bd) (cap := d.length) (n := d.length) (xs := bytesV d) (sp := []) (by rw [bytesV_len, Nat.mul_one]) (by rw [bytesV_len]; simp) (Nat.le_refl _)
  rw [List.append_nil] at hob
  refine WP.shareOwnN hob zT (fun J2 hJ2 hd9s _ => ?_)
  have hd9 := hd9s.mono (fun b o h => (Imm.sub_le _ _).2 _ _ h)
  refine WP.leave (WP.next ?_)
  refine WP.region [0, 1] rfl ?_; refine WP.vl rfl (Yld.add64 rfl rfl rfl (by omega)) ?_; refine WP.mv rfl rfl ?_; refine WP.nil ?_; refine WP.sub [(1, _), (2, _), (3, _), (4, _), (5, _), (15, _), (16, _), (17, _), (18, _)] ?_ ⟨rfl, rfl, rfl, rfl, rfl, rfl, rfl, rfl, rfl, trivial⟩
  exact WP.ag ⟨i + 1, J2, nv2.set i (nv2[i].1, .slice (some ⟨bd, 0, none⟩) d.length d.length)⟩ ⟨hi, Imm.le_trans hJ hJ2, (hno2.mono (Imv.le hJ2)).set hin hd1 hd9, hnn2.step (fun b o h => (Imm.sub_up hJ2 I).2 _ _ h) hin hd1 (hd9s.mono (fun b o h => (Imm.sub_down hJ _).2 _ _ h))⟩ (by simp only; omega) ⟨rfl, rfl, rfl, rfl, rfl, rfl, trivial⟩ rfl
 ·simp only at hle hJ hno2 hnn2
  have hnl2 := hno2.len
  refine WP.shareOwnN (Own.blk (T := 63) (sz := 2) (b := bn) (cap := e.nodes.length) (n := e.nodes.length) (xs := nv2.flatMap ndV) (sp := []) (by rw [flat_len ndV_len, hnl2]) (by rw [flat_len ndV_len, hnl2]; rfl) (Nat.le_refl _)) zT (fun J3 hJ3 hn3s _ => ?_)
  have hn3 := hn3s.mono (fun b o h => (Imm.sub_le _ _).2 _ _ h)
  have hno3 := hno2.mono (Imv.le hJ3)
  have hw3 := hw.mono (Imv.le (Imm.le_trans hJ hJ3))
  refine WP.nil (WP.next (WP.seq ?_))
  refine WP.condF rfl ?_; refine WP.exit (WP.thenE (WP.thenE (WP.hit (WP.next (WP.seq ?_)))))
  refine WP.region [0, 1, 2] rfl ?_; refine WP.mv rfl rfl ?_; refine WP.vl rfl (Yld.fieldAddr rfl ty_fd_43_1 rfl) ?_; refine WP.loud rfl rfl ?_; refine Op.s1 rfl rfl ty_sz_41 rfl rfl rfl ?_; refine WP.nil ?_; refine WP.sub [(1, _), (2, _), (3, _), (15, _), (16, _), (17, _), (18, _)] ?_ ⟨rfl, rfl, rfl, rfl, rfl, rfl, rfl, trivial⟩
  refine WP.next (WP.seq ?_)
  refine WP.region [0, 1, 2, 3, 4] rfl ?_; refine WP.vl rfl (Yld.fieldAddr rfl ty_fd_43_8 rfl) ?_; refine WP.vl rfl (Yld.ld rfl ty_sc_22 rfl rfl) ?_; refine WP.vl rfl (Yld.lenR hw3 rfl ty_sl_22 rfl) ?_; refine WP.loud rfl rfl ?_; refine Op.make (l := e.with_.length) (c := e.with_.length) rfl ty_sl_22 ty_el_22 rfl rfl rfl rfl rfl (Nat.le_refl _) (by have := hsz.with_; omega) (by have := hsz.with_; omega) (fun bw => ?_)
  rw [intsZ]
  refine WP.mv rfl rfl ?_; refine WP.nil ?_; refine WP.sub [(1, _), (2, _), (3, _), (6, _), (15, _), (16, _), (17, _), (18, _)] ?_ ⟨rfl, rfl, rfl, rfl, rfl, rfl, rfl, rfl, trivial⟩
  refine WP.next (WP.seq ?_)
  refine WP.region [0, 1, 2, 3] rfl ?_; refine WP.mv rfl rfl ?_; refine WP.vl rfl (Yld.fieldAddr rfl ty_fd_43_8 rfl) ?_; refine WP.vl rfl (Yld.ld rfl ty_sc_22 rfl rfl) ?_; refine WP.loud rfl rfl ?_; refine Op.copy (k := 0) (m := e.with_.length) (m2 := e.with_.length) (q := e.with_.length) (cs := e.with_.map (Value.int .i64)) (old := (List.replicate e.with_.length (0 : Int)).map (Value.int .i64)) (new := e.with_.map (Value.int .i64) ++ []) rfl ty_sl_22 rfl rfl rfl rfl (SlAt.blk (Nat.le_refl _)) (hw3.mono (fun b o h => .inr h)) (ints_one _) (Nat.min_self _) (by simp) (by rw [List.append_nil, List.take_of_length_le (by simp), splice_all _ _ (by simp)]) (by repeat (first | exact Upd.head | apply Upd.tail | apply Upd.tailS)) ?_; refine WP.nil ?_; refine WP.sub [(1, _), (2, _), (3, _), (6, _), (15, _), (16, _), (17, _), (18, _)] ?_ ⟨rfl, rfl, rfl, rfl, rfl, rfl, rfl, rfl, trivial⟩
  refine WP.shareOwnN (Own.blk (T := 3) (sz := 1) (b := bw) (cap := e.with_.length) (n := e.with_.length) (xs := e.with_.map (Value.int .i64)) (sp := []) (by simp) (by simp) (Nat.le_refl _)) zT (fun J4 hJ4 hw4s _ => ?_)
  have hw4 := hw4s.mono (fun b o h => (Imm.sub_le _ _).2 _ _ h)
  have hn4 := hn3.mono (fun b o h => hJ4.2 b o h)
  have hno4 := hno3.mono (Imv.le hJ4)
  refine WP.next (WP.seq ?_)
  refine WP.region [0, 1, 2] rfl ?_; refine WP.mv rfl rfl ?_; refine WP.vl rfl (Yld.fieldAddr rfl ty_fd_43_8 rfl) ?_; refine WP.loud rfl rfl ?_; refine Op.s1 rfl rfl ty_sz_22 rfl rfl rfl ?_; refine WP.nil ?_; refine WP.sub [(1, _), (2, _), (3, _), (6, _), (15, _), (16, _), (17, _), (18, _)] ?_ ⟨rfl, rfl, rfl, rfl, rfl, rfl, rfl, rfl, trivial⟩
  refine WP.next (WP.seq ?_)
  refine WP.region [0, 1] rfl ?_; refine WP.vl rfl (Yld.lda rfl ty_ag_43 rfl rfl) ?_; refine WP.loud rfl rfl ?_; refine Op.sA rfl rfl ty_sz_43 rfl rfl rfl rfl rfl ?_; refine WP.nil ?_; refine WP.sub [(1, _), (2, _), (3, _), (6, _), (15, _), (16, _), (17, _), (18, _)] ?_ ⟨rfl, rfl, rfl, rfl, rfl, rfl, rfl, rfl, trivial⟩
  refine WP.next (WP.ret ?_)
  refine WP.fn .ret (.inr rfl) (resC rfl ty_ag_43 rfl zM rfl) [] (Imm.le_trans hJ (Imm.le_trans hJ3 hJ4)) ?_; have hIJ3 := Imm.le_trans hJ hJ3
  have hb := hn3s.mono (fun b o h => (Imm.sub_down hJ _).2 _ _ ((Imm.sub_up hJ4 J).2 _ _ h))
  have hw5 := hw4s.mono (fun b o h => (Imm.sub_down hIJ3 _).2 _ _ h)
  have hno5 : NodesOk (Imv (J4.sub I)) nv2 e.nodes := ⟨hno2.len, fun j x hx => by have hlt2 : j < nv2.length := (List.getElem?_eq_some_iff.1 hx).1; obtain ⟨d, h1, h2⟩ := hnn2 j x (by have := hno2.len; omega) hx; exact ⟨d, h1, h2.mono (fun b o h => (Imm.sub_up (Imm.le_trans hJ3 hJ4) I).2 _ _ h)⟩⟩
  exact ⟨_, rfl, ⟨_, _, nv2, rfl, hb, hno5, hw5⟩, rfl⟩

theorem tab_freshN {I : Imm} {t q : Nat} {x : Tb} {L : Chunks} (hd : IsTab I t q x L) {e : Ent} {cs : List Value} (he : REnt I e cs) (hsz : e.sized) (htk : x.tok + 1 < 18446744073709551616) : Spec Tryz.prog 107 [.pointer (some ⟨t, 0, none⟩), .agg cs.toArray] I L (fun v J L' => ∃ b, v = .pointer (some ⟨b, 0, none⟩) ∧ entOk (J.sub I) (b, { e with tok := x.tok + 1 }) ∧ IsTab J t q ({ x with tok := x.tok + 1 } : Tb) L') := by
 cases hd with | mk ok ow =>
 obtain ⟨bv, cv, spv, rfl, rfl, hcv, hnv⟩ := ow.get (by have := ok.n1; omega)
 have hn1 := ok.n1
 have hn2 := ok.n2
 have he0 := he
 obtain ⟨vn, vw, nv, rfl, hn, hno, hw⟩ := he.ex
 obtain ⟨An, cn, rfl, hcn⟩ := hn.slice'
 obtain ⟨Aw, cw, rfl, hcw⟩ := hw.slice'
 refine Spec.of Tryz.func107 rfl Tryz.ntmps107 (Nat.le_of_ble_eq_true rfl) (fun F => ?_)
 try simp only [nf]
 dsimp only [argsEnv]
 refine WP.seq ?_; refine WP.region [0, 1] rfl ?_; refine WP.loud rfl rfl ?_; refine Op.box rfl rfl rfl rfl rfl (fun b3 => ?_)
 refine WP.mv rfl rfl ?_; refine WP.nil (WP.next (WP.seq ?_))
 refine WP.region [0, 1, 2, 3, 4, 5, 6, 7] rfl ?_; refine WP.mv rfl rfl ?_; refine WP.vl rfl (Yld.nilCheck rfl rfl) ?_; refine WP.vl rfl (Yld.fieldAddr rfl ty_fd_124_1 rfl) ?_; refine WP.vl rfl (Yld.ld rfl ty_sc_40 rfl rfl) ?_; refine WP.vl rfl (Yld.addU1 x.tok rfl rfl rfl htk) ?_; refine WP.vl rfl (Yld.nilCheck rfl rfl) ?_; refine WP.vl rfl (Yld.fieldAddr rfl ty_fd_124_1 rfl) ?_; refine WP.loud rfl rfl ?_; refine Op.s1 rfl rfl ty_sz_40 rfl rfl rfl ?_; refine WP.nil ?_; refine WP.sub [(0, _), (1, _), (3, _), (4, _)] ?_ ⟨rfl, rfl, rfl, rfl, trivial⟩
 refine WP.next (WP.seq ?_)
 refine WP.region [0, 1, 2] rfl ?_; refine WP.vl rfl (Yld.lda rfl ty_ag_43 rfl rfl) ?_; refine WP.loud rfl rfl ?_; refine Op.cl (tab_copiedN he0 hsz) rfl Tryz.func51 rfl rfl rfl rfl ?_; rintro v J2 L1 hJ2 ⟨cs2, rfl, hre2, rfl⟩
 try simp only [nf]
 obtain ⟨vn2, vw2, nv2, rfl, hn2, hno2, hw2⟩ := hre2.ex
 obtain ⟨An2, cn2, rfl, hcn2⟩ := hn2.slice'
 obtain ⟨Aw2, cw2, rfl, hcw2⟩ := hw2.slice'
 refine WP.loud rfl rfl ?_; refine Op.sA rfl rfl ty_sz_43 rfl rfl rfl rfl rfl ?_; refine WP.nil ?_; refine WP.sub [(0, _), (1, _), (3, _), (4, _)] ?_ ⟨rfl, rfl, rfl, rfl, trivial⟩
 refine WP.next (WP.seq ?_)
 refine WP.region [0, 1, 2, 3, 4, 5] rfl ?_; refine WP.mv rfl rfl ?_; refine WP.vl rfl (Yld.nilCheck rfl rfl) ?_; refine WP.vl rfl (Yld.fieldAddr rfl ty_fd_124_1 rfl) ?_; refine WP.vl rfl (Yld.ld rfl ty_sc_40 rfl rfl) ?_; refine WP.vl rfl (Yld.fieldAddr rfl ty_fd_43_0 rfl) ?_; refine WP.loud rfl rfl ?_; refine Op.s1 rfl rfl ty_sz_40 rfl rfl rfl ?_; refine WP.nil ?_; refine WP.sub [(0, _), (1, _), (3, _), (4, _)] ?_ ⟨rfl, rfl, rfl, rfl, trivial⟩
 refine WP.perm _ (show Take _ [(b3, _)] _ from zT).perm ?_; refine WP.shareN (fun J3 hJ3 h03 hb3 => ?_)
 refine WP.next (WP.seq ?_)
 refine WP.region [0] rfl ?_; refine WP.mv rfl rfl ?_; refine WP.nil (WP.next (WP.ret ?_))
 refine WP.fn .ret (.inr rfl) (res1 rfl rfl) ((t, row 124 [.pointer (some ⟨q, 0, none⟩), .int .u64 (({ x with tok := x.tok + 1 } : Tb).tok : Int), .slice (some ⟨bv, 0, none⟩) ({ x with tok := x.tok + 1 } : Tb).cks.length cv, .int .i64 ({ x with tok := x.tok + 1 } : Tb).next]) :: ((bv, row 184 (ckps ({ x with tok := x.tok + 1 } : Tb).cks ++ spv)) :: ({ x with tok := x.tok + 1 } : Tb).cks.flatMap ckCh)) (Imm.le_trans hJ2 hJ3) ?_; have hsu := Imm.sub_up hJ3 I
 have hb4 := (Imm.sub_down hJ2 _).2 _ _ (Imm.sub_self hb3 h03)
 exact ⟨b3, rfl, ⟨hsz.tok _, _, hb4, ⟨_, _, nv2, rfl, hn2.mono (Imv.le hsu), hno2.mono (Imv.le hsu), hw2.mono (Imv.le hsu)⟩⟩, IsTab.mk (x := ({ x with tok := x.tok + 1 } : Tb)) ((ok.mono (Imm.le_trans hJ2 hJ3)).tok _) ow⟩

theorem tabT_Swap1bN {I0 I : Imm} {t : Nat} {x : Tb} {L : Chunks} (hT : IsT I0 t x L) (hle : I0.le I) {p : Int} {tk : Nat} {e0 : Nat × Ent} {i j : Nat} (hp : p = (i : Int) * 16 + j + 1) (hj : j < 16) (hi : i < x.cks.length) (hg : x.get p = some e0) {e : Ent} {cs : List Value} (he : REnt I e cs) (hsz : e.sized) (htk : x.tok + 1 < 18446744073709551616) (heq : e0.2.tok = tk) : Spec Tryz.prog 83 [.pointer (some ⟨t, 0, none⟩), .int .i64 p, .int .u64 (tk : Int), .agg cs.toArray] I L (fun v J L' => ∃ (r : Int) (x' : Tb) (J0 : Imm), v = .int .i64 r ∧ SwR x p tk e r x' ∧ I0.le J0 ∧ J0.le J ∧ (∀ b, I.blk b ≠ none → I0.blk b = none → J0.blk b = none) ∧ IsT J0 t x' L') := by
 cases hT with | @mk q c vc l s sw m a Lt hd =>
 have ok0 : x.ok I0 := by cases hd with | mk ok ow => exact ok
 have hd := hd.mono hle
 have he0 := he
 obtain ⟨vn, vw, nv, rfl, hn, hno, hw⟩ := he.ex
 obtain ⟨An, cn, rfl, hcn⟩ := hn.slice'
 obtain ⟨Aw, cw, rfl, hcw⟩ := hw.slice'
 obtain ⟨hes, es, hbe, hre⟩ := hd.entOk hg
 have hre' := hre
 obtain ⟨vn0, vw0, nv0, rfl, _, _, _⟩ := hre'.ex
 cases hd with | mk ok ow =>
 obtain ⟨bv, cv, spv, rfl, rfl, hcv, hnv⟩ := ow.get (by have := ok.n1; omega)
 have hn1 := ok.n1
 have hn2 := ok.n2
 refine Spec.of Tryz.func83 rfl Tryz.ntmps83 (Nat.le_of_ble_eq_true rfl) (fun F => ?_)
 try simp only [nf]
 dsimp only [argsEnv]
 refine WP.seq ?_; refine WP.region [0, 1] rfl ?_; refine WP.loud rfl rfl ?_; refine Op.box rfl rfl rfl rfl rfl (fun b7 => ?_)
 refine WP.mv rfl rfl ?_; refine WP.nil (WP.next (WP.seq ?_))
 refine WP.region [0, 1, 2, 3] rfl ?_; iterate 2 refine WP.mv rfl rfl ?_
 refine WP.loud rfl rfl ?_; refine Op.cl (tab_find (IsTab.mk ok ow)) rfl Tryz.func48 rfl rfl rfl rfl ?_; rintro v J L1 - ⟨rfl, rfl, rfl⟩
 try simp only [nf]
 rw [hg]
 refine WP.mv rfl rfl ?_; refine WP.nil ?_; refine WP.sub [(0, _), (1, _), (2, _), (3, _), (7, _), (8, _), (9, _)] ?_ ⟨rfl, rfl, rfl, rfl, rfl, rfl, rfl, trivial⟩
 refine WP.next (WP.seq (WP.block (WP.seq ?_)))
 refine WP.region [0, 1, 2] rfl ?_; refine WP.mv rfl rfl ?_; refine WP.vl rfl (Yld.eqlNil rfl ty_pt_118 rfl rfl) ?_; refine WP.mv rfl rfl ?_; refine WP.nil ?_; refine WP.sub [(0, _), (1, _), (2, _), (3, _), (7, _), (8, _), (9, _), (13, _)] ?_ ⟨rfl, rfl, rfl, rfl, rfl, rfl, rfl, rfl, trivial⟩
 refine WP.next ?_; refine WP.condF rfl ?_; refine WP.seq ?_; refine WP.region [0, 1, 2, 3] rfl ?_; refine WP.vl rfl (Yld.lda rfl ty_ag_43 rfl rfl) ?_; refine WP.loud rfl rfl ?_; refine Op.cl (tab_may he0 hsz) rfl Tryz.func137 rfl rfl rfl rfl ?_; rintro v J L1 - ⟨bm, rfl, hbm, rfl, rfl⟩
 try simp only [nf]
 by_cases hm : bm = true
 ·try rw [hm]
  refine WP.vl rfl (Yld.not rfl rfl) ?_; refine WP.mv rfl rfl ?_; refine WP.nil ?_; refine WP.sub [(0, _), (1, _), (2, _), (3, _), (7, _), (8, _), (9, _), (13, _), (16, _)] ?_ ⟨rfl, rfl, rfl, rfl, rfl, rfl, rfl, rfl, rfl, trivial⟩
  refine WP.next ?_; refine WP.condF rfl ?_; refine WP.seq ?_; refine WD.start Tryzmixed 13 (There I _) (fun _ _ => False) (fun _ _ h => h) (fun _ _ h => h.elim) 18 [false, false, false, false, false, false, false, false, false, false, false, false, false, false, false, false, false, false] rfl rfl ?_; refine WD.vl (i := 0) rfl (Yld.move rfl rfl) ?_; refine WD.vl (i := 1) rfl (Yld.nilCheck rfl rfl) ?_; refine WD.vl (i := 2) rfl (Yld.fieldAddr rfl ty_fd_43_0 rfl) ?_; refine WD.val1 (i := 3) rfl rfl rfl rfl zK rfl zK (Yld.load rfl ty_sc_40 rfl (.inl zM) rfl) ?_; refine WD.vl (i := 4) rfl (Yld.move rfl rfl) ?_; refine WD.vl (i := 5) rfl (Yld.neq rfl rfl rfl false (decide_eq_false (by omega))) ?_; refine WD.vl (i := 6) rfl (Yld.move rfl rfl) ?_; refine WD.valG (i := 7) rfl rfl rfl rfl rfl rfl rfl zK rfl (Yld.move rfl rfl) ?_; refine WD.valG (i := 8) rfl rfl rfl rfl rfl rfl rfl zK rfl (Yld.move rfl rfl) ?_; refine WD.valG (i := 10) rfl rfl rfl rfl rfl rfl rfl zK rfl (Yld.move rfl rfl) ?_; refine WD.valG (i := 11) rfl rfl rfl rfl rfl rfl rfl zK rfl (Yld.move rfl rfl) ?_; refine WD.val1G (i := 12) rfl rfl rfl rfl rfl rfl rfl zK rfl zK (Yld.loadAll rfl ty_ag_43 rfl (.inl zM) rfl) ?_; refine WD.loudG (i := 9) zK rfl rfl rfl rfl rfl rfl ?_; refine Op.cl (tab_at1 (IsTab.mk ok ow) hp hj hi) rfl Tryz.func103 rfl rfl rfl rfl ?_; rintro v J L1 - ⟨rfl, rfl, rfl⟩
  try simp only [nf]
  refine WD.go (.inr (fun _ _ h => h)) (fun _ _ h => h.elim) ?_; refine WD.loudG (i := 13) zK rfl rfl rfl rfl rfl rfl ?_; refine Op.cl (tab_freshN (IsTab.mk ok ow) he0 hsz htk) rfl Tryz.func107 rfl rfl rfl rfl ?_; rintro v J2 L9 hJ2 ⟨b9, rfl, hb9s, hy4⟩
  try simp only [nf]
  have hb9 := hb9s.mono (Imm.sub_le _ _)
  generalize hz : ({ x with tok := x.tok + 1 } : Tb) = z at hy4
  have hzc : z.cks = x.cks := by rw [← hz]
  have ok0z : z.ok (J2.cut I0 I) := by rw [← hz]; exact (ok0.mono (Imm.le_cut (Imm.le_trans hle hJ2))).tok _
  have hzt : z.tok = x.tok + 1 := by rw [← hz]
  have hzn : z.next = x.next := by rw [← hz]
  have hiz : i < z.cks.length := by rw [hzc]; exact hi
  have hzi : z.cks[i].1 = x.cks[i].1 := by simp only [hzc]
  have hzg : ∀ k, z.get k = x.get k := fun k => by simp only [Tb.get, hzc]
  have hzs : z.size = x.size := by simp only [Tb.size, hzc]
  have hcell : z.cks[i].2 j = some e0 := by rw [← Tb.get_at hp hj hiz, hzg, hg]
  obtain ⟨_, es9, hbe9, hre9⟩ := id hb9
  rw [← hzi]
  cases hy4 with | mk ok4 ow4 => _
  obtain ⟨bv4, cv4, spv4, rfl, rfl, hcv4, hnv4⟩ := ow4.get (by have := ok4.n1; omega)
  simp only [nf]
  refine WP.outL (f := ckCh) (l := z.cks) i hiz (by repeat (first | exact Rm.chunk | exact Rm.here | exact Rm.nil0 | apply Rm.skip | apply Rm.skipS)) ?_; simp only [ckCh, List.cons_append, List.nil_append]
  refine WD.go (.inl rfl) (fun _ _ h => h.elim) ?_; refine WD.loudG (i := 14) zK rfl rfl rfl rfl rfl rfl ?_; refine Op.cl (slot_CAS (b1 := e0.1) (ckV_at' hj hcell) (hJ2.2 _ _ hbe) rfl hbe9 hre9.cells.1 (ckV_set' hj (some (b9, { e with tok := x.tok + 1 })))) rfl Tryz.func138 rfl rfl rfl rfl ?_; rintro v J L1 - ⟨rfl, rfl, rfl⟩
  try simp only [nf]
  refine WP.backL (f := ckCh) (l := z.cks) i hiz (z.cks[i].1, putSl z.cks[i].2 j (some (b9, { e with tok := x.tok + 1 }))) zT (by repeat (first | exact Rm.chunk | exact Rm.here | exact Rm.nil0 | apply Rm.skip | apply Rm.skipS)) ?_; refine WD.go (.inl rfl) (fun _ _ h => h.elim) ?_; refine WD.valG (i := 15) rfl rfl rfl rfl rfl rfl rfl zK rfl (Yld.not rfl rfl) ?_; refine WD.vl (i := 16) rfl (Yld.pickF rfl rfl rfl) ?_; refine WD.vl (i := 17) rfl (Yld.assign rfl rfl) ?_; refine WD.done zK ?_; refine WP.sub [(0, _), (1, _), (2, _), (3, _), (7, _), (8, _), (9, _), (13, _), (16, _), (20, _)] ?_ ⟨rfl, rfl, rfl, rfl, rfl, rfl, rfl, rfl, rfl, rfl, trivial⟩
  refine WP.next ?_; refine WP.condF rfl ?_; refine WP.skip (WP.leave (WP.next (WP.seq ?_)))
  refine WP.region [0, 1, 2, 3, 4] rfl ?_; refine WP.mv rfl rfl ?_; refine WP.vl rfl (Yld.nilCheck rfl rfl) ?_; refine WP.vl rfl (Yld.fieldAddr rfl ty_fd_124_0 rfl) ?_; refine WP.vl rfl (Yld.ld rfl ty_sc_121 rfl rfl) ?_; refine WP.loud rfl rfl ?_; refine Op.cl cell_CAS rfl Tryz.func139 rfl rfl rfl rfl ?_; rintro v J L1 - ⟨rfl, rfl, rfl⟩
  try simp only [nf]
  refine WP.nil ?_; refine WP.sub [(0, _), (1, _), (2, _), (3, _), (7, _), (8, _), (9, _), (13, _), (16, _), (20, _)] ?_ ⟨rfl, rfl, rfl, rfl, rfl, rfl, rfl, rfl, rfl, rfl, trivial⟩
  refine WP.next (WP.seq ?_)
  refine WP.region [0] rfl ?_; refine WP.mv rfl rfl ?_; refine WP.nil (WP.next (WP.ret ?_))
  refine WP.fn .ret (.inr rfl) (res1 rfl rfl) ((q, row 204 [.int .i64 (if vc = 0 then 0 else vc), .pointer (some ⟨c, 0, none⟩)]) :: (c, row 202 [.int .i64 l, .int .i64 s, .int .i64 (if vc = 0 then (IntKind.i64.wrap (sw + 1)) else sw), .int .i64 (if vc = 0 then m else (IntKind.i64.wrap (m + 1))), .int .i64 a]) :: ((t, row 124 [.pointer (some ⟨q, 0, none⟩), .int .u64 (z.tok : Int), .slice (some ⟨bv4, 0, none⟩) z.cks.length cv4, .int .i64 z.next]) :: ((bv4, row 184 (ckps z.cks ++ spv4)) :: (z.cks.set i (z.cks[i].1, putSl z.cks[i].2 j (some (b9, { e with tok := x.tok + 1 })))).flatMap ckCh))) hJ2 ?_; refine ⟨_, z.setAt i j hiz (some (b9, { e with tok := x.tok + 1 })), J2.cut I0 I, rfl, .inr ⟨e0, hg, .inr (.inr ⟨hbm.1 hm, heq, rfl, ⟨hzt, hzn, ?_, b9, fun k => ?_⟩⟩)⟩, Imm.le_cut (Imm.le_trans hle hJ2), Imm.cut_le _ _ _, fun b h h0 => Imm.cut_none h h0, .mk (IsTab.setAt ok0z ow4 hiz (o := some (b9, { e with tok := x.tok + 1 })) (fun e' he' => by cases he'; exact hb9s.mono (Imm.sub_cut _ _ _)))⟩
  ·simp only [Tb.size, Tb.setAt, List.length_set] at *; omega
  ·rw [Tb.setAt_get hiz hp hj, hzg]
 ·have hm : bm = false := eq_false_of_ne_true hm
  try rw [hm]
  refine WP.vl rfl (Yld.not rfl rfl) ?_; refine WP.mv rfl rfl ?_; refine WP.nil ?_; refine WP.sub [(0, _), (1, _), (2, _), (3, _), (7, _), (8, _), (9, _), (13, _), (16, _)] ?_ ⟨rfl, rfl, rfl, rfl, rfl, rfl, rfl, rfl, rfl, trivial⟩
  refine WP.next ?_; refine WP.condT rfl ?_; refine WP.seq ?_; refine WP.region [0] rfl ?_; refine WP.mv rfl rfl ?_; refine WP.nil (WP.next (WP.ret ?_))
  refine WP.fn .ret (.inr rfl) (res1 rfl rfl) ((q, row 204 [.int .i64 vc, .pointer (some ⟨c, 0, none⟩)]) :: (c, row 202 [.int .i64 l, .int .i64 s, .int .i64 sw, .int .i64 m, .int .i64 a]) :: ((t, row 124 [.pointer (some ⟨q, 0, none⟩), .int .u64 (x.tok : Int), .slice (some ⟨bv, 0, none⟩) x.cks.length cv, .int .i64 x.next]) :: ((bv, row 184 (ckps x.cks ++ spv)) :: x.cks.flatMap ckCh))) (Imm.le_refl _) ?_; exact ⟨_, x, I0, rfl, .inr ⟨e0, hg, .inl ⟨fun h => (by have := hbm.2 h; rw [hm] at this; cases this), rfl, rfl⟩⟩, Imm.le_refl _, hle, fun b h h0 => h0, .mk (.mk ok0 ow)⟩


theorem IsT.down {I I0 : Imm} {t : Nat} {x : Tb} {L L0 : Chunks} (h : IsT I t x L) (h0 : IsT I0 t x L0) : IsT I0 t x L := by
 cases h0 with | mk h0 => cases h0 with | mk ok0 ow0 => cases h with | mk h => cases h with | mk ok ow => exact .mk (.mk ok0 ow)
theorem tabT_SwapN {I0 I : Imm} {t : Nat} {x : Tb} {L : Chunks} (hT : IsT I0 t x L) (hle : I0.le I) {p : Int} {tk : Nat}  {e : Ent} {cs : List Value} (he : REnt I e cs) (hsz : e.sized) (htk : x.tok + 1 < 18446744073709551616) : Spec Tryz.prog 83 [.pointer (some ⟨t, 0, none⟩), .int .i64 p, .int .u64 (tk : Int), .agg cs.toArray] I L (fun v J L' => ∃ (r : Int) (x' : Tb) (J0 : Imm), v = .int .i64 r ∧ SwR x p tk e r x' ∧ I0.le J0 ∧ J0.le J ∧ (∀ b, I.blk b ≠ none → I0.blk b = none → J0.blk b = none) ∧ IsT J0 t x' L') := by
 cases hg : x.get p with
 | none => exact (tabT_Swap0 (hT.mono hle) he hg).mono (by rintro v J L' _ ⟨rfl, rfl, rfl⟩; exact ⟨_, x, I0, rfl, .inl ⟨hg, rfl, rfl⟩, Imm.le_refl _, hle, fun b h h0 => h0, hT⟩)
 | some e0 =>
  obtain ⟨i, j, h1, h2, h3⟩ := Tb.split (Tb.in_of_get hg)
  by_cases ht : e0.2.tok = tk
  ·exact tabT_Swap1bN hT hle h1 h2 h3 hg he hsz htk ht
  ·exact (tabT_Swap1a (hT.mono hle) h1 h2 h3 hg he hsz htk ht).mono (by
    rintro v J L' _ (⟨q1, rfl, rfl, h4⟩ | ⟨q1, q2, rfl, rfl, h4⟩ | ⟨_, q2, _⟩)
    ·exact ⟨_, x, I0, rfl, .inr ⟨e0, hg, .inl ⟨q1, rfl, rfl⟩⟩, Imm.le_refl _, hle, fun b h h0 => h0, h4.down hT⟩
    ·exact ⟨_, x, I0, rfl, .inr ⟨e0, hg, .inr (.inl ⟨q1, q2, rfl, rfl⟩)⟩, Imm.le_refl _, hle, fun b h h0 => h0, h4.down hT⟩
    ·exact absurd q2 ht)

def otherP (l : List (Pr × Value)) : List Int := (thoseL l 1 true).map (·.1.page)
def headPr : List (Pr × Value) → Pr
 | [] => ⟨0, 0, []⟩
 | x :: _ => x.1
theorem headPr_eq {l : List (Pr × Value)} (h : 0 < l.length) : headPr l = l[0].1 := by cases l with | nil => exact absurd h (Nat.lt_irrefl _) | cons a l => rfl
def Gp.p0 (z : Gp) : Pr := headPr z.pages
theorem Gp.p0_eq {z : Gp} (h : 0 < z.pages.length) : z.p0 = z.pages[0].1 := headPr_eq h
/-- What the first page's entry becomes. -/
def Gp.firstE (z : Gp) : Ent := { becE z.pages z.c.txn z.place z.p0 with with_ := otherP z.pages }
def Gp.swaps (z : Gp) (r : Int) : Bool × Gp := if r = 0 then (false, (z.setC { z.c with clear := otherP z.pages ++ [z.p0.page] }).go 4) else (true, z.fin r)
structure SgX where
 i : Nat
 v : Value
 L : Chunks
theorem txn_swaps {I : Imm} {g l t : Nat} {z : Gp} {Lgr : Chunks} (hg : IsGr I g l t z Lgr) {tb : Tb} {Lt : Chunks} (hT : IsT I t tb Lt) (h1p : 0 < z.pages.length) (hsz : z.firstE.sized) (htk : tb.tok + 1 < 18446744073709551616) : Spec Tryz.prog 156 [.pointer (some ⟨g, 0, none⟩)] I (Lgr ++ Lt) (fun v J L => ∃ r tb2 Lg2 Lt2, SwR tb z.p0.page z.tok z.firstE r tb2 ∧ v = .bool (z.swaps r).1 ∧ L = Lg2 ++ Lt2 ∧ IsGr J g l t (z.swaps r).2 Lg2 ∧ IsT J t tb2 Lt2) := by
 cases hg with
 | @mk vc vn vw vp vb vl hc hn hw hs hp hb hl hk =>
 obtain ⟨Ac, cc, rfl, hcc, _, _⟩ := id hc
 obtain ⟨nvn, hn1, hn2⟩ := id hn.ex
 obtain ⟨An, cn, rfl, _⟩ := hn1.slice'
 obtain ⟨Aw, cw, rfl, _⟩ := hw.slice'
 obtain ⟨Ap, cp, rfl, hcp, _, _⟩ := id hp.rd
 obtain ⟨Ab, cb, rfl, _⟩ := id hb
 obtain ⟨Al, cl, rfl, hcl, _, _⟩ := id hl.rd
 obtain ⟨bl, kl, Tl, fl, arl, ea, hbi, hcp0, hcp1⟩ := hp.page h1p
 obtain ⟨nvl, hnl1, hnl2⟩ := id (hp.el _ (List.getElem_mem h1p)).ex
 have hrp : (z.pages[0]'h1p).2.oneCell' = true := by obtain ⟨A, c, e, _⟩ := hnl1; rw [e]; rfl
 rw [Gp.p0_eq h1p]
 have hfe : ∀ {dl : List (Pr × Value)} {J5 : Imm} {Ao : Option Addr} {co : Nat}, dl = thoseL z.pages 1 true → I.le J5 → SlRd (Imv J5) (.slice Ao dl.length co) dl.length 1 ((dl.map (fun x => x.1.page)).map (Value.int .i64)) → REnt J5 z.firstE (entV z.firstE (z.pages[0]'h1p).2 (.slice Ao dl.length co)) := by
  rintro dl J5 Ao co rfl hJ h
  refine ⟨_, _, nvl, rfl, ?_, ?_, ?_⟩
  ·show SlRd (Imv J5) _ z.p0.nodes.length 2 _
   rw [Gp.p0_eq h1p]; exact hnl1.mono (Imv.le hJ)
  ·show NodesOk (Imv J5) nvl z.p0.nodes
   rw [Gp.p0_eq h1p]; exact hnl2.mono (Imv.le hJ)
  ·show SlRd (Imv J5) _ (otherP z.pages).length 1 _
   rw [show (otherP z.pages).length = (thoseL z.pages 1 true).length from List.length_map _]; exact h
 have hcl2 : ∀ {dl : List (Pr × Value)} {J7 : Imm} {Aq : Option Addr} {cq : Nat}, SlRd (fun b o => J7.blk b = some o) (.slice Aq (dl.length + 1) cq) (dl.length + 1) 1 (((dl.map (fun x => x.1.page)).map (Value.int .i64)) ++ [.int .i64 (z.pages[0]'h1p).1.page]) → dl = thoseL z.pages 1 true → SlRd (Im J7) (.slice Aq (dl.length + 1) cq) (otherP z.pages ++ [z.p0.page]).length 1 ((otherP z.pages ++ [z.p0.page]).map (Value.int .i64)) := by
  rintro dl J7 Aq cq h rfl
  rw [Gp.p0_eq h1p, List.map_append, List.length_append, show (otherP z.pages).length = (thoseL z.pages 1 true).length from List.length_map _]; exact h
 refine Spec.of Tryz.func156 rfl Tryz.ntmps156 (Nat.le_of_ble_eq_true rfl) (fun F => ?_)
 try simp only [nf]
 dsimp only [argsEnv]
 refine WP.seq ?_; refine WP.region [0] rfl ?_; refine WP.mv rfl rfl ?_; refine WP.nil (WP.next (WP.seq ?_))
 refine WP.region [0] rfl ?_; refine WP.loud rfl rfl ?_; refine Op.alloc rfl rfl rfl ty_zr_22 (fun b3 => ?_)
 refine WP.nil (WP.next (WP.seq (WP.seq ?_)))
 refine WP.region [0, 1, 2, 3] rfl ?_; refine WP.mv rfl rfl ?_; refine WP.loud rfl rfl ?_; refine Op.cl (txn_those (l := l) (t := t) (g := g) (tok := z.tok) (nx := nextV g z.at_) (th := .func (.func 53) [.pointer (some ⟨g, 0, none⟩)].toArray [].toArray) (z := z.c) (vc := .slice Ac z.c.clear.length cc) (vn := .slice An z.c.ent.nodes.length cn) (vw := .slice Aw z.c.ent.with_.length cw) (vb := .slice Ab z.bytes.length cb) (vl := .slice Al z.left.length cl) (place := z.place) (k := 1) (has := true) hp h1p hk) rfl Tryz.func113 rfl rfl rfl rfl ?_; rintro v J L8 - ⟨Lt0, rfl, rfl, ho0⟩
 try simp only [nf]
 obtain ⟨Ath, cth, rfl, _⟩ := ho0.slice
 refine WP.vl rfl (Yld.len rfl ty_sl_52 rfl) ?_; refine WP.mv rfl rfl ?_; refine WP.nil ?_; refine WP.sub [(0, _), (2, _), (3, _), (9, _), (10, _), (11, _)] ?_ ⟨rfl, rfl, rfl, rfl, rfl, rfl, trivial⟩
 refine WP.shO ho0 (fun J3 hJ3 hso => ?_)
 have hlf := RPrs.of hso (fun x hx => (hp.el x hx).mono hJ3) those_mem
 obtain ⟨dl, hdl⟩ : ∃ x, x = thoseL z.pages 1 true := ⟨_, rfl⟩
 have hdlen : dl.length ≤ z.pages.length := by rw [hdl]; exact those_len _ _ _
 rw [← hdl] at hlf ⊢
 refine WP.next (WP.block ?_)
 refine WP.loop (X := SgX) (fun u : SgX => [(0, .pointer (some ⟨g, 0, none⟩)), (2, .bool false), (3, .pointer (some ⟨b3, 0, none⟩)), (9, .slice Ath dl.length cth), (10, .int .i64 (dl.length : Int)), (11, .int .i64 (u.i : Int))]) (fun _ => J3) (fun u : SgX => (b3, row 22 [u.v]) :: ((g, row 60 (cmV l t (nextV g z.at_) (.func (.func 53) [.pointer (some ⟨g, 0, none⟩)].toArray [].toArray) z.c (.slice Ac z.c.clear.length cc) (.slice An z.c.ent.nodes.length cn) (.slice Aw z.c.ent.with_.length cw) [.int .u64 (z.tok : Int), .slice Ap z.pages.length cp, .slice Ab z.bytes.length cb, .int .i64 z.place, .slice Al z.left.length cl])) :: (u.L ++ (Lt ++ F)))) (fun u : SgX => u.i ≤ dl.length ∧ Own 3 1 u.v (((dl.take u.i).map (fun x => x.1.page)).map (Value.int .i64)) u.i u.L) (fun u => dl.length - u.i) ⟨0, .slice none 0 0, []⟩ ⟨Nat.zero_le _, .none0⟩ ⟨rfl, rfl, rfl, rfl, rfl, rfl, trivial⟩ rfl zA ?_; rintro ⟨i, vo, Lo⟩ ⟨hle, ho⟩; dsimp only at hle ho; obtain ⟨Ao, co, rfl, _⟩ := ho.slice
 try dsimp only
 try simp only [nf]
 refine WP.seq ?_; refine WP.region [0] rfl ?_; refine WP.split rfl rfl rfl rfl (Yld.lss rfl rfl rfl) (fun hlt => ?_) (fun hlt => ?_)
 ·have hi : i < dl.length := by omega
  obtain ⟨bl, kl, Tl, fl, arl, ea, hbl, hcl9⟩ := hlf.at_ hi
  have hr1 : dl[i].2.oneCell' = true := by obtain ⟨nv, ⟨A, c, e, _⟩, _⟩ := (hlf.el _ (List.getElem_mem hi)).ex; rw [e]; rfl
  refine WP.nil (WP.next (WP.seq ?_))
  refine WP.condT rfl ?_; refine WP.skip (WP.next (WP.seq (WP.block (WP.seq ?_))))
  refine WP.region [0, 1, 2, 3] rfl ?_; refine WP.vl rfl (Yld.indexAddr (i := i) rfl ty_sl_52 (congrArg (fun a => some (Value.slice a dl.length cth)) ea) rfl hi) ?_; refine WP.vl rfl (Yld.loadAggC (vs := [.int .i64 dl[i].1.page, .int .i64 dl[i].1.prev, dl[i].2]) rfl ty_ag_51 rfl (There.i hbl) hcl9 rfl) ?_; refine WP.loud rfl rfl ?_; refine Op.alloc rfl rfl rfl ty_zr_51 (fun b5 => ?_)
  refine WP.loud rfl rfl ?_; refine Op.sA rfl rfl ty_sz_51 rfl rfl rfl (by show (true && (true && (dl[i].2.oneCell' && true))) = true; rw [hr1]; rfl) rfl ?_; refine WP.nil ?_; refine WP.sub [(0, _), (2, _), (3, _), (5, _), (9, _), (10, _), (11, _), (12, _)] ?_ ⟨rfl, rfl, rfl, rfl, rfl, rfl, rfl, rfl, trivial⟩
  refine WP.next ?_; refine WP.region [0, 1, 2, 3, 4, 5] rfl ?_; refine WP.vl rfl (Yld.ld (v := .slice Ao i co) rfl ty_sc_22 rfl rfl) ?_; refine WP.vl rfl (Yld.fieldAddr rfl ty_fd_51_0 rfl) ?_; refine WP.vl rfl (Yld.ld (v := .int .i64 dl[i].1.page) rfl ty_sc_3 rfl rfl) ?_; refine WP.loud rfl rfl ?_; refine Op.buildSlice rfl ty_sl_22 ty_el2_22 rfl rfl rfl rfl (vs := [_]) rfl (segs := [(0, [_])]) (cs := [.int .i64 dl[i].1.page]) rfl rfl zS (fun bq => ?_)
  refine WP.loud rfl rfl ?_; refine Op.append (m := 1) rfl ty_sl_22 ty_el_22 rfl rfl rfl rfl rfl ho (SlRd.lit (m := 1) zM rfl (Nat.le_refl _)) zT rfl (by omega) (by omega) (fun vq Lq hq => ?_)
  try simp only [nf]
  obtain ⟨Aq, cq, rfl, _⟩ := hq.slice
  have hnew : Own 3 1 (.slice Aq (i + 1) cq) (((dl.take (i + 1)).map (fun x => x.1.page)).map (Value.int .i64)) (i + 1) Lq := by rw [List.take_succ_eq_append_getElem hi, List.map_append, List.map_append]; exact hq
  refine WP.loud rfl rfl ?_; refine Op.s1 rfl rfl ty_sz_22 rfl rfl rfl ?_; refine WP.nil ?_; refine WP.sub [(0, _), (2, _), (3, _), (5, _), (9, _), (10, _), (11, _), (12, _)] ?_ ⟨rfl, rfl, rfl, rfl, rfl, rfl, rfl, rfl, trivial⟩
  refine WP.leave (WP.next ?_)
  refine WP.region [0, 1] rfl ?_; refine WP.vl rfl (Yld.add64 rfl rfl rfl (by omega)) ?_; refine WP.mv rfl rfl ?_; refine WP.nil ?_; refine WP.sub [(0, _), (2, _), (3, _), (5, _), (9, _), (10, _), (11, _), (12, _)] ?_ ⟨rfl, rfl, rfl, rfl, rfl, rfl, rfl, rfl, trivial⟩
  exact WP.again ⟨i + 1, .slice Aq _ cq, Lq⟩ ⟨hi, hnew⟩ (show dl.length - (i + 1) < dl.length - i by omega) ⟨rfl, rfl, rfl, rfl, rfl, rfl, trivial⟩ rfl zA
 ·obtain rfl : i = dl.length := by omega
  rw [List.take_of_length_le (Nat.le_refl _)] at ho
  refine WP.nil (WP.next (WP.seq ?_))
  refine WP.condF rfl ?_; refine WP.exit (WP.thenE (WP.thenE (WP.hit (WP.next (WP.seq ?_)))))
  refine WP.region [0, 1, 2, 3, 4, 5, 6, 7, 8, 9, 10, 11, 12] rfl ?_; iterate 2 refine WP.mv rfl rfl ?_
  refine WP.vl rfl (Yld.nilCheck rfl rfl) ?_; refine WP.vl rfl (Yld.fieldAddr rfl ty_fd_60_2 rfl) ?_; refine WP.vl rfl (Yld.ld (v := .slice Ap z.pages.length cp) rfl ty_sc_52 rfl rfl) ?_; refine WP.vl rfl (Yld.indexAddr (i := 0) rfl ty_sl_52 (congrArg (fun a => some (Value.slice a z.pages.length cp)) ea) rfl h1p) ?_; refine WP.vl rfl (Yld.loadAggC (vs := [.int .i64 z.pages[0].1.page, .int .i64 z.pages[0].1.prev, z.pages[0].2]) rfl ty_ag_51 rfl (There.i (hJ3.2 _ _ hbi)) hcp0 rfl) ?_; refine WP.loud rfl rfl ?_; refine Op.cl (txn_becomes (l := l) (t := t) (g := g) (tok := z.tok) (nx := nextV g z.at_) (th := .func (.func 53) [.pointer (some ⟨g, 0, none⟩)].toArray [].toArray) (z := z.c) (vc := .slice Ac z.c.clear.length cc) (vn := .slice An z.c.ent.nodes.length cn) (vw := .slice Aw z.c.ent.with_.length cw) (vb := .slice Ab z.bytes.length cb) (vl := .slice Al z.left.length cl) (place := z.place) (hp.mono hJ3) h1p (r := z.pages[0].1) (vr := z.pages[0].2) ((hp.el _ (List.getElem_mem h1p)).mono hJ3)) rfl Tryz.func182 rfl rfl rfl rfl ?_; rintro v J L1 - ⟨rfl, rfl, rfl⟩
  try simp only [nf]
  refine WP.vl rfl (Yld.makeFunc rfl (vs := []) (us := [_]) rfl rfl) ?_; refine WP.loud rfl rfl ?_; refine Op.buildSlice rfl ty_sl_279 ty_el2_279 rfl rfl rfl rfl (vs := [_]) rfl (segs := [(0, [_])]) (cs := [.func (.func 183) [].toArray [.pointer (some ⟨b3, 0, none⟩)].toArray]) rfl rfl zS (fun ba => ?_)
  refine WP.loud rfl rfl ?_; refine Op.cl (txn_with_sets (e := (becE z.pages z.c.txn z.place (z.pages[0]'h1p).1)) (ba := ba) (c := b3) (vn := (z.pages[0]'h1p).2) (vw := .slice none 0 0) (Ao := Ao) (m := dl.length) (co := co) hrp rfl) rfl Tryz.func181 rfl rfl rfl rfl ?_; rintro v J L1 - ⟨rfl, rfl, rfl⟩
  try simp only [nf]
  refine WP.loud rfl rfl ?_; refine Op.alloc rfl rfl rfl ty_zr_43 (fun b6 => ?_)
  refine WP.loud rfl rfl ?_; refine Op.sA rfl rfl ty_sz_43 rfl rfl rfl (by show (true && ((z.pages[0]'h1p).2.oneCell' && true)) = true; rw [hrp]; rfl) rfl ?_; refine WP.nil ?_; refine WP.sub [(0, _), (2, _), (3, _), (6, _), (9, _), (10, _), (11, _), (12, _)] ?_ ⟨rfl, rfl, rfl, rfl, rfl, rfl, rfl, rfl, trivial⟩
  refine WP.next (WP.seq (WP.seq ?_))
  have hrow : [.int .u64 ((becE z.pages z.c.txn z.place (z.pages[0]'h1p).1).tok : Int), (z.pages[0]'h1p).2, .int .i64 (becE z.pages z.c.txn z.place (z.pages[0]'h1p).1).place, .int .i64 (becE z.pages z.c.txn z.place (z.pages[0]'h1p).1).no, .int .i64 (becE z.pages z.c.txn z.place (z.pages[0]'h1p).1).low, .int .i64 (becE z.pages z.c.txn z.place (z.pages[0]'h1p).1).kept, .int .i64 (becE z.pages z.c.txn z.place (z.pages[0]'h1p).1).txn, .int .i64 (becE z.pages z.c.txn z.place (z.pages[0]'h1p).1).lead, (.slice Ao dl.length co)] = (entV z.firstE (z.pages[0]'h1p).2 (.slice Ao dl.length co)) := by rw [Gp.firstE, Gp.p0_eq h1p]; rfl
  rw [hrow]
  refine WP.shareOwnN ho zT (fun J5 hJ5 hsl hbk => ?_)
  have hre2 : REnt J5 z.firstE (entV z.firstE (z.pages[0]'h1p).2 (.slice Ao dl.length co)) := hfe hdl (Imm.le_trans hJ3 hJ5) (hsl.mono (fun b o h => (Imm.sub_le _ _).2 _ _ h))
  refine WQ.start Tryzmixed 18 zK _ rfl [18, 19] rfl ?_; refine WQ.val rfl rfl rfl (Yld.move rfl rfl) ?_; refine WQ.val rfl rfl rfl (Yld.nilCheck rfl rfl) ?_; refine WQ.val rfl rfl rfl (Yld.fieldAddr rfl ty_fd_60_0 rfl) ?_; refine WQ.val rfl rfl rfl (Yld.fieldAddr rfl ty_fd_58_0 rfl) ?_; refine WQ.val rfl rfl rfl (Yld.fieldAddr rfl ty_fd_54_1 rfl) ?_; refine WQ.val rfl rfl rfl (Yld.ld (v := .pointer (some ⟨t, 0, none⟩)) rfl ty_sc_32 rfl rfl) ?_; refine WQ.val rfl rfl rfl (Yld.move rfl rfl) ?_; refine WQ.val rfl rfl rfl (Yld.nilCheck rfl rfl) ?_; refine WQ.val rfl rfl rfl (Yld.fieldAddr rfl ty_fd_60_2 rfl) ?_; refine WQ.val rfl rfl rfl (Yld.ld (v := .slice Ap z.pages.length cp) rfl ty_sc_52 rfl rfl) ?_; refine WQ.val rfl rfl rfl (Yld.indexAddr (i := 0) rfl ty_sl_52 (congrArg (fun a => some (Value.slice a z.pages.length cp)) ea) rfl h1p) ?_; refine WQ.val rfl rfl rfl (Yld.fieldAddr rfl ty_fd_51_0 rfl) ?_; refine WQ.val rfl rfl rfl (Yld.loadC rfl ty_sc_3 rfl (There.i (hJ5.2 _ _ (hJ3.2 _ _ hbi))) hcp1) ?_; refine WQ.val rfl rfl rfl (Yld.move rfl rfl) ?_; refine WQ.val rfl rfl rfl (Yld.nilCheck rfl rfl) ?_; refine WQ.val rfl rfl rfl (Yld.fieldAddr rfl ty_fd_60_1 rfl) ?_; refine WQ.val rfl rfl rfl (Yld.ld (v := .int .u64 (z.tok : Int)) rfl ty_sc_40 rfl rfl) ?_; refine WQ.val rfl rfl rfl (Yld.loadAgg (vs := (entV z.firstE (z.pages[0]'h1p).2 (.slice Ao dl.length co))) rfl ty_ag_43 rfl (show There _ _ b6 (row 43 (entV z.firstE (z.pages[0]'h1p).2 (.slice Ao dl.length co))) from zM) rfl rfl) ?_
  refine WQ.nil ?_; refine WP.loud rfl rfl ?_; refine Op.cl (tabT_SwapN (hT.mono hJ3) hJ5 (p := (z.pages[0]'h1p).1.page) (tk := z.tok) (e := z.firstE) hre2 hsz htk) rfl Tryz.func83 rfl rfl rfl rfl ?_; rintro v J6 Lt2 hJ6 ⟨r, tb2, J0, rfl, hsw, hj1, hj2, hj3, hT2⟩
  try simp only [nf]
  refine WP.mv rfl rfl ?_; refine WP.nil ?_; refine WP.sub [(0, _), (2, _), (3, _), (6, _), (7, _), (9, _), (10, _), (11, _), (12, _)] ?_ ⟨rfl, rfl, rfl, rfl, rfl, rfl, rfl, rfl, rfl, trivial⟩
  refine WP.next (WP.seq ?_)
  refine WP.unshareOwn ho hj2 (fun p hp => ⟨hj3 _ (by have := (hbk p hp).2; rw [this]; exact nofun) (hbk p hp).1, hJ6.2 _ _ (hbk p hp).2⟩) ?_; have hJa := Imm.le_trans hJ3 hj1
  refine WP.region [0, 1] rfl ?_; refine WP.mv rfl rfl ?_; refine WP.split rfl rfl rfl rfl (Yld.neq rfl rfl rfl) (fun h5 => ?_) (fun h5 => ?_)
  ·refine WP.nil ?_
   refine WP.sub [(0, _), (2, _), (3, _), (6, _), (7, _), (9, _), (10, _), (11, _), (12, _), (52, _)] ?_ ⟨rfl, rfl, rfl, rfl, rfl, rfl, rfl, rfl, rfl, rfl, trivial⟩
   refine WP.next ?_; refine WP.condT rfl ?_; refine WP.seq ?_; refine WP.region [0, 1, 2, 3, 4, 5, 6] rfl ?_; refine WP.mv rfl rfl ?_; refine WP.vl rfl (Yld.nilCheck rfl rfl) ?_; refine WP.vl rfl (Yld.fieldAddr rfl ty_fd_60_0 rfl) ?_; refine WP.vl rfl (Yld.fieldAddr rfl ty_fd_58_0 rfl) ?_; refine WP.mv rfl rfl ?_; refine WP.loud rfl rfl ?_; refine Op.cl (txn_end (b := g)) rfl Tryz.func110 rfl rfl rfl rfl ?_; rintro v J L1 - ⟨rfl, rfl, rfl⟩
   try simp only [nf]
   refine WP.mv rfl rfl ?_; refine WP.nil ?_; refine WP.sub [(0, _), (2, _), (3, _), (6, _), (7, _), (9, _), (10, _), (11, _), (12, _), (52, _)] ?_ ⟨rfl, rfl, rfl, rfl, rfl, rfl, rfl, rfl, rfl, rfl, trivial⟩
   refine WP.next (WP.ret ?_)
   refine WP.fn .ret (.inr rfl) (res1 rfl rfl) ([(g, row 60 (cmV l t (nextV g 9) (.func (.func 53) [.pointer (some ⟨g, 0, none⟩)].toArray [].toArray) ({ z.c with e := r } : Cm) (.slice Ac z.c.clear.length cc) (.slice An z.c.ent.nodes.length cn) (.slice Aw z.c.ent.with_.length cw) [.int .u64 (z.tok : Int), .slice Ap z.pages.length cp, .slice Ab z.bytes.length cb, .int .i64 z.place, .slice Al z.left.length cl]))] ++ Lt2) hJa ?_; have e : z.swaps r = (true, z.fin r) := if_neg h5
   exact ⟨r, tb2, _, _, hsw, by rw [e], rfl, by rw [e]; exact (.mk (hc.mono fun b o q => hJa.2 b o q) (hn.mono hJa) (hw.mono (Imv.le hJa)) hs (hp.mono hJa) (hb.mono fun b o q => hJa.2 b o q) (hl.mono hJa) hk), hT2⟩
  ·refine WP.nil ?_
   refine WP.sub [(0, _), (2, _), (3, _), (6, _), (7, _), (9, _), (10, _), (11, _), (12, _), (52, _)] ?_ ⟨rfl, rfl, rfl, rfl, rfl, rfl, rfl, rfl, rfl, rfl, trivial⟩
   refine WP.next ?_; refine WP.condF rfl ?_; refine WP.skip (WP.next (WP.seq ?_))
   refine WD.start Tryzmixed 10 (fun c o => ((c = g ∧ o = row 60 (cmV l t (nextV g z.at_) (.func (.func 53) [.pointer (some ⟨g, 0, none⟩)].toArray [].toArray) z.c (.slice Ac z.c.clear.length cc) (.slice An z.c.ent.nodes.length cn) (.slice Aw z.c.ent.with_.length cw) [.int .u64 (z.tok : Int), .slice Ap z.pages.length cp, .slice Ab z.bytes.length cb, .int .i64 z.place, .slice Al z.left.length cl])) ∨ (c = b3 ∧ o = row 22 [.slice Ao dl.length co])) ∨ J0.blk c = some o) (fun _ _ => False) (by rintro _ _ ((⟨rfl, rfl⟩ | ⟨rfl, rfl⟩) | h); exact zM; exact zM; exact There.i h) (fun _ _ h => h.elim) 15 [false, false, false, false, false, false, false, false, false, false, false, false, false, false, false] rfl rfl ?_; refine WD.vl (i := 0) rfl (Yld.move rfl rfl) ?_; refine WD.val1 (i := 1) rfl rfl rfl rfl zK rfl zK (Yld.load (v := .slice Ao dl.length co) rfl ty_sc_22 rfl (.inl (.inl (.inr ⟨rfl, rfl⟩))) rfl) ?_; refine WD.vl (i := 2) rfl (Yld.move rfl rfl) ?_; refine WD.vl (i := 3) rfl (Yld.nilCheck rfl rfl) ?_; refine WD.vl (i := 4) rfl (Yld.fieldAddr rfl ty_fd_60_2 rfl) ?_; refine WD.val1 (i := 5) rfl rfl rfl rfl zK rfl zK (Yld.load (v := .slice Ap z.pages.length cp) rfl ty_sc_52 rfl (.inl (.inl (.inl ⟨rfl, rfl⟩))) rfl) ?_; refine WD.vl (i := 6) rfl (Yld.indexAddr (i := 0) rfl ty_sl_52 (congrArg (fun a => some (Value.slice a z.pages.length cp)) ea) rfl h1p) ?_; refine WD.vl (i := 7) rfl (Yld.fieldAddr rfl ty_fd_51_0 rfl) ?_; refine WD.val1 (i := 8) rfl rfl rfl rfl zK rfl zK (Yld.loadC rfl ty_sc_3 rfl (.inl (.inr (hJa.2 _ _ hbi))) hcp1) ?_
   refine WD.loud (i := 9) zK rfl rfl rfl ?_; refine Op.buildSlice rfl ty_sl_22 ty_el2_22 rfl rfl rfl rfl (vs := [_]) rfl (segs := [(0, [_])]) (cs := [.int .i64 (z.pages[0]'h1p).1.page]) rfl rfl zS (fun bq => ?_)
   refine WD.go (.inr (by rintro _ _ ((⟨rfl, rfl⟩ | ⟨rfl, rfl⟩) | h); exact zM; exact zM; exact There.i h)) (fun _ _ h => h.elim) ?_; refine WD.loud (i := 10) zK rfl rfl rfl ?_; refine Op.append (m := 1) rfl ty_sl_22 ty_el_22 rfl rfl rfl rfl rfl ho (SlRd.lit (m := 1) zM rfl (Nat.le_refl _)) zT rfl (by omega) (by omega) (fun vq Lq hq => ?_)
   try simp only [nf]
   obtain ⟨Aq, cq, rfl, _⟩ := hq.slice
   refine WD.go (.inl rfl) (fun _ _ h => h.elim) ?_; refine WD.vl (i := 11) rfl (Yld.nilCheck rfl rfl) ?_; refine WD.vl (i := 12) rfl (Yld.fieldAddr rfl ty_fd_60_0 rfl) ?_; refine WD.vl (i := 13) rfl (Yld.fieldAddr rfl ty_fd_58_3 rfl) ?_; refine WD.loud (i := 14) zK rfl rfl rfl ?_; refine Op.s1 rfl rfl ty_sz_22 rfl rfl rfl ?_; refine WD.go (.inl rfl) (fun _ _ h => h.elim) ?_; refine WD.done zK ?_; refine WP.sub [(0, _), (2, _), (3, _), (6, _), (7, _), (9, _), (10, _), (11, _), (12, _), (52, _)] ?_ ⟨rfl, rfl, rfl, rfl, rfl, rfl, rfl, rfl, rfl, rfl, trivial⟩
   refine WP.next (WP.seq ?_)
   refine WP.shO hq (fun J7 hJ7 hcs => ?_)
   have hJb := Imm.le_trans hJa hJ7
   refine WQ.start Tryzmixed 8 zK _ rfl [8, 9] rfl ?_; refine WQ.val rfl rfl rfl (Yld.move rfl rfl) ?_; refine WQ.val rfl rfl rfl (Yld.nilCheck rfl rfl) ?_; refine WQ.val rfl rfl rfl (Yld.fieldAddr rfl ty_fd_60_0 rfl) ?_; refine WQ.val rfl rfl rfl (Yld.fieldAddr rfl ty_fd_58_0 rfl) ?_; refine WQ.val rfl rfl rfl (Yld.move rfl rfl) ?_; refine WQ.val rfl rfl rfl (Yld.nilCheck rfl rfl) ?_; refine WQ.val rfl rfl rfl (Yld.fieldAddr rfl ty_fd_60_0 rfl) ?_; refine WQ.val rfl rfl rfl (Yld.makeFunc rfl (vs := [_]) (us := []) rfl rfl) ?_; refine WQ.nil ?_; refine WP.loud rfl rfl ?_; refine Op.cl (txn_goes (b := g)) rfl Tryz.func111 rfl rfl rfl rfl ?_; rintro v J L1 - ⟨rfl, rfl, rfl⟩
   try simp only [nf]
   refine WP.mv rfl rfl ?_; refine WP.nil ?_; refine WP.sub [(0, _), (2, _), (3, _), (6, _), (7, _), (9, _), (10, _), (11, _), (12, _), (52, _)] ?_ ⟨rfl, rfl, rfl, rfl, rfl, rfl, rfl, rfl, rfl, rfl, trivial⟩
   refine WP.next (WP.ret ?_)
   refine WP.fn .ret (.inr rfl) (res1 rfl rfl) ([(g, row 60 (cmV l t (nextV g 4) (.func (.func 53) [.pointer (some ⟨g, 0, none⟩)].toArray [].toArray) ({ z.c with clear := otherP z.pages ++ [z.p0.page] } : Cm) (.slice Aq (dl.length + 1) cq) (.slice An z.c.ent.nodes.length cn) (.slice Aw z.c.ent.with_.length cw) [.int .u64 (z.tok : Int), .slice Ap z.pages.length cp, .slice Ab z.bytes.length cb, .int .i64 z.place, .slice Al z.left.length cl]))] ++ Lt2) hJb ?_; have e : z.swaps r = (false, (z.setC { z.c with clear := otherP z.pages ++ [z.p0.page] }).go 4) := if_pos (by omega)
   have hcs2 := hcl2 hcs hdl
   exact ⟨r, tb2, _, _, hsw, by rw [e], rfl, by rw [e]; exact .mk hcs2 (hn.mono hJb) (hw.mono (Imv.le hJb)) hs (hp.mono hJb) (hb.mono fun b o q => hJb.2 b o q) (hl.mono hJb) hk, hT2.mono hJ7⟩


end Go.Hp
