import Derived.Test.YtilgaelpbgfnnaaGreatTxnG
set_option linter.unusedVariables false
set_option linter.unusedSimpArgs false
namespace Go.Hp
open Go Go.Proofs

theorem ints_at {J : Imm} {A : Option Addr} {m c : Nat} {l : List Int} (h : SlRd (Im J) (.slice A m c) l.length 1 (l.map (Value.int .i64))) {i : Nat} (hi : i < l.length) : ∃ b k T fr arr, A = some ⟨b, k, none⟩ ∧ J.blk b = some (.cells arr T fr) ∧ arr[k + i * 1]? = some (.int .i64 l[i]) := by
 obtain ⟨b, k, c', T, fr, arr, e, hc, hb, hcd⟩ := h.get (by omega)
 refine ⟨b, k, T, fr, arr, by injection e, hb, ?_⟩
 have := take_cells hcd i (.int .i64 l[i]) (by simp [hi]) (by rw [List.length_map]; exact hi)
 rw [Array.getElem?_toList] at this
 rwa [Nat.mul_one]


def Gp.looks (tb : Tb) (z : Gp) : Bool × Gp := match tb.get (z.c.clear.headD 0) with
 | none => z.past
 | some e => if e.2.txn ≠ z.c.txn then z.past else (false, (z.setC { z.c with ent := e.2 }).go 7)
def SwR (x : Tb) (p : Int) (tk : Nat) (e : Ent) (r : Int) (x' : Tb) : Prop := (x.get p = none ∧ r = 90 ∧ x' = x) ∨ ∃ e0, x.get p = some e0 ∧ ((¬ e.mayP ∧ r = 1 ∧ x' = x) ∨ (e.mayP ∧ e0.2.tok ≠ tk ∧ r = 5 ∧ x' = x) ∨ (e.mayP ∧ e0.2.tok = tk ∧ r = 0 ∧ x.Swapped x' p e))
theorem tabT_SwapX {I : Imm} {t : Nat} {x : Tb} {L : Chunks} (hT : IsT I t x L) {p : Int} {tk : Nat}  {e : Ent} {cs : List Value} (he : REnt I e cs) (hsz : e.sized) (htk : x.tok + 1 < 18446744073709551616) : Spec Tryz.prog 83 [.pointer (some ⟨t, 0, none⟩), .int .i64 p, .int .u64 (tk : Int), .agg cs.toArray] I L (fun v J L' => ∃ (r : Int) (x' : Tb), v = .int .i64 r ∧ SwR x p tk e r x' ∧ IsT J t x' L') :=
 (tabT_Swap hT he hsz htk).mono (by
  rintro v J L' hJ (⟨h1, rfl, rfl, h4⟩ | ⟨e0, h0, ⟨h1, rfl, rfl, h4⟩ | ⟨h1, h2, rfl, rfl, h4⟩ | ⟨h1, h2, rfl, x', h3, h4⟩⟩)
  ·exact ⟨_, x, rfl, .inl ⟨h1, rfl, rfl⟩, h4⟩
  ·exact ⟨_, x, rfl, .inr ⟨e0, h0, .inl ⟨h1, rfl, rfl⟩⟩, h4⟩
  ·exact ⟨_, x, rfl, .inr ⟨e0, h0, .inr (.inl ⟨h1, h2, rfl, rfl⟩)⟩, h4⟩
  ·exact ⟨_, x', rfl, .inr ⟨e0, h0, .inr (.inr ⟨h1, h2, rfl, h3⟩)⟩, h4⟩)
def Gp.clears (z : Gp) (r : Int) : Bool × Gp := if r = 5 then (false, z.go 6) else z.past
theorem headD_0 {l : List Int} (h : 0 < l.length) : l.headD 0 = l[0] := by cases l with | nil => exact absurd h (Nat.lt_irrefl _) | cons a l => rfl
theorem txn_past {I : Imm} {g l t : Nat} {z : Gp} {Lgr : Chunks} (hg : IsGr I g l t z Lgr) (h0 : 0 < z.c.clear.length) : Spec Tryz.prog 190 [.pointer (some ⟨g, 0, none⟩)] I Lgr (fun v J L => v = .bool z.past.1 ∧ IsGr J g l t z.past.2 L) := by
 cases hg with
 | @mk vc vn vw vp vb vl hc hn hw hs hp hb hl hk =>
 obtain ⟨Ac, cc, rfl, hcc, _, _⟩ := id hc
 obtain ⟨nvn, hn1, hn2⟩ := id hn.ex
 obtain ⟨An, cn, rfl, _⟩ := hn1.slice'
 obtain ⟨Aw, cw, rfl, _⟩ := hw.slice'
 obtain ⟨Ap, cp, rfl, hcp, _, _⟩ := id hp.rd
 obtain ⟨Ab, cb, rfl, _⟩ := id hb
 obtain ⟨Al, cl, rfl, hcl, _, _⟩ := id hl.rd
 obtain ⟨At, ct, tl1, htl⟩ := tail_rd hc h0
 refine Spec.of Tryz.func190 rfl Tryz.ntmps190 (Nat.le_of_ble_eq_true rfl) (fun F => ?_)
 try simp only [nf]
 dsimp only [argsEnv]
 refine WP.seq ?_; refine WP.region [0] rfl ?_; refine WP.mv rfl rfl ?_; refine WP.nil (WP.next (WP.seq (WP.seq ?_)))
 refine WP.region [0, 1, 2, 3, 4, 5, 6, 7, 8] rfl ?_; iterate 2 refine WP.mv rfl rfl ?_
 refine WP.vl rfl (Yld.nilCheck rfl rfl) ?_; refine WP.vl rfl (Yld.fieldAddr rfl ty_fd_58_3 rfl) ?_; refine WP.vl rfl (Yld.ld (v := .slice Ac z.c.clear.length cc) rfl ty_sc_22 rfl rfl) ?_; refine WP.vl rfl (Yld.slice (l := 1) (h := z.c.clear.length) rfl ty_sl_22 rfl (Env.limS rfl) Env.lim0 h0 hcc) ?_; rw [tl1]
 refine WP.vl rfl (Yld.nilCheck rfl rfl) ?_; refine WP.vl rfl (Yld.fieldAddr rfl ty_fd_58_3 rfl) ?_; refine WP.loud rfl rfl ?_; refine Op.s1 rfl rfl ty_sz_22 rfl rfl rfl ?_; refine WP.nil ?_; refine WP.sub [(0, _), (2, _)] ?_ ⟨rfl, rfl, trivial⟩
 refine WP.next (WP.seq ?_)
 refine WP.region [0, 1, 2, 3, 4, 5] rfl ?_; refine WP.mv rfl rfl ?_; refine WP.vl rfl (Yld.nilCheck rfl rfl) ?_; refine WP.vl rfl (Yld.fieldAddr rfl ty_fd_58_3 rfl) ?_; refine WP.vl rfl (Yld.ld (v := .slice At z.c.clear.tail.length ct) rfl ty_sc_22 rfl rfl) ?_; refine WP.vl rfl (Yld.len rfl ty_sl_22 rfl) ?_; refine WP.split rfl rfl rfl rfl (Yld.gtr rfl rfl rfl) (fun h1 => ?_) (fun h1 => ?_)
 ·refine WP.nil ?_
  refine WP.sub [(0, _), (2, _), (16, _)] ?_ ⟨rfl, rfl, rfl, trivial⟩
  refine WP.next ?_; refine WP.condT rfl ?_; refine WP.seq ?_; refine WP.region [0, 1, 2, 3, 4, 5, 6] rfl ?_; refine WP.mv rfl rfl ?_; refine WP.vl rfl (Yld.nilCheck rfl rfl) ?_; refine WP.vl rfl (Yld.fieldAddr rfl ty_fd_58_0 rfl) ?_; refine WP.mv rfl rfl ?_; refine WP.vl rfl (Yld.makeFunc rfl (vs := [_]) (us := []) rfl rfl) ?_; refine WP.loud rfl rfl ?_; refine Op.cl (txn_goes (b := g)) rfl Tryz.func111 rfl rfl rfl rfl ?_; rintro v J L1 - ⟨rfl, rfl, rfl⟩
  try simp only [nf]
  refine WP.mv rfl rfl ?_; refine WP.nil ?_; refine WP.sub [(0, _), (2, _), (16, _)] ?_ ⟨rfl, rfl, rfl, trivial⟩
  refine WP.next (WP.ret ?_)
  refine WP.fn .ret (.inr rfl) (res1 rfl rfl) [(g, row 60 (cmV l t (nextV g 6) (.func (.func 53) [.pointer (some ⟨g, 0, none⟩)].toArray [].toArray) ({ z.c with clear := z.c.clear.tail } : Cm) (.slice At z.c.clear.tail.length ct) (.slice An z.c.ent.nodes.length cn) (.slice Aw z.c.ent.with_.length cw) [.int .u64 (z.tok : Int), .slice Ap z.pages.length cp, .slice Ab z.bytes.length cb, .int .i64 z.place, .slice Al z.left.length cl]))] (Imm.le_refl _) ?_; have e0 : ¬ z.c.clear.tail = [] := fun e => by rw [e] at h1; exact absurd h1 (by decide)
  have e : z.past = (false, (z.setC ({ z.c with clear := z.c.clear.tail } : Cm)).go 6) := if_neg e0
  rw [e]; exact ⟨rfl, .mk htl hn hw hs hp hb hl hk⟩
 ·refine WP.nil ?_
  refine WP.sub [(0, _), (2, _), (16, _)] ?_ ⟨rfl, rfl, rfl, trivial⟩
  refine WP.next ?_; refine WP.condF rfl ?_; refine WP.skip (WP.next (WP.seq ?_))
  have hgm : IsGr I g l t (z.setC ({ z.c with clear := z.c.clear.tail } : Cm)) [(g, row 60 (cmV l t (nextV g z.at_) (.func (.func 53) [.pointer (some ⟨g, 0, none⟩)].toArray [].toArray) ({ z.c with clear := z.c.clear.tail } : Cm) (.slice At z.c.clear.tail.length ct) (.slice An z.c.ent.nodes.length cn) (.slice Aw z.c.ent.with_.length cw) [.int .u64 (z.tok : Int), .slice Ap z.pages.length cp, .slice Ab z.bytes.length cb, .int .i64 z.place, .slice Al z.left.length cl]))] := .mk htl hn hw hs hp hb hl hk
  refine WP.region [0, 1, 2, 3, 4, 5] rfl ?_; refine WP.mv rfl rfl ?_; refine WP.vl rfl (Yld.nilCheck rfl rfl) ?_; refine WP.vl rfl (Yld.fieldAddr rfl ty_fd_58_5 rfl) ?_; refine WP.vl rfl (Yld.ld (v := .func (.func 53) [.pointer (some ⟨g, 0, none⟩)].toArray [].toArray) rfl ty_sc_23 rfl rfl) ?_; refine WP.loud rfl rfl ?_; refine Op.callE (txn_cleared hgm) (Enters.bound rfl Tryz.func53 rfl (rs := [.pointer (some ⟨g, 0, none⟩)]) (us := []) rfl (vs := []) rfl) rfl rfl zT ?_; rintro v J L2 hJ ⟨rfl, hres⟩
  try simp only [nf]
  refine WP.mv rfl rfl ?_; refine WP.nil ?_; refine WP.sub [(0, _), (2, _), (16, _)] ?_ ⟨rfl, rfl, rfl, trivial⟩
  refine WP.next (WP.ret ?_)
  refine WP.fn .ret (.inr rfl) (res1 rfl rfl) L2 hJ ?_; have e0 : z.c.clear.tail = [] := List.length_eq_zero_iff.1 (by omega)
  have e : z.past = (z.setC ({ z.c with clear := z.c.clear.tail } : Cm)).cleared := (if_pos e0).trans (by rw [e0])
  rw [e]; exact ⟨rfl, hres⟩

theorem txn_takes {I : Imm} {g l t : Nat} {z : Gp} {Lgr : Chunks} (hg : IsGr I g l t z Lgr) {s d n : Nat} {x : Lg} {y : Dk} {Ll : Chunks} (hlg : IsLog I l s d n x y Ll) : Spec Tryz.prog 160 [.pointer (some ⟨g, 0, none⟩)] I (Lgr ++ Ll) (fun v J L => v = .bool false ∧ I = J ∧ ∃ Lg2, L = Lg2 ++ Ll ∧ IsGr J g l t ((z.setC ({ z.c with hn := x.no, hp := x.pl } : Cm)).go 5) Lg2) := by
 cases hg with
 | @mk vc vn vw vp vb vl hc hn hw hs hp hb hl hk =>
 obtain ⟨Ac, cc, rfl, hcc, _, _⟩ := id hc
 obtain ⟨nvn, hn1, hn2⟩ := id hn.ex
 obtain ⟨An, cn, rfl, _⟩ := hn1.slice'
 obtain ⟨Aw, cw, rfl, _⟩ := hw.slice'
 obtain ⟨Ap, cp, rfl, hcp, _, _⟩ := id hp.rd
 obtain ⟨Ab, cb, rfl, _⟩ := id hb
 obtain ⟨Al, cl, rfl, hcl, _, _⟩ := id hl.rd
 refine Spec.of Tryz.func160 rfl Tryz.ntmps160 (Nat.le_of_ble_eq_true rfl) (fun F => ?_)
 try simp only [nf]
 dsimp only [argsEnv]
 refine WP.seq ?_; refine WP.region [0] rfl ?_; refine WP.mv rfl rfl ?_; refine WP.nil (WP.next (WP.seq ?_))
 refine WP.region [0, 1, 2, 3, 4, 5, 6, 7, 8, 9] rfl ?_; iterate 2 refine WP.mv rfl rfl ?_
 refine WP.vl rfl (Yld.nilCheck rfl rfl) ?_; refine WP.vl rfl (Yld.fieldAddr rfl ty_fd_58_0 rfl) ?_; refine WP.vl rfl (Yld.fieldAddr rfl ty_fd_54_0 rfl) ?_; refine WP.vl rfl (Yld.ld (v := .pointer (some ⟨l, 0, none⟩)) rfl ty_sc_31 rfl rfl) ?_; refine WP.loud rfl rfl ?_; refine Op.cl (log_Head hlg) rfl Tryz.func18 rfl rfl rfl rfl ?_; rintro v J L1 - ⟨rfl, rfl, rfl⟩
 try simp only [nf]
 refine WP.vl rfl (Yld.nilCheck rfl rfl) ?_; refine WP.vl rfl (Yld.fieldAddr rfl ty_fd_58_2 rfl) ?_; refine WP.loud rfl rfl ?_; refine Op.storeN rfl rfl ty_sz_56 rfl rfl rfl rfl (Nat.le_of_ble_eq_true rfl) (show cmV l t (nextV g z.at_) (.func (.func 53) [.pointer (some ⟨g, 0, none⟩)].toArray [].toArray) ({ z.c with hn := x.no, hp := x.pl } : Cm) (.slice Ac z.c.clear.length cc) (.slice An z.c.ent.nodes.length cn) (.slice Aw z.c.ent.with_.length cw) [.int .u64 (z.tok : Int), .slice Ap z.pages.length cp, .slice Ab z.bytes.length cb, .int .i64 z.place, .slice Al z.left.length cl] = _ from rfl) (by repeat (first | exact Upd.head | apply Upd.tail | apply Upd.tailS)) ?_; refine WP.nil ?_; refine WP.sub [(0, _), (2, _)] ?_ ⟨rfl, rfl, trivial⟩
 refine WP.next (WP.seq ?_)
 refine WP.region [0, 1, 2, 3, 4, 5, 6] rfl ?_; refine WP.mv rfl rfl ?_; refine WP.vl rfl (Yld.nilCheck rfl rfl) ?_; refine WP.vl rfl (Yld.fieldAddr rfl ty_fd_58_0 rfl) ?_; refine WP.mv rfl rfl ?_; refine WP.vl rfl (Yld.makeFunc rfl (vs := [_]) (us := []) rfl rfl) ?_; refine WP.loud rfl rfl ?_; refine Op.cl (txn_goes (b := g)) rfl Tryz.func111 rfl rfl rfl rfl ?_; rintro v J L1 - ⟨rfl, rfl, rfl⟩
 try simp only [nf]
 refine WP.mv rfl rfl ?_; refine WP.nil ?_; refine WP.sub [(0, _), (2, _)] ?_ ⟨rfl, rfl, trivial⟩
 refine WP.next (WP.ret ?_)
 refine WP.fn .ret (.inr rfl) (res1 rfl rfl) ([(g, row 60 (cmV l t (nextV g 5) (.func (.func 53) [.pointer (some ⟨g, 0, none⟩)].toArray [].toArray) ({ z.c with hn := x.no, hp := x.pl } : Cm) (.slice Ac z.c.clear.length cc) (.slice An z.c.ent.nodes.length cn) (.slice Aw z.c.ent.with_.length cw) [.int .u64 (z.tok : Int), .slice Ap z.pages.length cp, .slice Ab z.bytes.length cb, .int .i64 z.place, .slice Al z.left.length cl]))] ++ Ll) (Imm.le_refl _) ?_; exact ⟨rfl, rfl, _, rfl, .mk hc hn hw hs hp hb hl hk⟩

theorem txn_looks0 {I : Imm} {g l t : Nat} {z : Gp} {Lgr : Chunks} (hg : IsGr I g l t z Lgr) {tb : Tb} {Lt : Chunks} (hT : IsT I t tb Lt) (h0 : 0 < z.c.clear.length) (hgt : tb.get (z.c.clear[0]'h0) = none) : Spec Tryz.prog 189 [.pointer (some ⟨g, 0, none⟩)] I (Lgr ++ Lt) (fun v J L => v = .bool (z.looks tb).1 ∧ ∃ Lg2 Lt2, L = Lg2 ++ Lt2 ∧ IsGr J g l t (z.looks tb).2 Lg2 ∧ IsT J t tb Lt2) := by
 cases hg with
 | @mk vc vn vw vp vb vl hc hn hw hs hp hb hl hk =>
 obtain ⟨Ac, cc, rfl, hcc, _, _⟩ := id hc
 obtain ⟨nvn, hn1, hn2⟩ := id hn.ex
 obtain ⟨An, cn, rfl, _⟩ := hn1.slice'
 obtain ⟨Aw, cw, rfl, _⟩ := hw.slice'
 obtain ⟨Ap, cp, rfl, hcp, _, _⟩ := id hp.rd
 obtain ⟨Ab, cb, rfl, _⟩ := id hb
 obtain ⟨Al, cl, rfl, hcl, _, _⟩ := id hl.rd
 obtain ⟨bi, ki, Ti, fi, ari, ei, hbi, hci⟩ := ints_at hc h0
 refine Spec.of Tryz.func189 rfl Tryz.ntmps189 (Nat.le_of_ble_eq_true rfl) (fun F => ?_)
 try simp only [nf]
 dsimp only [argsEnv]
 refine WP.seq ?_; refine WP.region [0] rfl ?_; refine WP.mv rfl rfl ?_; refine WP.nil (WP.next (WP.seq ?_))
 refine WD.start Tryzmixed 16 (fun c o => (c = g ∧ o = row 60 (cmV l t (nextV g z.at_) (.func (.func 53) [.pointer (some ⟨g, 0, none⟩)].toArray [].toArray) z.c (.slice Ac z.c.clear.length cc) (.slice An z.c.ent.nodes.length cn) (.slice Aw z.c.ent.with_.length cw) [.int .u64 (z.tok : Int), .slice Ap z.pages.length cp, .slice Ab z.bytes.length cb, .int .i64 z.place, .slice Al z.left.length cl])) ∨ I.blk c = some o) (fun _ _ => False) (by rintro _ _ (⟨rfl, rfl⟩ | h); exact zM; exact There.i h) (fun _ _ h => h.elim) 18 [false, false, false, false, false, false, false, false, false, false, false, false, false, false, false, false, false, false] rfl rfl ?_; refine WD.vl (i := 0) rfl (Yld.move rfl rfl) ?_; refine WD.vl (i := 1) rfl (Yld.nilCheck rfl rfl) ?_; refine WD.vl (i := 2) rfl (Yld.fieldAddr rfl ty_fd_58_0 rfl) ?_; refine WD.vl (i := 3) rfl (Yld.fieldAddr rfl ty_fd_54_1 rfl) ?_; refine WD.val1 (i := 4) rfl rfl rfl rfl zK rfl zK (Yld.load (v := .pointer (some ⟨t, 0, none⟩)) rfl ty_sc_32 rfl (.inl (.inl ⟨rfl, rfl⟩)) rfl) ?_; refine WD.vl (i := 5) rfl (Yld.move rfl rfl) ?_; refine WD.vl (i := 6) rfl (Yld.nilCheck rfl rfl) ?_; refine WD.vl (i := 7) rfl (Yld.fieldAddr rfl ty_fd_58_3 rfl) ?_; refine WD.val1 (i := 8) rfl rfl rfl rfl zK rfl zK (Yld.load (v := .slice Ac z.c.clear.length cc) rfl ty_sc_22 rfl (.inl (.inl ⟨rfl, rfl⟩)) rfl) ?_; refine WD.vl (i := 9) rfl (Yld.indexAddr (i := 0) rfl ty_sl_22 (congrArg (fun a => some (Value.slice a z.c.clear.length cc)) ei) rfl h0) ?_; refine WD.val1 (i := 10) rfl rfl rfl rfl zK rfl zK (Yld.loadC rfl ty_sc_3 rfl (.inl (.inr hbi)) hci) ?_
 refine WD.both (i := 11) (j := 15) zK rfl rfl ?_ ?_
 ·refine WP.oper rfl rfl ?_
  refine Op.cl (tabT_Load0 hT hgt) rfl Tryz.func12 rfl rfl rfl rfl ?_; rintro v J Lt - ⟨rfl, rfl, rfl⟩
  try simp only [nf]
  refine WD.go (.inr (by rintro _ _ (⟨rfl, rfl⟩ | h); exact zM; first | exact There.i h | exact There.i (hJ2.2 _ _ h) | exact There.i (hJ3.2 _ _ (hJ2.2 _ _ h)) | exact There.i (hJ3.2 _ _ h))) (fun _ _ h => h.elim) ?_; refine WD.vl (i := 12) rfl (Yld.move rfl rfl) ?_; refine WD.vl (i := 13) rfl (Yld.extract rfl rfl rfl) ?_; refine WD.vl (i := 14) rfl (Yld.extract rfl rfl rfl) ?_; refine WD.loud (i := 15) zK rfl rfl rfl ?_; refine Op.alloc rfl rfl rfl ty_zr_43 (fun b15 => ?_)
  refine WD.go (.inr (by rintro _ _ (⟨rfl, rfl⟩ | h); exact zM; first | exact There.i h | exact There.i (hJ2.2 _ _ h) | exact There.i (hJ3.2 _ _ (hJ2.2 _ _ h)) | exact There.i (hJ3.2 _ _ h))) (fun _ _ h => h.elim) ?_; refine WD.loud (i := 16) zK rfl rfl rfl ?_; refine Op.sA rfl rfl ty_sz_43 rfl rfl rfl rfl rfl ?_; refine WD.go (.inl rfl) (fun _ _ h => h.elim) ?_; refine WD.vl (i := 17) rfl (Yld.assign rfl rfl) ?_; refine WD.done zK ?_; refine WP.sub [(0, _), (2, _), (3, _), (4, _)] ?_ ⟨rfl, rfl, rfl, rfl, trivial⟩
  refine WP.next (WP.seq (WP.seq ?_))
  refine WQ.startAll Tryzmixed zK _ rfl ?_; refine WQ.val rfl rfl rfl (Yld.move rfl rfl) ?_; refine WQ.val rfl rfl rfl (Yld.neq rfl rfl rfl true (decide_eq_true (by decide))) ?_; refine WQ.val rfl rfl rfl (Yld.move rfl rfl) ?_; iterate 7 refine WQ.passG rfl rfl rfl rfl rfl rfl rfl ?_
  refine WQ.val rfl rfl rfl (Yld.pickT rfl rfl rfl) ?_; refine WQ.nil ?_; refine WP.sub [(0, _), (2, _), (3, _), (4, _), (30, _)] ?_ ⟨rfl, rfl, rfl, rfl, rfl, trivial⟩
  refine WP.next ?_; refine WP.condT rfl ?_; refine WP.seq ?_; have hg2 := (IsGr.mk (g := g) (l := l) (t := t) (z := z) hc hn hw hs hp hb hl hk)
  refine WP.region [0, 1, 2] rfl ?_; refine WP.mv rfl rfl ?_; refine WP.loud rfl rfl ?_; refine Op.cl (txn_past hg2 h0) rfl Tryz.func190 rfl rfl rfl rfl ?_; rintro v J3 Lr hJ3 ⟨rfl, hres⟩
  try simp only [nf]
  refine WP.mv rfl rfl ?_; refine WP.nil ?_; refine WP.sub [(0, _), (2, _), (3, _), (4, _), (30, _)] ?_ ⟨rfl, rfl, rfl, rfl, rfl, trivial⟩
  refine WP.next (WP.ret ?_)
  refine WP.fn .ret (.inr rfl) (res1 rfl rfl) (Lr ++ Lt) hJ3 ?_; have e : z.looks tb = z.past := by unfold Gp.looks; rw [headD_0 h0, hgt]
  rw [e]; exact ⟨rfl, Lr, _, rfl, hres, hT.mono hJ3⟩
 ·refine WP.oper rfl rfl ?_
  refine Op.alloc rfl rfl rfl ty_zr_43 (fun b15 => ?_)
  refine WD.go (.inr (by rintro _ _ (⟨rfl, rfl⟩ | h); exact zM; first | exact There.i h | exact There.i (hJ2.2 _ _ h) | exact There.i (hJ3.2 _ _ (hJ2.2 _ _ h)) | exact There.i (hJ3.2 _ _ h))) (fun _ _ h => h.elim) ?_; refine WD.loud (i := 11) zK rfl rfl rfl ?_; refine Op.cl (tabT_Load0 hT hgt) rfl Tryz.func12 rfl rfl rfl rfl ?_; rintro v J Lt - ⟨rfl, rfl, rfl⟩
  try simp only [nf]
  refine WD.go (.inr (by rintro _ _ (⟨rfl, rfl⟩ | h); exact zM; first | exact There.i h | exact There.i (hJ2.2 _ _ h) | exact There.i (hJ3.2 _ _ (hJ2.2 _ _ h)) | exact There.i (hJ3.2 _ _ h))) (fun _ _ h => h.elim) ?_; refine WD.vl (i := 12) rfl (Yld.move rfl rfl) ?_; refine WD.vl (i := 13) rfl (Yld.extract rfl rfl rfl) ?_; refine WD.vl (i := 14) rfl (Yld.extract rfl rfl rfl) ?_; refine WD.loud (i := 16) zK rfl rfl rfl ?_; refine Op.sA rfl rfl ty_sz_43 rfl rfl rfl rfl rfl ?_; refine WD.go (.inl rfl) (fun _ _ h => h.elim) ?_; refine WD.vl (i := 17) rfl (Yld.assign rfl rfl) ?_; refine WD.done zK ?_; refine WP.sub [(0, _), (2, _), (3, _), (4, _)] ?_ ⟨rfl, rfl, rfl, rfl, trivial⟩
  refine WP.next (WP.seq (WP.seq ?_))
  refine WQ.startAll Tryzmixed zK _ rfl ?_; refine WQ.val rfl rfl rfl (Yld.move rfl rfl) ?_; refine WQ.val rfl rfl rfl (Yld.neq rfl rfl rfl true (decide_eq_true (by decide))) ?_; refine WQ.val rfl rfl rfl (Yld.move rfl rfl) ?_; iterate 7 refine WQ.passG rfl rfl rfl rfl rfl rfl rfl ?_
  refine WQ.val rfl rfl rfl (Yld.pickT rfl rfl rfl) ?_; refine WQ.nil ?_; refine WP.sub [(0, _), (2, _), (3, _), (4, _), (30, _)] ?_ ⟨rfl, rfl, rfl, rfl, rfl, trivial⟩
  refine WP.next ?_; refine WP.condT rfl ?_; refine WP.seq ?_; have hg2 := (IsGr.mk (g := g) (l := l) (t := t) (z := z) hc hn hw hs hp hb hl hk)
  refine WP.region [0, 1, 2] rfl ?_; refine WP.mv rfl rfl ?_; refine WP.loud rfl rfl ?_; refine Op.cl (txn_past hg2 h0) rfl Tryz.func190 rfl rfl rfl rfl ?_; rintro v J3 Lr hJ3 ⟨rfl, hres⟩
  try simp only [nf]
  refine WP.mv rfl rfl ?_; refine WP.nil ?_; refine WP.sub [(0, _), (2, _), (3, _), (4, _), (30, _)] ?_ ⟨rfl, rfl, rfl, rfl, rfl, trivial⟩
  refine WP.next (WP.ret ?_)
  refine WP.fn .ret (.inr rfl) (res1 rfl rfl) (Lr ++ Lt) hJ3 ?_; have e : z.looks tb = z.past := by unfold Gp.looks; rw [headD_0 h0, hgt]
  rw [e]; exact ⟨rfl, Lr, _, rfl, hres, hT.mono hJ3⟩

theorem txn_looks1 {I : Imm} {g l t : Nat} {z : Gp} {Lgr : Chunks} (hg : IsGr I g l t z Lgr) {tb : Tb} {Lt : Chunks} (hT : IsT I t tb Lt) (h0 : 0 < z.c.clear.length) {e : Nat × Ent} (hgt : tb.get (z.c.clear[0]'h0) = some e) (hes : ∀ e, tb.get (z.c.clear[0]'h0) = some e → e.2.sized) : Spec Tryz.prog 189 [.pointer (some ⟨g, 0, none⟩)] I (Lgr ++ Lt) (fun v J L => v = .bool (z.looks tb).1 ∧ ∃ Lg2 Lt2, L = Lg2 ++ Lt2 ∧ IsGr J g l t (z.looks tb).2 Lg2 ∧ IsT J t tb Lt2) := by
 cases hg with
 | @mk vc vn vw vp vb vl hc hn hw hs hp hb hl hk =>
 obtain ⟨Ac, cc, rfl, hcc, _, _⟩ := id hc
 obtain ⟨nvn, hn1, hn2⟩ := id hn.ex
 obtain ⟨An, cn, rfl, _⟩ := hn1.slice'
 obtain ⟨Aw, cw, rfl, _⟩ := hw.slice'
 obtain ⟨Ap, cp, rfl, hcp, _, _⟩ := id hp.rd
 obtain ⟨Ab, cb, rfl, _⟩ := id hb
 obtain ⟨Al, cl, rfl, hcl, _, _⟩ := id hl.rd
 obtain ⟨bi, ki, Ti, fi, ari, ei, hbi, hci⟩ := ints_at hc h0
 refine Spec.of Tryz.func189 rfl Tryz.ntmps189 (Nat.le_of_ble_eq_true rfl) (fun F => ?_)
 try simp only [nf]
 dsimp only [argsEnv]
 refine WP.seq ?_; refine WP.region [0] rfl ?_; refine WP.mv rfl rfl ?_; refine WP.nil (WP.next (WP.seq ?_))
 refine WD.start Tryzmixed 16 (fun c o => (c = g ∧ o = row 60 (cmV l t (nextV g z.at_) (.func (.func 53) [.pointer (some ⟨g, 0, none⟩)].toArray [].toArray) z.c (.slice Ac z.c.clear.length cc) (.slice An z.c.ent.nodes.length cn) (.slice Aw z.c.ent.with_.length cw) [.int .u64 (z.tok : Int), .slice Ap z.pages.length cp, .slice Ab z.bytes.length cb, .int .i64 z.place, .slice Al z.left.length cl])) ∨ I.blk c = some o) (fun _ _ => False) (by rintro _ _ (⟨rfl, rfl⟩ | h); exact zM; exact There.i h) (fun _ _ h => h.elim) 18 [false, false, false, false, false, false, false, false, false, false, false, false, false, false, false, false, false, false] rfl rfl ?_; refine WD.vl (i := 0) rfl (Yld.move rfl rfl) ?_; refine WD.vl (i := 1) rfl (Yld.nilCheck rfl rfl) ?_; refine WD.vl (i := 2) rfl (Yld.fieldAddr rfl ty_fd_58_0 rfl) ?_; refine WD.vl (i := 3) rfl (Yld.fieldAddr rfl ty_fd_54_1 rfl) ?_; refine WD.val1 (i := 4) rfl rfl rfl rfl zK rfl zK (Yld.load (v := .pointer (some ⟨t, 0, none⟩)) rfl ty_sc_32 rfl (.inl (.inl ⟨rfl, rfl⟩)) rfl) ?_; refine WD.vl (i := 5) rfl (Yld.move rfl rfl) ?_; refine WD.vl (i := 6) rfl (Yld.nilCheck rfl rfl) ?_; refine WD.vl (i := 7) rfl (Yld.fieldAddr rfl ty_fd_58_3 rfl) ?_; refine WD.val1 (i := 8) rfl rfl rfl rfl zK rfl zK (Yld.load (v := .slice Ac z.c.clear.length cc) rfl ty_sc_22 rfl (.inl (.inl ⟨rfl, rfl⟩)) rfl) ?_; refine WD.vl (i := 9) rfl (Yld.indexAddr (i := 0) rfl ty_sl_22 (congrArg (fun a => some (Value.slice a z.c.clear.length cc)) ei) rfl h0) ?_; refine WD.val1 (i := 10) rfl rfl rfl rfl zK rfl zK (Yld.loadC rfl ty_sc_3 rfl (.inl (.inr hbi)) hci) ?_
 refine WD.both (i := 11) (j := 15) zK rfl rfl ?_ ?_
 ·refine WP.oper rfl rfl ?_
  refine Op.cl (tabT_Load1 hT hgt) rfl Tryz.func12 rfl rfl rfl rfl ?_; rintro v J2 Lt2 hJ2 ⟨cs, rfl, hre, hT⟩
  try simp only [nf]
  obtain ⟨vn2, vw2, nv2, rfl, q1, q2, q3⟩ := id hre.ex
  obtain ⟨An2, cn2, rfl, _⟩ := q1.slice'
  obtain ⟨Aw2, cw2, rfl, _⟩ := q3.slice'
  refine WD.go (.inr (by rintro _ _ (⟨rfl, rfl⟩ | h); exact zM; first | exact There.i h | exact There.i (hJ2.2 _ _ h) | exact There.i (hJ3.2 _ _ (hJ2.2 _ _ h)) | exact There.i (hJ3.2 _ _ h))) (fun _ _ h => h.elim) ?_; refine WD.vl (i := 12) rfl (Yld.move rfl rfl) ?_; refine WD.vl (i := 13) rfl (Yld.extract rfl rfl rfl) ?_; refine WD.vl (i := 14) rfl (Yld.extract rfl rfl rfl) ?_; refine WD.loud (i := 15) zK rfl rfl rfl ?_; refine Op.alloc rfl rfl rfl ty_zr_43 (fun b15 => ?_)
  refine WD.go (.inr (by rintro _ _ (⟨rfl, rfl⟩ | h); exact zM; first | exact There.i h | exact There.i (hJ2.2 _ _ h) | exact There.i (hJ3.2 _ _ (hJ2.2 _ _ h)) | exact There.i (hJ3.2 _ _ h))) (fun _ _ h => h.elim) ?_; refine WD.loud (i := 16) zK rfl rfl rfl ?_; refine Op.sA rfl rfl ty_sz_43 rfl rfl rfl rfl rfl ?_; refine WD.go (.inl rfl) (fun _ _ h => h.elim) ?_; refine WD.vl (i := 17) rfl (Yld.assign rfl rfl) ?_; refine WD.done zK ?_; refine WP.sub [(0, _), (2, _), (3, _), (4, _)] ?_ ⟨rfl, rfl, rfl, rfl, trivial⟩
  refine WP.next (WP.seq (WP.seq ?_))
  refine WQ.startAll Tryzmixed zK _ rfl ?_; refine WQ.val rfl rfl rfl (Yld.move rfl rfl) ?_; refine WQ.val rfl rfl rfl (Yld.neq rfl rfl rfl false (decide_eq_false (by simp))) ?_; refine WQ.val rfl rfl rfl (Yld.move rfl rfl) ?_; refine WQ.valG rfl rfl rfl rfl rfl rfl (Yld.fieldAddr rfl ty_fd_43_6 rfl) ?_; refine WQ.valG rfl rfl rfl rfl rfl rfl (Yld.ld (v := .int .i64 e.2.txn) rfl ty_sc_3 rfl rfl) ?_; refine WQ.valG rfl rfl rfl rfl rfl rfl (Yld.move rfl rfl) ?_; refine WQ.valG rfl rfl rfl rfl rfl rfl (Yld.nilCheck rfl rfl) ?_; refine WQ.valG rfl rfl rfl rfl rfl rfl (Yld.fieldAddr rfl ty_fd_58_1 rfl) ?_; refine WQ.valG rfl rfl rfl rfl rfl rfl (Yld.ld (v := .int .i64 z.c.txn) rfl ty_sc_3 rfl rfl) ?_; refine WQ.splitG rfl rfl rfl rfl rfl rfl (Yld.neq rfl rfl rfl) (fun hx => ?_) (fun hx => ?_)
  ·refine WQ.val rfl rfl rfl (Yld.pickF rfl rfl rfl) ?_
   refine WQ.nil ?_; refine WP.sub [(0, _), (2, _), (3, _), (4, _), (30, _)] ?_ ⟨rfl, rfl, rfl, rfl, rfl, trivial⟩
   refine WP.next ?_; refine WP.condT rfl ?_; refine WP.seq ?_; have hg2 := (IsGr.mk (g := g) (l := l) (t := t) (z := z) hc hn hw hs hp hb hl hk).mono hJ2
   refine WP.region [0, 1, 2] rfl ?_; refine WP.mv rfl rfl ?_; refine WP.loud rfl rfl ?_; refine Op.cl (txn_past hg2 h0) rfl Tryz.func190 rfl rfl rfl rfl ?_; rintro v J3 Lr hJ3 ⟨rfl, hres⟩
   try simp only [nf]
   refine WP.mv rfl rfl ?_; refine WP.nil ?_; refine WP.sub [(0, _), (2, _), (3, _), (4, _), (30, _)] ?_ ⟨rfl, rfl, rfl, rfl, rfl, trivial⟩
   refine WP.next (WP.ret ?_)
   refine WP.fn .ret (.inr rfl) (res1 rfl rfl) (Lr ++ Lt2) (Imm.le_trans hJ2 hJ3) ?_; have e : z.looks tb = z.past := by unfold Gp.looks; rw [headD_0 h0, hgt]; exact if_pos hx
   rw [e]; exact ⟨rfl, Lr, _, rfl, hres, hT.mono hJ3⟩
  ·refine WQ.val rfl rfl rfl (Yld.pickF rfl rfl rfl) ?_
   refine WQ.nil ?_; refine WP.sub [(0, _), (2, _), (3, _), (4, _), (30, _)] ?_ ⟨rfl, rfl, rfl, rfl, rfl, trivial⟩
   refine WP.next ?_; refine WP.condF rfl ?_; refine WP.skip (WP.next (WP.seq ?_))
   refine WP.region [0, 1, 2, 3, 4] rfl ?_; refine WP.mv rfl rfl ?_; refine WP.vl rfl (Yld.ldg (vs := entV e.2 (.slice An2 e.2.nodes.length cn2) (.slice Aw2 e.2.with_.length cw2)) rfl ty_ag_43 rfl rfl rfl) ?_; refine WP.vl rfl (Yld.nilCheck rfl rfl) ?_; refine WP.vl rfl (Yld.fieldAddr rfl ty_fd_58_4 rfl) ?_; refine WP.loud rfl rfl ?_; refine Op.storeN rfl rfl ty_sz_43 rfl rfl rfl rfl (Nat.le_of_ble_eq_true rfl) (show cmV l t (nextV g z.at_) (.func (.func 53) [.pointer (some ⟨g, 0, none⟩)].toArray [].toArray) ({ z.c with ent := e.2 } : Cm) (.slice Ac z.c.clear.length cc) (.slice An2 e.2.nodes.length cn2) (.slice Aw2 e.2.with_.length cw2) [.int .u64 (z.tok : Int), .slice Ap z.pages.length cp, .slice Ab z.bytes.length cb, .int .i64 z.place, .slice Al z.left.length cl] = _ from rfl) (by repeat (first | exact Upd.head | apply Upd.tail | apply Upd.tailS)) ?_; refine WP.nil ?_; refine WP.sub [(0, _), (2, _), (3, _), (4, _), (30, _)] ?_ ⟨rfl, rfl, rfl, rfl, rfl, trivial⟩
   refine WP.next (WP.seq ?_)
   refine WP.region [0, 1, 2, 3, 4, 5, 6] rfl ?_; refine WP.mv rfl rfl ?_; refine WP.vl rfl (Yld.nilCheck rfl rfl) ?_; refine WP.vl rfl (Yld.fieldAddr rfl ty_fd_58_0 rfl) ?_; refine WP.mv rfl rfl ?_; refine WP.vl rfl (Yld.makeFunc rfl (vs := [_]) (us := []) rfl rfl) ?_; refine WP.loud rfl rfl ?_; refine Op.cl (txn_goes (b := g)) rfl Tryz.func111 rfl rfl rfl rfl ?_; rintro v J L1 - ⟨rfl, rfl, rfl⟩
   try simp only [nf]
   refine WP.mv rfl rfl ?_; refine WP.nil ?_; refine WP.sub [(0, _), (2, _), (3, _), (4, _), (30, _)] ?_ ⟨rfl, rfl, rfl, rfl, rfl, trivial⟩
   refine WP.next (WP.ret ?_)
   refine WP.fn .ret (.inr rfl) (res1 rfl rfl) ([(g, row 60 (cmV l t (nextV g 7) (.func (.func 53) [.pointer (some ⟨g, 0, none⟩)].toArray [].toArray) ({ z.c with ent := e.2 } : Cm) (.slice Ac z.c.clear.length cc) (.slice An2 e.2.nodes.length cn2) (.slice Aw2 e.2.with_.length cw2) [.int .u64 (z.tok : Int), .slice Ap z.pages.length cp, .slice Ab z.bytes.length cb, .int .i64 z.place, .slice Al z.left.length cl]))] ++ Lt2) hJ2 ?_; have e1 : z.looks tb = (false, (z.setC { z.c with ent := e.2 }).go 7) := by unfold Gp.looks; rw [headD_0 h0, hgt]; exact if_neg hx
   rw [e1]; exact ⟨rfl, _, _, rfl, .mk (hc.mono fun b o q => hJ2.2 b o q) ⟨nv2, q1, q2⟩ q3 (hes e hgt) (hp.mono hJ2) (hb.mono fun b o q => hJ2.2 b o q) (hl.mono hJ2) hk, hT⟩
 ·refine WP.oper rfl rfl ?_
  refine Op.alloc rfl rfl rfl ty_zr_43 (fun b15 => ?_)
  refine WD.go (.inr (by rintro _ _ (⟨rfl, rfl⟩ | h); exact zM; first | exact There.i h | exact There.i (hJ2.2 _ _ h) | exact There.i (hJ3.2 _ _ (hJ2.2 _ _ h)) | exact There.i (hJ3.2 _ _ h))) (fun _ _ h => h.elim) ?_; refine WD.loud (i := 11) zK rfl rfl rfl ?_; refine Op.cl (tabT_Load1 hT hgt) rfl Tryz.func12 rfl rfl rfl rfl ?_; rintro v J2 Lt2 hJ2 ⟨cs, rfl, hre, hT⟩
  try simp only [nf]
  obtain ⟨vn2, vw2, nv2, rfl, q1, q2, q3⟩ := id hre.ex
  obtain ⟨An2, cn2, rfl, _⟩ := q1.slice'
  obtain ⟨Aw2, cw2, rfl, _⟩ := q3.slice'
  refine WD.go (.inr (by rintro _ _ (⟨rfl, rfl⟩ | h); exact zM; first | exact There.i h | exact There.i (hJ2.2 _ _ h) | exact There.i (hJ3.2 _ _ (hJ2.2 _ _ h)) | exact There.i (hJ3.2 _ _ h))) (fun _ _ h => h.elim) ?_; refine WD.vl (i := 12) rfl (Yld.move rfl rfl) ?_; refine WD.vl (i := 13) rfl (Yld.extract rfl rfl rfl) ?_; refine WD.vl (i := 14) rfl (Yld.extract rfl rfl rfl) ?_; refine WD.loud (i := 16) zK rfl rfl rfl ?_; refine Op.sA rfl rfl ty_sz_43 rfl rfl rfl rfl rfl ?_; refine WD.go (.inl rfl) (fun _ _ h => h.elim) ?_; refine WD.vl (i := 17) rfl (Yld.assign rfl rfl) ?_; refine WD.done zK ?_; refine WP.sub [(0, _), (2, _), (3, _), (4, _)] ?_ ⟨rfl, rfl, rfl, rfl, trivial⟩
  refine WP.next (WP.seq (WP.seq ?_))
  refine WQ.startAll Tryzmixed zK _ rfl ?_; refine WQ.val rfl rfl rfl (Yld.move rfl rfl) ?_; refine WQ.val rfl rfl rfl (Yld.neq rfl rfl rfl false (decide_eq_false (by simp))) ?_; refine WQ.val rfl rfl rfl (Yld.move rfl rfl) ?_; refine WQ.valG rfl rfl rfl rfl rfl rfl (Yld.fieldAddr rfl ty_fd_43_6 rfl) ?_; refine WQ.valG rfl rfl rfl rfl rfl rfl (Yld.ld (v := .int .i64 e.2.txn) rfl ty_sc_3 rfl rfl) ?_; refine WQ.valG rfl rfl rfl rfl rfl rfl (Yld.move rfl rfl) ?_; refine WQ.valG rfl rfl rfl rfl rfl rfl (Yld.nilCheck rfl rfl) ?_; refine WQ.valG rfl rfl rfl rfl rfl rfl (Yld.fieldAddr rfl ty_fd_58_1 rfl) ?_; refine WQ.valG rfl rfl rfl rfl rfl rfl (Yld.ld (v := .int .i64 z.c.txn) rfl ty_sc_3 rfl rfl) ?_; refine WQ.splitG rfl rfl rfl rfl rfl rfl (Yld.neq rfl rfl rfl) (fun hx => ?_) (fun hx => ?_)
  ·refine WQ.val rfl rfl rfl (Yld.pickF rfl rfl rfl) ?_
   refine WQ.nil ?_; refine WP.sub [(0, _), (2, _), (3, _), (4, _), (30, _)] ?_ ⟨rfl, rfl, rfl, rfl, rfl, trivial⟩
   refine WP.next ?_; refine WP.condT rfl ?_; refine WP.seq ?_; have hg2 := (IsGr.mk (g := g) (l := l) (t := t) (z := z) hc hn hw hs hp hb hl hk).mono hJ2
   refine WP.region [0, 1, 2] rfl ?_; refine WP.mv rfl rfl ?_; refine WP.loud rfl rfl ?_; refine Op.cl (txn_past hg2 h0) rfl Tryz.func190 rfl rfl rfl rfl ?_; rintro v J3 Lr hJ3 ⟨rfl, hres⟩
   try simp only [nf]
   refine WP.mv rfl rfl ?_; refine WP.nil ?_; refine WP.sub [(0, _), (2, _), (3, _), (4, _), (30, _)] ?_ ⟨rfl, rfl, rfl, rfl, rfl, trivial⟩
   refine WP.next (WP.ret ?_)
   refine WP.fn .ret (.inr rfl) (res1 rfl rfl) (Lr ++ Lt2) (Imm.le_trans hJ2 hJ3) ?_; have e : z.looks tb = z.past := by unfold Gp.looks; rw [headD_0 h0, hgt]; exact if_pos hx
   rw [e]; exact ⟨rfl, Lr, _, rfl, hres, hT.mono hJ3⟩
  ·refine WQ.val rfl rfl rfl (Yld.pickF rfl rfl rfl) ?_
   refine WQ.nil ?_; refine WP.sub [(0, _), (2, _), (3, _), (4, _), (30, _)] ?_ ⟨rfl, rfl, rfl, rfl, rfl, trivial⟩
   refine WP.next ?_; refine WP.condF rfl ?_; refine WP.skip (WP.next (WP.seq ?_))
   refine WP.region [0, 1, 2, 3, 4] rfl ?_; refine WP.mv rfl rfl ?_; refine WP.vl rfl (Yld.ldg (vs := entV e.2 (.slice An2 e.2.nodes.length cn2) (.slice Aw2 e.2.with_.length cw2)) rfl ty_ag_43 rfl rfl rfl) ?_; refine WP.vl rfl (Yld.nilCheck rfl rfl) ?_; refine WP.vl rfl (Yld.fieldAddr rfl ty_fd_58_4 rfl) ?_; refine WP.loud rfl rfl ?_; refine Op.storeN rfl rfl ty_sz_43 rfl rfl rfl rfl (Nat.le_of_ble_eq_true rfl) (show cmV l t (nextV g z.at_) (.func (.func 53) [.pointer (some ⟨g, 0, none⟩)].toArray [].toArray) ({ z.c with ent := e.2 } : Cm) (.slice Ac z.c.clear.length cc) (.slice An2 e.2.nodes.length cn2) (.slice Aw2 e.2.with_.length cw2) [.int .u64 (z.tok : Int), .slice Ap z.pages.length cp, .slice Ab z.bytes.length cb, .int .i64 z.place, .slice Al z.left.length cl] = _ from rfl) (by repeat (first | exact Upd.head | apply Upd.tail | apply Upd.tailS)) ?_; refine WP.nil ?_; refine WP.sub [(0, _), (2, _), (3, _), (4, _), (30, _)] ?_ ⟨rfl, rfl, rfl, rfl, rfl, trivial⟩
   refine WP.next (WP.seq ?_)
   refine WP.region [0, 1, 2, 3, 4, 5, 6] rfl ?_; refine WP.mv rfl rfl ?_; refine WP.vl rfl (Yld.nilCheck rfl rfl) ?_; refine WP.vl rfl (Yld.fieldAddr rfl ty_fd_58_0 rfl) ?_; refine WP.mv rfl rfl ?_; refine WP.vl rfl (Yld.makeFunc rfl (vs := [_]) (us := []) rfl rfl) ?_; refine WP.loud rfl rfl ?_; refine Op.cl (txn_goes (b := g)) rfl Tryz.func111 rfl rfl rfl rfl ?_; rintro v J L1 - ⟨rfl, rfl, rfl⟩
   try simp only [nf]
   refine WP.mv rfl rfl ?_; refine WP.nil ?_; refine WP.sub [(0, _), (2, _), (3, _), (4, _), (30, _)] ?_ ⟨rfl, rfl, rfl, rfl, rfl, trivial⟩
   refine WP.next (WP.ret ?_)
   refine WP.fn .ret (.inr rfl) (res1 rfl rfl) ([(g, row 60 (cmV l t (nextV g 7) (.func (.func 53) [.pointer (some ⟨g, 0, none⟩)].toArray [].toArray) ({ z.c with ent := e.2 } : Cm) (.slice Ac z.c.clear.length cc) (.slice An2 e.2.nodes.length cn2) (.slice Aw2 e.2.with_.length cw2) [.int .u64 (z.tok : Int), .slice Ap z.pages.length cp, .slice Ab z.bytes.length cb, .int .i64 z.place, .slice Al z.left.length cl]))] ++ Lt2) hJ2 ?_; have e1 : z.looks tb = (false, (z.setC { z.c with ent := e.2 }).go 7) := by unfold Gp.looks; rw [headD_0 h0, hgt]; exact if_neg hx
   rw [e1]; exact ⟨rfl, _, _, rfl, .mk (hc.mono fun b o q => hJ2.2 b o q) ⟨nv2, q1, q2⟩ q3 (hes e hgt) (hp.mono hJ2) (hb.mono fun b o q => hJ2.2 b o q) (hl.mono hJ2) hk, hT⟩


end Go.Hp
