import Derived.Test.YtilgaelpbgfnnaaGreatTxnI
set_option linter.unusedVariables false
set_option linter.unusedSimpArgs false
namespace Go.Hp
open Go Go.Proofs

open Classical in
/-- What a group's writing answers. -/
noncomputable def encE (l : List Pr) : Int := if mayG l then (if 12671 < (groupB l).length then 2 else 0) else 120
theorem txn_EncodeGroupE {I : Imm} {l : List (Pr × Value)} {v : Value} (hv : RPrs I v l) (hln : l.length ≤ 140737488351232) (hnl : ∀ x ∈ l, x.1.nodes.length ≤ 140737488351232) (hsz : (groupB (prs l)).length ≤ 140737488355328) : Spec Tryz.prog 27 [v] I [] (fun v J L' => (encE (prs l) ≠ 0 ∧ v = .tuple #[.slice none 0 0, .int .i64 (encE (prs l))] ∧ L' = []) ∨ (encE (prs l) = 0 ∧ (∃ vb, v = .tuple #[vb, .int .i64 0] ∧ Own 5 1 vb (bytesV (groupB (prs l))) (groupB (prs l)).length L'))) :=
 (txn_EncodeGroup hv hln hnl fun _ => hsz).mono (by
  rintro v J L' _ (⟨h1, h2, h3⟩ | ⟨h1, ⟨h2, h3, h4⟩ | ⟨h2, h3⟩⟩)
  ·have e : encE (prs l) = 120 := if_neg h1
   rw [e]; exact .inl ⟨by decide, h2, h3⟩
  ·have e : encE (prs l) = 2 := (if_pos h1).trans (if_pos h2)
   rw [e]; exact .inl ⟨by decide, h3, h4⟩
  ·have e : encE (prs l) = 0 := (if_pos h1).trans (if_neg (by omega))
   exact .inr ⟨e, h3⟩)
def Gp.setB (z : Gp) (b : List UInt8) : Gp := { z with bytes := b }
noncomputable def Gp.begins (x : Lg) (z : Gp) : Bool × Gp := if encE (prs z.pages) = 0 then (false, ((z.setB (groupB (prs z.pages))).setC ({ z.c with hn := x.no, hp := x.pl } : Cm)).go 1) else (true, z.fin (encE (prs z.pages)))
def Gp.appd (z : Gp) (no : Nat) : Gp := { z with c := { z.c with txn := no }, place := z.c.hp, left := thoseL z.pages 1 true }
def Gp.appends (z : Gp) (e : Int) (no : Nat) : Bool × Gp := if e = 0 then (if thoseL z.pages 1 true = [] then (false, (z.appd no).go 3) else (false, (z.appd no).go 2)) else if e = 5 then (false, z.go 0) else (true, z.fin e)
/-- Sizes that a machine's pages keep. -/
structure Gp.sz (z : Gp) : Prop where
 n : ∀ x ∈ z.pages, x.1.nodes.length ≤ 4398046510976
 d : ∀ x ∈ z.pages, ∀ y ∈ x.1.nodes, y.2.length ≤ 140737488351232
 g : (groupB (prs z.pages)).length ≤ 140737488355328
theorem txn_begin {I : Imm} {g l t : Nat} {z : Gp} {Lgr : Chunks} (hg : IsGr I g l t z Lgr) {s d n : Nat} {x : Lg} {y : Dk} {Ll : Chunks} (hlg : IsLog I l s d n x y Ll) (hz : z.sz) : Spec Tryz.prog 52 [.pointer (some ⟨g, 0, none⟩)] I (Lgr ++ Ll) (fun v J L => v = .bool (z.begins x).1 ∧ ∃ Lg2, L = Lg2 ++ Ll ∧ IsGr J g l t (z.begins x).2 Lg2 ∧ IsLog J l s d n x y Ll) := by
 cases hg with
 | @mk vc vn vw vp vb vl hc hn hw hs hp hb hl hk =>
 obtain ⟨Ac, cc, rfl, hcc, _, _⟩ := id hc
 obtain ⟨nvn, hn1, hn2⟩ := id hn.ex
 obtain ⟨An, cn, rfl, _⟩ := hn1.slice'
 obtain ⟨Aw, cw, rfl, _⟩ := hw.slice'
 obtain ⟨Ap, cp, rfl, hcp, _, _⟩ := id hp.rd
 obtain ⟨Ab, cb, rfl, _⟩ := id hb
 obtain ⟨Al, cl, rfl, hcl, _, _⟩ := id hl.rd
 refine Spec.of Tryz.func52 rfl Tryz.ntmps52 (Nat.le_of_ble_eq_true rfl) (fun F => ?_)
 try simp only [nf]
 dsimp only [argsEnv]
 refine WP.seq ?_; refine WP.region [0] rfl ?_; refine WP.mv rfl rfl ?_; refine WP.nil (WP.next (WP.seq ?_))
 refine WP.region [0, 1, 2, 3, 4, 5, 6, 7, 8, 9] rfl ?_; refine WP.mv rfl rfl ?_; refine WP.vl rfl (Yld.nilCheck rfl rfl) ?_; refine WP.vl rfl (Yld.fieldAddr rfl ty_fd_60_2 rfl) ?_; refine WP.vl rfl (Yld.ld (v := .slice Ap z.pages.length cp) rfl ty_sc_52 rfl rfl) ?_; refine WP.loud rfl rfl ?_; refine Op.cl (txn_EncodeGroupE hp (by omega) (fun x hx => by have := hz.n x hx; omega) hz.g) rfl Tryz.func27 rfl rfl rfl rfl ?_; rintro v J1 L1 hJ1 hen
 try simp only [nf]
 obtain ⟨vA, eA, rfl, hea⟩ : ∃ vA eA, v = .tuple #[vA, .int .i64 eA] ∧ eA = encE (prs z.pages) := by rcases hen with ⟨_, rfl, _⟩ | ⟨h, vb, rfl, _⟩; exact ⟨_, _, rfl, rfl⟩; exact ⟨_, _, rfl, h.symm⟩
 refine WP.mv rfl rfl ?_; iterate 2 refine WP.vl rfl (Yld.extract rfl rfl rfl) ?_
 iterate 2 refine WP.mv rfl rfl ?_
 refine WP.nil ?_; refine WP.sub [(0, _), (2, _), (3, _), (4, _)] ?_ ⟨rfl, rfl, rfl, rfl, trivial⟩
 refine WP.next (WP.seq (WP.seq ?_))
 refine WP.region [0, 1] rfl ?_; refine WP.mv rfl rfl ?_; refine WP.split rfl rfl rfl rfl (Yld.neq rfl rfl rfl) (fun hne => ?_) (fun hne => ?_)
 ·have h0 : ¬ encE (prs z.pages) = 0 := by omega
  refine WP.nil ?_; refine WP.sub [(0, _), (2, _), (3, _), (4, _), (14, _)] ?_ ⟨rfl, rfl, rfl, rfl, rfl, trivial⟩
  refine WP.next ?_; refine WP.condT rfl ?_; refine WP.seq ?_; refine WP.region [0, 1, 2, 3, 4, 5, 6] rfl ?_; refine WP.mv rfl rfl ?_; refine WP.vl rfl (Yld.nilCheck rfl rfl) ?_; refine WP.vl rfl (Yld.fieldAddr rfl ty_fd_60_0 rfl) ?_; refine WP.vl rfl (Yld.fieldAddr rfl ty_fd_58_0 rfl) ?_; refine WP.mv rfl rfl ?_; refine WP.loud rfl rfl ?_; refine Op.cl (txn_end (b := g)) rfl Tryz.func110 rfl rfl rfl rfl ?_; rintro v J L1 - ⟨rfl, rfl, rfl⟩
  try simp only [nf]
  refine WP.mv rfl rfl ?_; refine WP.nil ?_; refine WP.sub [(0, _), (2, _), (3, _), (4, _), (14, _)] ?_ ⟨rfl, rfl, rfl, rfl, rfl, trivial⟩
  refine WP.next (WP.ret ?_)
  refine WP.fn .ret (.inr rfl) (res1 rfl rfl) ([(g, row 60 (cmV l t (nextV g 9) (.func (.func 53) [.pointer (some ⟨g, 0, none⟩)].toArray [].toArray) ({ z.c with e := eA } : Cm) (.slice Ac z.c.clear.length cc) (.slice An z.c.ent.nodes.length cn) (.slice Aw z.c.ent.with_.length cw) [.int .u64 (z.tok : Int), .slice Ap z.pages.length cp, .slice Ab z.bytes.length cb, .int .i64 z.place, .slice Al z.left.length cl]))] ++ Ll) hJ1 ?_; have e1 : z.begins x = (true, z.fin (encE (prs z.pages))) := if_neg h0
  subst hea; exact ⟨by rw [e1], _, rfl, by rw [e1]; exact (.mk (hc.mono fun b o q => hJ1.2 b o q) (hn.mono hJ1) (hw.mono (Imv.le hJ1)) hs (hp.mono hJ1) (hb.mono fun b o q => hJ1.2 b o q) (hl.mono hJ1) hk), hlg.mono hJ1⟩
 ·have h0 : encE (prs z.pages) = 0 := by omega
  obtain ⟨vb2, hvb, hob⟩ := (hen.resolve_left (fun h => h.1 h0)).2
  obtain ⟨Ab2, cb2, rfl, _⟩ := hob.slice
  obtain rfl : vA = .slice Ab2 (groupB (prs z.pages)).length cb2 := by injection hvb with h; injection h with h; injection h
  refine WP.nil ?_; refine WP.sub [(0, _), (2, _), (3, _), (4, _), (14, _)] ?_ ⟨rfl, rfl, rfl, rfl, rfl, trivial⟩
  refine WP.next ?_; refine WP.condF rfl ?_; refine WP.skip (WP.next (WP.seq ?_))
  refine WP.region [0, 1, 2, 3, 4, 5, 6, 7, 8, 9, 10, 11, 12, 13, 14, 15, 16] rfl ?_; iterate 4 refine WP.mv rfl rfl ?_
  refine WP.vl rfl (Yld.nilCheck rfl rfl) ?_; refine WP.vl rfl (Yld.fieldAddr rfl ty_fd_60_0 rfl) ?_; refine WP.vl rfl (Yld.fieldAddr rfl ty_fd_58_0 rfl) ?_; refine WP.vl rfl (Yld.fieldAddr rfl ty_fd_54_0 rfl) ?_; refine WP.vl rfl (Yld.ld (v := .pointer (some ⟨l, 0, none⟩)) rfl ty_sc_31 rfl rfl) ?_; refine WP.loud rfl rfl ?_; refine Op.cl (log_Head (hlg.mono hJ1)) rfl Tryz.func18 rfl rfl rfl rfl ?_; rintro v J L1 - ⟨rfl, rfl, rfl⟩
  try simp only [nf]
  refine WP.vl rfl (Yld.nilCheck rfl rfl) ?_; refine WP.vl rfl (Yld.fieldAddr rfl ty_fd_60_3 rfl) ?_; refine WP.loud rfl rfl ?_; refine Op.s1 rfl rfl ty_sz_49 rfl rfl rfl ?_; refine WP.vl rfl (Yld.nilCheck rfl rfl) ?_; refine WP.vl rfl (Yld.fieldAddr rfl ty_fd_60_0 rfl) ?_; refine WP.vl rfl (Yld.fieldAddr rfl ty_fd_58_2 rfl) ?_; refine WP.loud rfl rfl ?_; refine Op.storeN rfl rfl ty_sz_56 rfl rfl rfl rfl (Nat.le_of_ble_eq_true rfl) (show cmV l t (nextV g z.at_) (.func (.func 53) [.pointer (some ⟨g, 0, none⟩)].toArray [].toArray) ({ z.c with hn := x.no, hp := x.pl } : Cm) (.slice Ac z.c.clear.length cc) (.slice An z.c.ent.nodes.length cn) (.slice Aw z.c.ent.with_.length cw) [.int .u64 (z.tok : Int), .slice Ap z.pages.length cp, .slice Ab2 (groupB (prs z.pages)).length cb2, .int .i64 z.place, .slice Al z.left.length cl] = _ from rfl) (by repeat (first | exact Upd.head | apply Upd.tail | apply Upd.tailS)) ?_; refine WP.nil ?_; refine WP.sub [(0, _), (2, _), (3, _), (4, _), (14, _)] ?_ ⟨rfl, rfl, rfl, rfl, rfl, trivial⟩
  refine WP.next (WP.seq ?_)
  refine WP.shO hob (fun J2 hJ2 hb2 => ?_)
  have hJa := Imm.le_trans hJ1 hJ2
  refine WP.region [0, 1, 2, 3, 4, 5, 6, 7] rfl ?_; refine WP.mv rfl rfl ?_; refine WP.vl rfl (Yld.nilCheck rfl rfl) ?_; refine WP.vl rfl (Yld.fieldAddr rfl ty_fd_60_0 rfl) ?_; refine WP.vl rfl (Yld.fieldAddr rfl ty_fd_58_0 rfl) ?_; refine WP.mv rfl rfl ?_; refine WP.vl rfl (Yld.makeFunc rfl (vs := [_]) (us := []) rfl rfl) ?_; refine WP.loud rfl rfl ?_; refine Op.cl (txn_goes (b := g)) rfl Tryz.func111 rfl rfl rfl rfl ?_; rintro v J L1 - ⟨rfl, rfl, rfl⟩
  try simp only [nf]
  refine WP.mv rfl rfl ?_; refine WP.nil ?_; refine WP.sub [(0, _), (2, _), (3, _), (4, _), (14, _)] ?_ ⟨rfl, rfl, rfl, rfl, rfl, trivial⟩
  refine WP.next (WP.ret ?_)
  refine WP.fn .ret (.inr rfl) (res1 rfl rfl) ([(g, row 60 (cmV l t (nextV g 1) (.func (.func 53) [.pointer (some ⟨g, 0, none⟩)].toArray [].toArray) ({ z.c with hn := x.no, hp := x.pl } : Cm) (.slice Ac z.c.clear.length cc) (.slice An z.c.ent.nodes.length cn) (.slice Aw z.c.ent.with_.length cw) [.int .u64 (z.tok : Int), .slice Ap z.pages.length cp, .slice Ab2 (groupB (prs z.pages)).length cb2, .int .i64 z.place, .slice Al z.left.length cl]))] ++ Ll) hJa ?_; have e1 : z.begins x = (false, ((z.setB (groupB (prs z.pages))).setC ({ z.c with hn := x.no, hp := x.pl } : Cm)).go 1) := if_pos h0
  exact ⟨by rw [e1], _, rfl, by rw [e1]; exact .mk (hc.mono fun b o q => hJa.2 b o q) (hn.mono hJa) (hw.mono (Imv.le hJa)) hs (hp.mono hJa) hb2 (hl.mono hJa) hk, hlg.mono hJa⟩

theorem txn_appends {I : Imm} {g l t : Nat} {z : Gp} {Lgr : Chunks} (hg : IsGr I g l t z Lgr) {s d n : Nat} {x : Lg} {y : Dk} {Ll : Chunks} (hlg : IsLog I l s d n x y Ll) (hp1 : 1 ≤ z.pages.length) : Spec Tryz.prog 112 [.pointer (some ⟨g, 0, none⟩)] I (Lgr ++ Ll) (fun v J L => ∃ e x2 Lg2 Ll2, e = x.apE z.c.hn z.c.hp 3 z.bytes ∧ ApK x 3 z.bytes e x2 ∧ v = .bool (z.appends e x2.no).1 ∧ L = Lg2 ++ Ll2 ∧ IsGr J g l t (z.appends e x2.no).2 Lg2 ∧ IsLog J l s d n x2 y Ll2) := by
 cases hg with
 | @mk vc vn vw vp vb vl hc hn hw hs hp hb hl hk =>
 obtain ⟨Ac, cc, rfl, hcc, _, _⟩ := id hc
 obtain ⟨nvn, hn1, hn2⟩ := id hn.ex
 obtain ⟨An, cn, rfl, _⟩ := hn1.slice'
 obtain ⟨Aw, cw, rfl, _⟩ := hw.slice'
 obtain ⟨Ap, cp, rfl, hcp, _, _⟩ := id hp.rd
 obtain ⟨Ab, cb, rfl, _⟩ := id hb
 obtain ⟨Al, cl, rfl, hcl, _, _⟩ := id hl.rd
 refine Spec.of Tryz.func112 rfl Tryz.ntmps112 (Nat.le_of_ble_eq_true rfl) (fun F => ?_)
 try simp only [nf]
 dsimp only [argsEnv]
 refine WP.seq ?_; refine WP.region [0] rfl ?_; refine WP.mv rfl rfl ?_; refine WP.nil (WP.next (WP.seq ?_))
 refine WD.start Tryzmixed 20 (fun c o => (c = g ∧ o = row 60 (cmV l t (nextV g z.at_) (.func (.func 53) [.pointer (some ⟨g, 0, none⟩)].toArray [].toArray) z.c (.slice Ac z.c.clear.length cc) (.slice An z.c.ent.nodes.length cn) (.slice Aw z.c.ent.with_.length cw) [.int .u64 (z.tok : Int), .slice Ap z.pages.length cp, .slice Ab z.bytes.length cb, .int .i64 z.place, .slice Al z.left.length cl])) ∨ I.blk c = some o) (fun _ _ => False) (by rintro _ _ (⟨rfl, rfl⟩ | h); exact zM; exact There.i h) (fun _ _ h => h.elim) 22 [false, false, false, false, false, false, false, false, false, false, false, false, false, false, false, false, false, false, false, false, false, false] rfl rfl ?_; refine WD.vl (i := 0) rfl (Yld.move rfl rfl) ?_; refine WD.vl (i := 1) rfl (Yld.nilCheck rfl rfl) ?_; refine WD.vl (i := 2) rfl (Yld.fieldAddr rfl ty_fd_60_0 rfl) ?_; refine WD.vl (i := 3) rfl (Yld.fieldAddr rfl ty_fd_58_0 rfl) ?_; refine WD.vl (i := 4) rfl (Yld.fieldAddr rfl ty_fd_54_0 rfl) ?_; refine WD.val1 (i := 5) rfl rfl rfl rfl zK rfl zK (Yld.load (v := .pointer (some ⟨l, 0, none⟩)) rfl ty_sc_31 rfl (.inl (.inl ⟨rfl, rfl⟩)) rfl) ?_; refine WD.vl (i := 6) rfl (Yld.move rfl rfl) ?_; refine WD.vl (i := 7) rfl (Yld.nilCheck rfl rfl) ?_; refine WD.vl (i := 8) rfl (Yld.fieldAddr rfl ty_fd_60_0 rfl) ?_; refine WD.vl (i := 9) rfl (Yld.fieldAddr rfl ty_fd_58_2 rfl) ?_; refine WD.val1 (i := 10) rfl rfl rfl rfl zK rfl zK (Yld.loadAgg (vs := [.int .i64 (z.c.hn : Int), .int .i64 (z.c.hp : Int)]) rfl ty_ag_56 rfl (.inl (.inl ⟨rfl, rfl⟩)) rfl rfl) ?_
 refine WD.vl (i := 11) rfl (Yld.move rfl rfl) ?_; refine WD.vl (i := 12) rfl (Yld.nilCheck rfl rfl) ?_; refine WD.vl (i := 13) rfl (Yld.fieldAddr rfl ty_fd_60_3 rfl) ?_; refine WD.val1 (i := 14) rfl rfl rfl rfl zK rfl zK (Yld.load (v := .slice Ab z.bytes.length cb) rfl ty_sc_49 rfl (.inl (.inl ⟨rfl, rfl⟩)) rfl) ?_; refine WD.both (i := 15) (j := 19) zK rfl rfl ?_ ?_
 ·refine WP.oper rfl rfl ?_
  refine Op.cl (log_AppendE (hn := z.c.hn) (hp := z.c.hp) (kind := 3) hlg hb) rfl Tryz.func80 rfl rfl rfl rfl ?_; rintro v J2 Ll2 hJ2 ⟨e, hn', hp', x2, rfl, hee, hap, hap2, hlg2⟩
  try simp only [nf]
  refine WD.go (.inr (by rintro _ _ (⟨rfl, rfl⟩ | h); exact zM; first | exact There.i h | exact There.i (hJ2.2 _ _ h) | exact There.i (hJ3.2 _ _ (hJ2.2 _ _ h)) | exact There.i (hJ3.2 _ _ h))) (fun _ _ h => h.elim) ?_; refine WD.vl (i := 16) rfl (Yld.move rfl rfl) ?_; refine WD.vl (i := 17) rfl (Yld.extract rfl rfl rfl) ?_; refine WD.vl (i := 18) rfl (Yld.extract rfl rfl rfl) ?_; refine WD.loud (i := 19) zK rfl rfl rfl ?_; refine Op.alloc rfl rfl rfl ty_zr_56 (fun b3 => ?_)
  refine WD.go (.inr (by rintro _ _ (⟨rfl, rfl⟩ | h); exact zM; first | exact There.i h | exact There.i (hJ2.2 _ _ h) | exact There.i (hJ3.2 _ _ (hJ2.2 _ _ h)) | exact There.i (hJ3.2 _ _ h))) (fun _ _ h => h.elim) ?_; refine WD.loud (i := 20) zK rfl rfl rfl ?_; refine Op.sA rfl rfl ty_sz_56 rfl rfl rfl rfl rfl ?_; refine WD.go (.inl rfl) (fun _ _ h => h.elim) ?_; refine WD.vl (i := 21) rfl (Yld.assign rfl rfl) ?_; refine WD.done zK ?_; refine WP.sub [(0, _), (2, _), (3, _), (4, _)] ?_ ⟨rfl, rfl, rfl, rfl, trivial⟩
  refine WP.next (WP.seq (WP.seq ?_))
  refine WP.region [0] rfl ?_; refine WP.mv rfl rfl ?_; refine WP.nil (WP.next (WP.block (WP.seq ?_)))
  refine WP.region [0, 1] rfl ?_; refine WP.split rfl rfl rfl rfl (Yld.eql rfl rfl rfl) (fun h0 => ?_) (fun h0 => ?_)
  ·obtain ⟨rfl, rfl⟩ := hap2 h0
   refine WP.mv rfl rfl ?_; refine WP.nil ?_; refine WP.sub [(0, _), (2, _), (3, _), (4, _), (24, _), (31, _)] ?_ ⟨rfl, rfl, rfl, rfl, rfl, rfl, trivial⟩
   refine WP.next ?_; refine WP.condT rfl ?_; refine WP.skip (WP.leave (WP.next (WP.seq ?_)))
   refine WD.start Tryzmixed 13 (fun c o => (c = b3 ∧ o = row 56 [.int .i64 (x2.no : Int), .int .i64 (x2.pl : Int)]) ∨ (c = g ∧ o = row 60 (cmV l t (nextV g z.at_) (.func (.func 53) [.pointer (some ⟨g, 0, none⟩)].toArray [].toArray) z.c (.slice Ac z.c.clear.length cc) (.slice An z.c.ent.nodes.length cn) (.slice Aw z.c.ent.with_.length cw) [.int .u64 (z.tok : Int), .slice Ap z.pages.length cp, .slice Ab z.bytes.length cb, .int .i64 z.place, .slice Al z.left.length cl]))) (fun _ _ => False) (by rintro _ _ (⟨rfl, rfl⟩ | ⟨rfl, rfl⟩) <;> exact zM) (fun _ _ h => h.elim) 17 [false, false, false, false, false, false, false, false, false, false, false, false, false, false, false, false, false] rfl rfl ?_; refine WD.vl (i := 0) rfl (Yld.move rfl rfl) ?_; refine WD.vl (i := 1) rfl (Yld.move rfl rfl) ?_; refine WD.vl (i := 2) rfl (Yld.fieldAddr rfl ty_fd_56_0 rfl) ?_; refine WD.val1 (i := 3) rfl rfl rfl rfl zK rfl zK (Yld.load (v := .int .i64 (x2.no : Int)) rfl ty_sc_3 rfl (.inl (.inl ⟨rfl, rfl⟩)) rfl) ?_; refine WD.vl (i := 4) rfl (Yld.move rfl rfl) ?_; refine WD.vl (i := 5) rfl (Yld.nilCheck rfl rfl) ?_; refine WD.vl (i := 6) rfl (Yld.fieldAddr rfl ty_fd_60_0 rfl) ?_; refine WD.vl (i := 7) rfl (Yld.fieldAddr rfl ty_fd_58_2 rfl) ?_; refine WD.vl (i := 8) rfl (Yld.fieldAddr rfl ty_fd_56_1 rfl) ?_; refine WD.val1 (i := 9) rfl rfl rfl rfl zK rfl zK (Yld.load (v := .int .i64 (z.c.hp : Int)) rfl ty_sc_3 rfl (.inl (.inr ⟨rfl, rfl⟩)) rfl) ?_; refine WD.vl (i := 10) rfl (Yld.nilCheck rfl rfl) ?_
   refine WD.vl (i := 11) rfl (Yld.fieldAddr rfl ty_fd_60_0 rfl) ?_; refine WD.vl (i := 12) rfl (Yld.fieldAddr rfl ty_fd_58_1 rfl) ?_; refine WD.loud (i := 13) zK rfl rfl rfl ?_; refine Op.s1 rfl rfl ty_sz_3 rfl rfl rfl ?_; refine WD.go (.inl rfl) (fun _ _ h => h.elim) ?_; refine WD.vl (i := 14) rfl (Yld.nilCheck rfl rfl) ?_; refine WD.vl (i := 15) rfl (Yld.fieldAddr rfl ty_fd_60_4 rfl) ?_; refine WD.loud (i := 16) zK rfl rfl rfl ?_; refine Op.s1 rfl rfl ty_sz_3 rfl rfl rfl ?_; refine WD.go (.inl rfl) (fun _ _ h => h.elim) ?_; refine WD.done zK ?_; refine WP.sub [(0, _), (2, _), (3, _), (4, _), (24, _), (31, _)] ?_ ⟨rfl, rfl, rfl, rfl, rfl, rfl, trivial⟩
   refine WP.next (WP.seq (WP.seq ?_))
   refine WP.region [0, 1, 2, 3, 4, 5] rfl ?_; iterate 2 refine WP.mv rfl rfl ?_
   refine WP.loud rfl rfl ?_; refine Op.cl (txn_those (l := l) (t := t) (g := g) (tok := z.tok) (nx := nextV g z.at_) (th := .func (.func 53) [.pointer (some ⟨g, 0, none⟩)].toArray [].toArray) (z := ({ z.c with txn := (x2.no : Int) } : Cm)) (vc := .slice Ac z.c.clear.length cc) (vn := .slice An z.c.ent.nodes.length cn) (vw := .slice Aw z.c.ent.with_.length cw) (vb := .slice Ab z.bytes.length cb) (vl := .slice Al z.left.length cl) (place := (z.c.hp : Int)) (k := 1) (has := true) (hp.mono hJ2) hp1 hk) rfl Tryz.func113 rfl rfl rfl rfl ?_; rintro v J L8 - ⟨Lo, rfl, rfl, ho⟩
   try simp only [nf]
   obtain ⟨Ao, co, rfl, _⟩ := ho.slice
   refine WP.vl rfl (Yld.nilCheck rfl rfl) ?_; refine WP.vl rfl (Yld.fieldAddr rfl ty_fd_60_5 rfl) ?_; refine WP.loud rfl rfl ?_; refine Op.s1 rfl rfl ty_sz_52 rfl rfl rfl ?_; refine WP.nil ?_; refine WP.sub [(0, _), (2, _), (3, _), (4, _), (24, _), (31, _)] ?_ ⟨rfl, rfl, rfl, rfl, rfl, rfl, trivial⟩
   refine WP.next (WP.seq ?_)
   refine WP.shO ho (fun J3 hJ3 hso => ?_)
   have hlf : RPrs J3 (.slice Ao (thoseL z.pages 1 true).length co) (thoseL z.pages 1 true) := RPrs.of hso (fun x hx => (hp.el x hx).mono (Imm.le_trans hJ2 hJ3)) those_mem
   have hJa := Imm.le_trans hJ2 hJ3
   refine WP.region [0, 1, 2, 3, 4, 5] rfl ?_; refine WP.mv rfl rfl ?_; refine WP.vl rfl (Yld.nilCheck rfl rfl) ?_; refine WP.vl rfl (Yld.fieldAddr rfl ty_fd_60_5 rfl) ?_; refine WP.vl rfl (Yld.ld (v := .slice Ao (thoseL z.pages 1 true).length co) rfl ty_sc_52 rfl rfl) ?_; refine WP.vl rfl (Yld.len rfl ty_sl_52 rfl) ?_; refine WP.split rfl rfl rfl rfl (Yld.eql rfl rfl rfl) (fun h1 => ?_) (fun h1 => ?_)
   ·refine WP.nil ?_
    refine WP.sub [(0, _), (2, _), (3, _), (4, _), (24, _), (31, _), (67, _)] ?_ ⟨rfl, rfl, rfl, rfl, rfl, rfl, rfl, trivial⟩
    refine WP.next ?_; refine WP.condT rfl ?_; refine WP.seq ?_; refine WP.region [0, 1, 2, 3, 4, 5, 6, 7] rfl ?_; refine WP.mv rfl rfl ?_; refine WP.vl rfl (Yld.nilCheck rfl rfl) ?_; refine WP.vl rfl (Yld.fieldAddr rfl ty_fd_60_0 rfl) ?_; refine WP.vl rfl (Yld.fieldAddr rfl ty_fd_58_0 rfl) ?_; refine WP.mv rfl rfl ?_; refine WP.vl rfl (Yld.makeFunc rfl (vs := [_]) (us := []) rfl rfl) ?_; refine WP.loud rfl rfl ?_; refine Op.cl (txn_goes (b := g)) rfl Tryz.func111 rfl rfl rfl rfl ?_; rintro v J L1 - ⟨rfl, rfl, rfl⟩
    try simp only [nf]
    refine WP.mv rfl rfl ?_; refine WP.nil ?_; refine WP.sub [(0, _), (2, _), (3, _), (4, _), (24, _), (31, _), (67, _)] ?_ ⟨rfl, rfl, rfl, rfl, rfl, rfl, rfl, trivial⟩
    refine WP.next (WP.ret ?_)
    refine WP.fn .ret (.inr rfl) (res1 rfl rfl) ([(g, row 60 (cmV l t (nextV g 3) (.func (.func 53) [.pointer (some ⟨g, 0, none⟩)].toArray [].toArray) ({ z.c with txn := (x2.no : Int) } : Cm) (.slice Ac z.c.clear.length cc) (.slice An z.c.ent.nodes.length cn) (.slice Aw z.c.ent.with_.length cw) [.int .u64 (z.tok : Int), .slice Ap z.pages.length cp, .slice Ab z.bytes.length cb, .int .i64 (z.c.hp : Int), .slice Ao (thoseL z.pages 1 true).length co]))] ++ Ll2) hJa ?_; have e0 : thoseL z.pages 1 true = [] := List.length_eq_zero_iff.1 (by omega)
    have e1 : z.appends e x2.no = (false, (z.appd x2.no).go 3) := (if_pos h0).trans (if_pos e0)
    exact ⟨e, x2, _, _, hee, hap, by rw [e1], rfl, by rw [e1]; exact .mk (hc.mono fun b o q => hJa.2 b o q) (hn.mono hJa) (hw.mono (Imv.le hJa)) hs (hp.mono hJa) (hb.mono fun b o q => hJa.2 b o q) hlf hk, hlg2.mono hJ3⟩
   ·refine WP.nil ?_
    refine WP.sub [(0, _), (2, _), (3, _), (4, _), (24, _), (31, _), (67, _)] ?_ ⟨rfl, rfl, rfl, rfl, rfl, rfl, rfl, trivial⟩
    refine WP.next ?_; refine WP.condF rfl ?_; refine WP.skip (WP.next (WP.seq ?_))
    refine WP.region [0, 1, 2, 3, 4, 5, 6, 7] rfl ?_; refine WP.mv rfl rfl ?_; refine WP.vl rfl (Yld.nilCheck rfl rfl) ?_; refine WP.vl rfl (Yld.fieldAddr rfl ty_fd_60_0 rfl) ?_; refine WP.vl rfl (Yld.fieldAddr rfl ty_fd_58_0 rfl) ?_; refine WP.mv rfl rfl ?_; refine WP.vl rfl (Yld.makeFunc rfl (vs := [_]) (us := []) rfl rfl) ?_; refine WP.loud rfl rfl ?_; refine Op.cl (txn_goes (b := g)) rfl Tryz.func111 rfl rfl rfl rfl ?_; rintro v J L1 - ⟨rfl, rfl, rfl⟩
    try simp only [nf]
    refine WP.mv rfl rfl ?_; refine WP.nil ?_; refine WP.sub [(0, _), (2, _), (3, _), (4, _), (24, _), (31, _), (67, _)] ?_ ⟨rfl, rfl, rfl, rfl, rfl, rfl, rfl, trivial⟩
    refine WP.next (WP.ret ?_)
    refine WP.fn .ret (.inr rfl) (res1 rfl rfl) ([(g, row 60 (cmV l t (nextV g 2) (.func (.func 53) [.pointer (some ⟨g, 0, none⟩)].toArray [].toArray) ({ z.c with txn := (x2.no : Int) } : Cm) (.slice Ac z.c.clear.length cc) (.slice An z.c.ent.nodes.length cn) (.slice Aw z.c.ent.with_.length cw) [.int .u64 (z.tok : Int), .slice Ap z.pages.length cp, .slice Ab z.bytes.length cb, .int .i64 (z.c.hp : Int), .slice Ao (thoseL z.pages 1 true).length co]))] ++ Ll2) hJa ?_; have e0 : ¬ thoseL z.pages 1 true = [] := fun h => h1 (by rw [h]; rfl)
    have e1 : z.appends e x2.no = (false, (z.appd x2.no).go 2) := (if_pos h0).trans (if_neg e0)
    exact ⟨e, x2, _, _, hee, hap, by rw [e1], rfl, by rw [e1]; exact .mk (hc.mono fun b o q => hJa.2 b o q) (hn.mono hJa) (hw.mono (Imv.le hJa)) hs (hp.mono hJa) (hb.mono fun b o q => hJa.2 b o q) hlf hk, hlg2.mono hJ3⟩
  ·refine WP.mv rfl rfl ?_
   refine WP.nil ?_; refine WP.sub [(0, _), (2, _), (3, _), (4, _), (24, _), (31, _)] ?_ ⟨rfl, rfl, rfl, rfl, rfl, rfl, trivial⟩
   refine WP.next ?_; refine WP.condF rfl ?_; refine WP.seq ?_; refine WP.region [0, 1] rfl ?_; refine WP.split rfl rfl rfl rfl (Yld.eql rfl rfl rfl) (fun h5 => ?_) (fun h5 => ?_)
   ·refine WP.mv rfl rfl ?_
    refine WP.nil ?_; refine WP.sub [(0, _), (2, _), (3, _), (4, _), (24, _), (31, _), (33, _)] ?_ ⟨rfl, rfl, rfl, rfl, rfl, rfl, rfl, trivial⟩
    refine WP.next ?_; refine WP.condT rfl ?_; refine WP.seq ?_; refine WP.region [0, 1, 2, 3, 4, 5, 6, 7] rfl ?_; refine WP.mv rfl rfl ?_; refine WP.vl rfl (Yld.nilCheck rfl rfl) ?_; refine WP.vl rfl (Yld.fieldAddr rfl ty_fd_60_0 rfl) ?_; refine WP.vl rfl (Yld.fieldAddr rfl ty_fd_58_0 rfl) ?_; refine WP.mv rfl rfl ?_; refine WP.vl rfl (Yld.makeFunc rfl (vs := [_]) (us := []) rfl rfl) ?_; refine WP.loud rfl rfl ?_; refine Op.cl (txn_goes (b := g)) rfl Tryz.func111 rfl rfl rfl rfl ?_; rintro v J L1 - ⟨rfl, rfl, rfl⟩
    try simp only [nf]
    refine WP.mv rfl rfl ?_; refine WP.nil ?_; refine WP.sub [(0, _), (2, _), (3, _), (4, _), (24, _), (31, _), (33, _)] ?_ ⟨rfl, rfl, rfl, rfl, rfl, rfl, rfl, trivial⟩
    refine WP.next (WP.ret ?_)
    refine WP.fn .ret (.inr rfl) (res1 rfl rfl) ([(g, row 60 (cmV l t (nextV g 0) (.func (.func 53) [.pointer (some ⟨g, 0, none⟩)].toArray [].toArray) z.c (.slice Ac z.c.clear.length cc) (.slice An z.c.ent.nodes.length cn) (.slice Aw z.c.ent.with_.length cw) [.int .u64 (z.tok : Int), .slice Ap z.pages.length cp, .slice Ab z.bytes.length cb, .int .i64 z.place, .slice Al z.left.length cl]))] ++ Ll2) hJ2 ?_; have e1 : z.appends e x2.no = (false, z.go 0) := (if_neg h0).trans (if_pos h5)
    exact ⟨e, x2, _, _, hee, hap, by rw [e1], rfl, by rw [e1]; exact (.mk (hc.mono fun b o q => hJ2.2 b o q) (hn.mono hJ2) (hw.mono (Imv.le hJ2)) hs (hp.mono hJ2) (hb.mono fun b o q => hJ2.2 b o q) (hl.mono hJ2) hk), hlg2⟩
   ·refine WP.mv rfl rfl ?_
    refine WP.nil ?_; refine WP.sub [(0, _), (2, _), (3, _), (4, _), (24, _), (31, _), (33, _)] ?_ ⟨rfl, rfl, rfl, rfl, rfl, rfl, rfl, trivial⟩
    refine WP.next ?_; refine WP.condF rfl ?_; refine WP.seq ?_; refine WP.region [0, 1, 2, 3, 4, 5, 6] rfl ?_; refine WP.mv rfl rfl ?_; refine WP.vl rfl (Yld.nilCheck rfl rfl) ?_; refine WP.vl rfl (Yld.fieldAddr rfl ty_fd_60_0 rfl) ?_; refine WP.vl rfl (Yld.fieldAddr rfl ty_fd_58_0 rfl) ?_; refine WP.mv rfl rfl ?_; refine WP.loud rfl rfl ?_; refine Op.cl (txn_end (b := g)) rfl Tryz.func110 rfl rfl rfl rfl ?_; rintro v J L1 - ⟨rfl, rfl, rfl⟩
    try simp only [nf]
    refine WP.mv rfl rfl ?_; refine WP.nil ?_; refine WP.sub [(0, _), (2, _), (3, _), (4, _), (24, _), (31, _), (33, _)] ?_ ⟨rfl, rfl, rfl, rfl, rfl, rfl, rfl, trivial⟩
    refine WP.next (WP.ret ?_)
    refine WP.fn .ret (.inr rfl) (res1 rfl rfl) ([(g, row 60 (cmV l t (nextV g 9) (.func (.func 53) [.pointer (some ⟨g, 0, none⟩)].toArray [].toArray) ({ z.c with e := e } : Cm) (.slice Ac z.c.clear.length cc) (.slice An z.c.ent.nodes.length cn) (.slice Aw z.c.ent.with_.length cw) [.int .u64 (z.tok : Int), .slice Ap z.pages.length cp, .slice Ab z.bytes.length cb, .int .i64 z.place, .slice Al z.left.length cl]))] ++ Ll2) hJ2 ?_; have e1 : z.appends e x2.no = (true, z.fin e) := (if_neg h0).trans (if_neg h5)
    exact ⟨e, x2, _, _, hee, hap, by rw [e1], rfl, by rw [e1]; exact (.mk (hc.mono fun b o q => hJ2.2 b o q) (hn.mono hJ2) (hw.mono (Imv.le hJ2)) hs (hp.mono hJ2) (hb.mono fun b o q => hJ2.2 b o q) (hl.mono hJ2) hk), hlg2⟩
 ·refine WP.oper rfl rfl ?_
  refine Op.alloc rfl rfl rfl ty_zr_56 (fun b3 => ?_)
  refine WD.go (.inr (by rintro _ _ (⟨rfl, rfl⟩ | h); exact zM; first | exact There.i h | exact There.i (hJ2.2 _ _ h) | exact There.i (hJ3.2 _ _ (hJ2.2 _ _ h)) | exact There.i (hJ3.2 _ _ h))) (fun _ _ h => h.elim) ?_; refine WD.loud (i := 15) zK rfl rfl rfl ?_; refine Op.cl (log_AppendE (hn := z.c.hn) (hp := z.c.hp) (kind := 3) hlg hb) rfl Tryz.func80 rfl rfl rfl rfl ?_; rintro v J2 Ll2 hJ2 ⟨e, hn', hp', x2, rfl, hee, hap, hap2, hlg2⟩
  try simp only [nf]
  refine WD.go (.inr (by rintro _ _ (⟨rfl, rfl⟩ | h); exact zM; first | exact There.i h | exact There.i (hJ2.2 _ _ h) | exact There.i (hJ3.2 _ _ (hJ2.2 _ _ h)) | exact There.i (hJ3.2 _ _ h))) (fun _ _ h => h.elim) ?_; refine WD.vl (i := 16) rfl (Yld.move rfl rfl) ?_; refine WD.vl (i := 17) rfl (Yld.extract rfl rfl rfl) ?_; refine WD.vl (i := 18) rfl (Yld.extract rfl rfl rfl) ?_; refine WD.loud (i := 20) zK rfl rfl rfl ?_; refine Op.sA rfl rfl ty_sz_56 rfl rfl rfl rfl rfl ?_; refine WD.go (.inl rfl) (fun _ _ h => h.elim) ?_; refine WD.vl (i := 21) rfl (Yld.assign rfl rfl) ?_; refine WD.done zK ?_; refine WP.sub [(0, _), (2, _), (3, _), (4, _)] ?_ ⟨rfl, rfl, rfl, rfl, trivial⟩
  refine WP.next (WP.seq (WP.seq ?_))
  refine WP.region [0] rfl ?_; refine WP.mv rfl rfl ?_; refine WP.nil (WP.next (WP.block (WP.seq ?_)))
  refine WP.region [0, 1] rfl ?_; refine WP.split rfl rfl rfl rfl (Yld.eql rfl rfl rfl) (fun h0 => ?_) (fun h0 => ?_)
  ·obtain ⟨rfl, rfl⟩ := hap2 h0
   refine WP.mv rfl rfl ?_; refine WP.nil ?_; refine WP.sub [(0, _), (2, _), (3, _), (4, _), (24, _), (31, _)] ?_ ⟨rfl, rfl, rfl, rfl, rfl, rfl, trivial⟩
   refine WP.next ?_; refine WP.condT rfl ?_; refine WP.skip (WP.leave (WP.next (WP.seq ?_)))
   refine WD.start Tryzmixed 13 (fun c o => (c = b3 ∧ o = row 56 [.int .i64 (x2.no : Int), .int .i64 (x2.pl : Int)]) ∨ (c = g ∧ o = row 60 (cmV l t (nextV g z.at_) (.func (.func 53) [.pointer (some ⟨g, 0, none⟩)].toArray [].toArray) z.c (.slice Ac z.c.clear.length cc) (.slice An z.c.ent.nodes.length cn) (.slice Aw z.c.ent.with_.length cw) [.int .u64 (z.tok : Int), .slice Ap z.pages.length cp, .slice Ab z.bytes.length cb, .int .i64 z.place, .slice Al z.left.length cl]))) (fun _ _ => False) (by rintro _ _ (⟨rfl, rfl⟩ | ⟨rfl, rfl⟩) <;> exact zM) (fun _ _ h => h.elim) 17 [false, false, false, false, false, false, false, false, false, false, false, false, false, false, false, false, false] rfl rfl ?_; refine WD.vl (i := 0) rfl (Yld.move rfl rfl) ?_; refine WD.vl (i := 1) rfl (Yld.move rfl rfl) ?_; refine WD.vl (i := 2) rfl (Yld.fieldAddr rfl ty_fd_56_0 rfl) ?_; refine WD.val1 (i := 3) rfl rfl rfl rfl zK rfl zK (Yld.load (v := .int .i64 (x2.no : Int)) rfl ty_sc_3 rfl (.inl (.inl ⟨rfl, rfl⟩)) rfl) ?_; refine WD.vl (i := 4) rfl (Yld.move rfl rfl) ?_; refine WD.vl (i := 5) rfl (Yld.nilCheck rfl rfl) ?_; refine WD.vl (i := 6) rfl (Yld.fieldAddr rfl ty_fd_60_0 rfl) ?_; refine WD.vl (i := 7) rfl (Yld.fieldAddr rfl ty_fd_58_2 rfl) ?_; refine WD.vl (i := 8) rfl (Yld.fieldAddr rfl ty_fd_56_1 rfl) ?_; refine WD.val1 (i := 9) rfl rfl rfl rfl zK rfl zK (Yld.load (v := .int .i64 (z.c.hp : Int)) rfl ty_sc_3 rfl (.inl (.inr ⟨rfl, rfl⟩)) rfl) ?_; refine WD.vl (i := 10) rfl (Yld.nilCheck rfl rfl) ?_
   refine WD.vl (i := 11) rfl (Yld.fieldAddr rfl ty_fd_60_0 rfl) ?_; refine WD.vl (i := 12) rfl (Yld.fieldAddr rfl ty_fd_58_1 rfl) ?_; refine WD.loud (i := 13) zK rfl rfl rfl ?_; refine Op.s1 rfl rfl ty_sz_3 rfl rfl rfl ?_; refine WD.go (.inl rfl) (fun _ _ h => h.elim) ?_; refine WD.vl (i := 14) rfl (Yld.nilCheck rfl rfl) ?_; refine WD.vl (i := 15) rfl (Yld.fieldAddr rfl ty_fd_60_4 rfl) ?_; refine WD.loud (i := 16) zK rfl rfl rfl ?_; refine Op.s1 rfl rfl ty_sz_3 rfl rfl rfl ?_; refine WD.go (.inl rfl) (fun _ _ h => h.elim) ?_; refine WD.done zK ?_; refine WP.sub [(0, _), (2, _), (3, _), (4, _), (24, _), (31, _)] ?_ ⟨rfl, rfl, rfl, rfl, rfl, rfl, trivial⟩
   refine WP.next (WP.seq (WP.seq ?_))
   refine WP.region [0, 1, 2, 3, 4, 5] rfl ?_; iterate 2 refine WP.mv rfl rfl ?_
   refine WP.loud rfl rfl ?_; refine Op.cl (txn_those (l := l) (t := t) (g := g) (tok := z.tok) (nx := nextV g z.at_) (th := .func (.func 53) [.pointer (some ⟨g, 0, none⟩)].toArray [].toArray) (z := ({ z.c with txn := (x2.no : Int) } : Cm)) (vc := .slice Ac z.c.clear.length cc) (vn := .slice An z.c.ent.nodes.length cn) (vw := .slice Aw z.c.ent.with_.length cw) (vb := .slice Ab z.bytes.length cb) (vl := .slice Al z.left.length cl) (place := (z.c.hp : Int)) (k := 1) (has := true) (hp.mono hJ2) hp1 hk) rfl Tryz.func113 rfl rfl rfl rfl ?_; rintro v J L8 - ⟨Lo, rfl, rfl, ho⟩
   try simp only [nf]
   obtain ⟨Ao, co, rfl, _⟩ := ho.slice
   refine WP.vl rfl (Yld.nilCheck rfl rfl) ?_; refine WP.vl rfl (Yld.fieldAddr rfl ty_fd_60_5 rfl) ?_; refine WP.loud rfl rfl ?_; refine Op.s1 rfl rfl ty_sz_52 rfl rfl rfl ?_; refine WP.nil ?_; refine WP.sub [(0, _), (2, _), (3, _), (4, _), (24, _), (31, _)] ?_ ⟨rfl, rfl, rfl, rfl, rfl, rfl, trivial⟩
   refine WP.next (WP.seq ?_)
   refine WP.shO ho (fun J3 hJ3 hso => ?_)
   have hlf : RPrs J3 (.slice Ao (thoseL z.pages 1 true).length co) (thoseL z.pages 1 true) := RPrs.of hso (fun x hx => (hp.el x hx).mono (Imm.le_trans hJ2 hJ3)) those_mem
   have hJa := Imm.le_trans hJ2 hJ3
   refine WP.region [0, 1, 2, 3, 4, 5] rfl ?_; refine WP.mv rfl rfl ?_; refine WP.vl rfl (Yld.nilCheck rfl rfl) ?_; refine WP.vl rfl (Yld.fieldAddr rfl ty_fd_60_5 rfl) ?_; refine WP.vl rfl (Yld.ld (v := .slice Ao (thoseL z.pages 1 true).length co) rfl ty_sc_52 rfl rfl) ?_; refine WP.vl rfl (Yld.len rfl ty_sl_52 rfl) ?_; refine WP.split rfl rfl rfl rfl (Yld.eql rfl rfl rfl) (fun h1 => ?_) (fun h1 => ?_)
   ·refine WP.nil ?_
    refine WP.sub [(0, _), (2, _), (3, _), (4, _), (24, _), (31, _), (67, _)] ?_ ⟨rfl, rfl, rfl, rfl, rfl, rfl, rfl, trivial⟩
    refine WP.next ?_; refine WP.condT rfl ?_; refine WP.seq ?_; refine WP.region [0, 1, 2, 3, 4, 5, 6, 7] rfl ?_; refine WP.mv rfl rfl ?_; refine WP.vl rfl (Yld.nilCheck rfl rfl) ?_; refine WP.vl rfl (Yld.fieldAddr rfl ty_fd_60_0 rfl) ?_; refine WP.vl rfl (Yld.fieldAddr rfl ty_fd_58_0 rfl) ?_; refine WP.mv rfl rfl ?_; refine WP.vl rfl (Yld.makeFunc rfl (vs := [_]) (us := []) rfl rfl) ?_; refine WP.loud rfl rfl ?_; refine Op.cl (txn_goes (b := g)) rfl Tryz.func111 rfl rfl rfl rfl ?_; rintro v J L1 - ⟨rfl, rfl, rfl⟩
    try simp only [nf]
    refine WP.mv rfl rfl ?_; refine WP.nil ?_; refine WP.sub [(0, _), (2, _), (3, _), (4, _), (24, _), (31, _), (67, _)] ?_ ⟨rfl, rfl, rfl, rfl, rfl, rfl, rfl, trivial⟩
    refine WP.next (WP.ret ?_)
    refine WP.fn .ret (.inr rfl) (res1 rfl rfl) ([(g, row 60 (cmV l t (nextV g 3) (.func (.func 53) [.pointer (some ⟨g, 0, none⟩)].toArray [].toArray) ({ z.c with txn := (x2.no : Int) } : Cm) (.slice Ac z.c.clear.length cc) (.slice An z.c.ent.nodes.length cn) (.slice Aw z.c.ent.with_.length cw) [.int .u64 (z.tok : Int), .slice Ap z.pages.length cp, .slice Ab z.bytes.length cb, .int .i64 (z.c.hp : Int), .slice Ao (thoseL z.pages 1 true).length co]))] ++ Ll2) hJa ?_; have e0 : thoseL z.pages 1 true = [] := List.length_eq_zero_iff.1 (by omega)
    have e1 : z.appends e x2.no = (false, (z.appd x2.no).go 3) := (if_pos h0).trans (if_pos e0)
    exact ⟨e, x2, _, _, hee, hap, by rw [e1], rfl, by rw [e1]; exact .mk (hc.mono fun b o q => hJa.2 b o q) (hn.mono hJa) (hw.mono (Imv.le hJa)) hs (hp.mono hJa) (hb.mono fun b o q => hJa.2 b o q) hlf hk, hlg2.mono hJ3⟩
   ·refine WP.nil ?_
    refine WP.sub [(0, _), (2, _), (3, _), (4, _), (24, _), (31, _), (67, _)] ?_ ⟨rfl, rfl, rfl, rfl, rfl, rfl, rfl, trivial⟩
    refine WP.next ?_; refine WP.condF rfl ?_; refine WP.skip (WP.next (WP.seq ?_))
    refine WP.region [0, 1, 2, 3, 4, 5, 6, 7] rfl ?_; refine WP.mv rfl rfl ?_; refine WP.vl rfl (Yld.nilCheck rfl rfl) ?_; refine WP.vl rfl (Yld.fieldAddr rfl ty_fd_60_0 rfl) ?_; refine WP.vl rfl (Yld.fieldAddr rfl ty_fd_58_0 rfl) ?_; refine WP.mv rfl rfl ?_; refine WP.vl rfl (Yld.makeFunc rfl (vs := [_]) (us := []) rfl rfl) ?_; refine WP.loud rfl rfl ?_; refine Op.cl (txn_goes (b := g)) rfl Tryz.func111 rfl rfl rfl rfl ?_; rintro v J L1 - ⟨rfl, rfl, rfl⟩
    try simp only [nf]
    refine WP.mv rfl rfl ?_; refine WP.nil ?_; refine WP.sub [(0, _), (2, _), (3, _), (4, _), (24, _), (31, _), (67, _)] ?_ ⟨rfl, rfl, rfl, rfl, rfl, rfl, rfl, trivial⟩
    refine WP.next (WP.ret ?_)
    refine WP.fn .ret (.inr rfl) (res1 rfl rfl) ([(g, row 60 (cmV l t (nextV g 2) (.func (.func 53) [.pointer (some ⟨g, 0, none⟩)].toArray [].toArray) ({ z.c with txn := (x2.no : Int) } : Cm) (.slice Ac z.c.clear.length cc) (.slice An z.c.ent.nodes.length cn) (.slice Aw z.c.ent.with_.length cw) [.int .u64 (z.tok : Int), .slice Ap z.pages.length cp, .slice Ab z.bytes.length cb, .int .i64 (z.c.hp : Int), .slice Ao (thoseL z.pages 1 true).length co]))] ++ Ll2) hJa ?_; have e0 : ¬ thoseL z.pages 1 true = [] := fun h => h1 (by rw [h]; rfl)
    have e1 : z.appends e x2.no = (false, (z.appd x2.no).go 2) := (if_pos h0).trans (if_neg e0)
    exact ⟨e, x2, _, _, hee, hap, by rw [e1], rfl, by rw [e1]; exact .mk (hc.mono fun b o q => hJa.2 b o q) (hn.mono hJa) (hw.mono (Imv.le hJa)) hs (hp.mono hJa) (hb.mono fun b o q => hJa.2 b o q) hlf hk, hlg2.mono hJ3⟩
  ·refine WP.mv rfl rfl ?_
   refine WP.nil ?_; refine WP.sub [(0, _), (2, _), (3, _), (4, _), (24, _), (31, _)] ?_ ⟨rfl, rfl, rfl, rfl, rfl, rfl, trivial⟩
   refine WP.next ?_; refine WP.condF rfl ?_; refine WP.seq ?_; refine WP.region [0, 1] rfl ?_; refine WP.split rfl rfl rfl rfl (Yld.eql rfl rfl rfl) (fun h5 => ?_) (fun h5 => ?_)
   ·refine WP.mv rfl rfl ?_
    refine WP.nil ?_; refine WP.sub [(0, _), (2, _), (3, _), (4, _), (24, _), (31, _), (33, _)] ?_ ⟨rfl, rfl, rfl, rfl, rfl, rfl, rfl, trivial⟩
    refine WP.next ?_; refine WP.condT rfl ?_; refine WP.seq ?_; refine WP.region [0, 1, 2, 3, 4, 5, 6, 7] rfl ?_; refine WP.mv rfl rfl ?_; refine WP.vl rfl (Yld.nilCheck rfl rfl) ?_; refine WP.vl rfl (Yld.fieldAddr rfl ty_fd_60_0 rfl) ?_; refine WP.vl rfl (Yld.fieldAddr rfl ty_fd_58_0 rfl) ?_; refine WP.mv rfl rfl ?_; refine WP.vl rfl (Yld.makeFunc rfl (vs := [_]) (us := []) rfl rfl) ?_; refine WP.loud rfl rfl ?_; refine Op.cl (txn_goes (b := g)) rfl Tryz.func111 rfl rfl rfl rfl ?_; rintro v J L1 - ⟨rfl, rfl, rfl⟩
    try simp only [nf]
    refine WP.mv rfl rfl ?_; refine WP.nil ?_; refine WP.sub [(0, _), (2, _), (3, _), (4, _), (24, _), (31, _), (33, _)] ?_ ⟨rfl, rfl, rfl, rfl, rfl, rfl, rfl, trivial⟩
    refine WP.next (WP.ret ?_)
    refine WP.fn .ret (.inr rfl) (res1 rfl rfl) ([(g, row 60 (cmV l t (nextV g 0) (.func (.func 53) [.pointer (some ⟨g, 0, none⟩)].toArray [].toArray) z.c (.slice Ac z.c.clear.length cc) (.slice An z.c.ent.nodes.length cn) (.slice Aw z.c.ent.with_.length cw) [.int .u64 (z.tok : Int), .slice Ap z.pages.length cp, .slice Ab z.bytes.length cb, .int .i64 z.place, .slice Al z.left.length cl]))] ++ Ll2) hJ2 ?_; have e1 : z.appends e x2.no = (false, z.go 0) := (if_neg h0).trans (if_pos h5)
    exact ⟨e, x2, _, _, hee, hap, by rw [e1], rfl, by rw [e1]; exact (.mk (hc.mono fun b o q => hJ2.2 b o q) (hn.mono hJ2) (hw.mono (Imv.le hJ2)) hs (hp.mono hJ2) (hb.mono fun b o q => hJ2.2 b o q) (hl.mono hJ2) hk), hlg2⟩
   ·refine WP.mv rfl rfl ?_
    refine WP.nil ?_; refine WP.sub [(0, _), (2, _), (3, _), (4, _), (24, _), (31, _), (33, _)] ?_ ⟨rfl, rfl, rfl, rfl, rfl, rfl, rfl, trivial⟩
    refine WP.next ?_; refine WP.condF rfl ?_; refine WP.seq ?_; refine WP.region [0, 1, 2, 3, 4, 5, 6] rfl ?_; refine WP.mv rfl rfl ?_; refine WP.vl rfl (Yld.nilCheck rfl rfl) ?_; refine WP.vl rfl (Yld.fieldAddr rfl ty_fd_60_0 rfl) ?_; refine WP.vl rfl (Yld.fieldAddr rfl ty_fd_58_0 rfl) ?_; refine WP.mv rfl rfl ?_; refine WP.loud rfl rfl ?_; refine Op.cl (txn_end (b := g)) rfl Tryz.func110 rfl rfl rfl rfl ?_; rintro v J L1 - ⟨rfl, rfl, rfl⟩
    try simp only [nf]
    refine WP.mv rfl rfl ?_; refine WP.nil ?_; refine WP.sub [(0, _), (2, _), (3, _), (4, _), (24, _), (31, _), (33, _)] ?_ ⟨rfl, rfl, rfl, rfl, rfl, rfl, rfl, trivial⟩
    refine WP.next (WP.ret ?_)
    refine WP.fn .ret (.inr rfl) (res1 rfl rfl) ([(g, row 60 (cmV l t (nextV g 9) (.func (.func 53) [.pointer (some ⟨g, 0, none⟩)].toArray [].toArray) ({ z.c with e := e } : Cm) (.slice Ac z.c.clear.length cc) (.slice An z.c.ent.nodes.length cn) (.slice Aw z.c.ent.with_.length cw) [.int .u64 (z.tok : Int), .slice Ap z.pages.length cp, .slice Ab z.bytes.length cb, .int .i64 z.place, .slice Al z.left.length cl]))] ++ Ll2) hJ2 ?_; have e1 : z.appends e x2.no = (true, z.fin e) := (if_neg h0).trans (if_neg h5)
    exact ⟨e, x2, _, _, hee, hap, by rw [e1], rfl, by rw [e1]; exact (.mk (hc.mono fun b o q => hJ2.2 b o q) (hn.mono hJ2) (hw.mono (Imv.le hJ2)) hs (hp.mono hJ2) (hb.mono fun b o q => hJ2.2 b o q) (hl.mono hJ2) hk), hlg2⟩


end Go.Hp
