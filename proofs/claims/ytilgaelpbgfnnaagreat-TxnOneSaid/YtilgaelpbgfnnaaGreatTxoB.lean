import Derived.Test.YtilgaelpbgfnnaaGreatTxoA
set_option linter.unusedVariables false
set_option linter.unusedSimpArgs false
namespace Go.Hp
open Go Go.Proofs

theorem txo_asks0 {I : Imm} {g l t T : Nat} {no : Int} {z : Hm} {Lgr : Chunks} (hg : IsHl I g l t T [.int .i64 no] z Lgr) {tb : Tb} {Lt : Chunks} (hT : IsT I t tb Lt) (hgt : tb.get z.page = none) : Spec Tryz.prog 115 [.pointer (some ⟨g, 0, none⟩)] I (Lgr ++ Lt) (fun v J L => v = .bool (z.asks tb no).1 ∧ ∃ Lg2 Lt2, L = Lg2 ++ Lt2 ∧ IsHl J g l t T [.int .i64 no] (z.asks tb no).2 Lg2 ∧ IsT J t tb Lt2) := by
 cases hg with
 | @mk vc vn vw hc hn hw hs =>
 obtain ⟨Ac, cc, rfl, hcc, _, _⟩ := id hc
 obtain ⟨nvn, hn1, hn2⟩ := id hn.ex
 obtain ⟨An, cn, rfl, _⟩ := hn1.slice'
 obtain ⟨Aw, cw, rfl, _⟩ := hw.slice'
 refine Spec.of Tryz.func115 rfl Tryz.ntmps115 (Nat.le_of_ble_eq_true rfl) (fun F => ?_)
 try simp only [nf]
 dsimp only [argsEnv]
 refine WP.seq ?_; refine WP.region [0] rfl ?_; refine WP.mv rfl rfl ?_; refine WP.nil (WP.next (WP.seq ?_))
 refine WD.start Tryzmixed 17 (fun c o => c = g ∧ o = row T (cmV l t (hnextV g z.at_) (.func (.func 55) [.pointer (some ⟨g, 0, none⟩)].toArray [].toArray) z.c (.slice Ac z.c.clear.length cc) (.slice An z.c.ent.nodes.length cn) (.slice Aw z.c.ent.with_.length cw) (.int .i64 z.page :: [.int .i64 no]))) (fun _ _ => False) (by rintro _ _ ⟨rfl, rfl⟩; exact zM) (fun _ _ h => h.elim) 19 [false, false, false, false, false, false, false, false, false, false, false, false, false, false, false, false, false, false, false] rfl rfl ?_; refine WD.vl (i := 0) rfl (Yld.move rfl rfl) ?_; refine WD.vl (i := 1) rfl (Yld.nilCheck rfl rfl) ?_; refine WD.vl (i := 2) rfl (Yld.fieldAddr rfl ty_fd_74_0 rfl) ?_; refine WD.vl (i := 3) rfl (Yld.fieldAddr rfl ty_fd_72_0 rfl) ?_; refine WD.vl (i := 4) rfl (Yld.fieldAddr rfl ty_fd_58_0 rfl) ?_; refine WD.vl (i := 5) rfl (Yld.fieldAddr rfl ty_fd_54_1 rfl) ?_; refine WD.val1 (i := 6) rfl rfl rfl rfl zK rfl zK (Yld.load (v := .pointer (some ⟨t, 0, none⟩)) rfl ty_sc_32 rfl (.inl ⟨rfl, rfl⟩) rfl) ?_; refine WD.vl (i := 7) rfl (Yld.move rfl rfl) ?_; refine WD.vl (i := 8) rfl (Yld.nilCheck rfl rfl) ?_; refine WD.vl (i := 9) rfl (Yld.fieldAddr rfl ty_fd_74_0 rfl) ?_; refine WD.vl (i := 10) rfl (Yld.fieldAddr rfl ty_fd_72_1 rfl) ?_; refine WD.val1 (i := 11) rfl rfl rfl rfl zK rfl zK (Yld.load (v := .int .i64 z.page) rfl ty_sc_3 rfl (.inl ⟨rfl, rfl⟩) rfl) ?_; refine WD.both (i := 12) (j := 16) zK rfl rfl ?_ ?_
 ·refine WP.oper rfl rfl ?_
  refine Op.cl (tabT_Load0 hT hgt) rfl Tryz.func12 rfl rfl rfl rfl ?_; rintro v J Lt - ⟨rfl, rfl, rfl⟩
  try simp only [nf]
  refine WD.gR ?_; refine WD.vl (i := 13) rfl (Yld.move rfl rfl) ?_; refine WD.vl (i := 14) rfl (Yld.extract rfl rfl rfl) ?_; refine WD.vl (i := 15) rfl (Yld.extract rfl rfl rfl) ?_; refine WD.loud (i := 16) zK rfl rfl rfl ?_; refine Op.alloc rfl rfl rfl ty_zr_43 (fun b3 => ?_)
  refine WD.gR ?_; refine WD.loud (i := 17) zK rfl rfl rfl ?_; refine Op.sA rfl rfl ty_sz_43 rfl rfl rfl rfl rfl ?_; refine WD.go (.inl rfl) (fun _ _ h => h.elim) ?_; refine WD.vl (i := 18) rfl (Yld.assign rfl rfl) ?_; refine WD.done zK ?_; refine WP.sub [(0, _), (2, _), (3, _), (4, _)] ?_ ⟨rfl, rfl, rfl, rfl, trivial⟩
  refine WP.next (WP.seq (WP.seq ?_))
  refine WP.region [0, 1] rfl ?_; refine WP.mv rfl rfl ?_; refine WP.vl rfl (Yld.neq rfl rfl rfl true (decide_eq_true (by decide))) ?_; refine WP.nil ?_; refine WP.sub [(0, _), (2, _), (3, _), (4, _), (22, _)] ?_ ⟨rfl, rfl, rfl, rfl, rfl, trivial⟩
  refine WP.next ?_; refine WP.condT rfl ?_; refine WP.seq ?_; refine WP.region [0, 1, 2, 3, 4, 5, 6] rfl ?_; refine WP.mv rfl rfl ?_; refine WP.vl rfl (Yld.nilCheck rfl rfl) ?_; refine WP.vl rfl (Yld.fieldAddr rfl ty_fd_74_0 rfl) ?_; refine WP.vl rfl (Yld.fieldAddr rfl ty_fd_72_0 rfl) ?_; refine WP.vl rfl (Yld.fieldAddr rfl ty_fd_58_0 rfl) ?_; refine WP.loud rfl rfl ?_; refine Op.cl (txn_end (b := g)) rfl Tryz.func110 rfl rfl rfl rfl ?_; rintro v J L1 - ⟨rfl, rfl, rfl⟩
  try simp only [nf]
  refine WP.mv rfl rfl ?_; refine WP.nil ?_; refine WP.sub [(0, _), (2, _), (3, _), (4, _), (22, _)] ?_ ⟨rfl, rfl, rfl, rfl, rfl, trivial⟩
  refine WP.next (WP.ret ?_)
  refine WP.fn .ret (.inr rfl) (res1 rfl rfl) ([(g, row T (cmV l t (.nilFunc) (.func (.func 55) [.pointer (some ⟨g, 0, none⟩)].toArray [].toArray) ({ z.c with e := 0 } : Cm) (.slice Ac z.c.clear.length cc) (.slice An z.c.ent.nodes.length cn) (.slice Aw z.c.ent.with_.length cw) (.int .i64 z.page :: [.int .i64 no])))] ++ Lt) (Imm.le_refl _) ?_; have e1 : z.asks tb no = (true, z.fin 0) := by unfold Hm.asks; rw [hgt]
  rw [e1]; exact ⟨rfl, _, _, rfl, .mk hc hn hw hs, hT⟩
 ·refine WP.oper rfl rfl ?_
  refine Op.alloc rfl rfl rfl ty_zr_43 (fun b3 => ?_)
  refine WD.gR ?_; refine WD.loud (i := 12) zK rfl rfl rfl ?_; refine Op.cl (tabT_Load0 hT hgt) rfl Tryz.func12 rfl rfl rfl rfl ?_; rintro v J Lt - ⟨rfl, rfl, rfl⟩
  try simp only [nf]
  refine WD.gR ?_; refine WD.vl (i := 13) rfl (Yld.move rfl rfl) ?_; refine WD.vl (i := 14) rfl (Yld.extract rfl rfl rfl) ?_; refine WD.vl (i := 15) rfl (Yld.extract rfl rfl rfl) ?_; refine WD.loud (i := 17) zK rfl rfl rfl ?_; refine Op.sA rfl rfl ty_sz_43 rfl rfl rfl rfl rfl ?_; refine WD.go (.inl rfl) (fun _ _ h => h.elim) ?_; refine WD.vl (i := 18) rfl (Yld.assign rfl rfl) ?_; refine WD.done zK ?_; refine WP.sub [(0, _), (2, _), (3, _), (4, _)] ?_ ⟨rfl, rfl, rfl, rfl, trivial⟩
  refine WP.next (WP.seq (WP.seq ?_))
  refine WP.region [0, 1] rfl ?_; refine WP.mv rfl rfl ?_; refine WP.vl rfl (Yld.neq rfl rfl rfl true (decide_eq_true (by decide))) ?_; refine WP.nil ?_; refine WP.sub [(0, _), (2, _), (3, _), (4, _), (22, _)] ?_ ⟨rfl, rfl, rfl, rfl, rfl, trivial⟩
  refine WP.next ?_; refine WP.condT rfl ?_; refine WP.seq ?_; refine WP.region [0, 1, 2, 3, 4, 5, 6] rfl ?_; refine WP.mv rfl rfl ?_; refine WP.vl rfl (Yld.nilCheck rfl rfl) ?_; refine WP.vl rfl (Yld.fieldAddr rfl ty_fd_74_0 rfl) ?_; refine WP.vl rfl (Yld.fieldAddr rfl ty_fd_72_0 rfl) ?_; refine WP.vl rfl (Yld.fieldAddr rfl ty_fd_58_0 rfl) ?_; refine WP.loud rfl rfl ?_; refine Op.cl (txn_end (b := g)) rfl Tryz.func110 rfl rfl rfl rfl ?_; rintro v J L1 - ⟨rfl, rfl, rfl⟩
  try simp only [nf]
  refine WP.mv rfl rfl ?_; refine WP.nil ?_; refine WP.sub [(0, _), (2, _), (3, _), (4, _), (22, _)] ?_ ⟨rfl, rfl, rfl, rfl, rfl, trivial⟩
  refine WP.next (WP.ret ?_)
  refine WP.fn .ret (.inr rfl) (res1 rfl rfl) ([(g, row T (cmV l t (.nilFunc) (.func (.func 55) [.pointer (some ⟨g, 0, none⟩)].toArray [].toArray) ({ z.c with e := 0 } : Cm) (.slice Ac z.c.clear.length cc) (.slice An z.c.ent.nodes.length cn) (.slice Aw z.c.ent.with_.length cw) (.int .i64 z.page :: [.int .i64 no])))] ++ Lt) (Imm.le_refl _) ?_; have e1 : z.asks tb no = (true, z.fin 0) := by unfold Hm.asks; rw [hgt]
  rw [e1]; exact ⟨rfl, _, _, rfl, .mk hc hn hw hs, hT⟩

theorem txo_asks1 {I : Imm} {g l t T : Nat} {no : Int} {z : Hm} {Lgr : Chunks} (hg : IsHl I g l t T [.int .i64 no] z Lgr) {tb : Tb} {Lt : Chunks} (hT : IsT I t tb Lt) {e : Nat × Ent} (hgt : tb.get z.page = some e) (hes : ∀ e, tb.get z.page = some e → e.2.sized) : Spec Tryz.prog 115 [.pointer (some ⟨g, 0, none⟩)] I (Lgr ++ Lt) (fun v J L => v = .bool (z.asks tb no).1 ∧ ∃ Lg2 Lt2, L = Lg2 ++ Lt2 ∧ IsHl J g l t T [.int .i64 no] (z.asks tb no).2 Lg2 ∧ IsT J t tb Lt2) := by
 cases hg with
 | @mk vc vn vw hc hn hw hs =>
 obtain ⟨Ac, cc, rfl, hcc, _, _⟩ := id hc
 obtain ⟨nvn, hn1, hn2⟩ := id hn.ex
 obtain ⟨An, cn, rfl, _⟩ := hn1.slice'
 obtain ⟨Aw, cw, rfl, _⟩ := hw.slice'
 refine Spec.of Tryz.func115 rfl Tryz.ntmps115 (Nat.le_of_ble_eq_true rfl) (fun F => ?_)
 try simp only [nf]
 dsimp only [argsEnv]
 refine WP.seq ?_; refine WP.region [0] rfl ?_; refine WP.mv rfl rfl ?_; refine WP.nil (WP.next (WP.seq ?_))
 refine WD.start Tryzmixed 17 (fun c o => c = g ∧ o = row T (cmV l t (hnextV g z.at_) (.func (.func 55) [.pointer (some ⟨g, 0, none⟩)].toArray [].toArray) z.c (.slice Ac z.c.clear.length cc) (.slice An z.c.ent.nodes.length cn) (.slice Aw z.c.ent.with_.length cw) (.int .i64 z.page :: [.int .i64 no]))) (fun _ _ => False) (by rintro _ _ ⟨rfl, rfl⟩; exact zM) (fun _ _ h => h.elim) 19 [false, false, false, false, false, false, false, false, false, false, false, false, false, false, false, false, false, false, false] rfl rfl ?_; refine WD.vl (i := 0) rfl (Yld.move rfl rfl) ?_; refine WD.vl (i := 1) rfl (Yld.nilCheck rfl rfl) ?_; refine WD.vl (i := 2) rfl (Yld.fieldAddr rfl ty_fd_74_0 rfl) ?_; refine WD.vl (i := 3) rfl (Yld.fieldAddr rfl ty_fd_72_0 rfl) ?_; refine WD.vl (i := 4) rfl (Yld.fieldAddr rfl ty_fd_58_0 rfl) ?_; refine WD.vl (i := 5) rfl (Yld.fieldAddr rfl ty_fd_54_1 rfl) ?_; refine WD.val1 (i := 6) rfl rfl rfl rfl zK rfl zK (Yld.load (v := .pointer (some ⟨t, 0, none⟩)) rfl ty_sc_32 rfl (.inl ⟨rfl, rfl⟩) rfl) ?_; refine WD.vl (i := 7) rfl (Yld.move rfl rfl) ?_; refine WD.vl (i := 8) rfl (Yld.nilCheck rfl rfl) ?_; refine WD.vl (i := 9) rfl (Yld.fieldAddr rfl ty_fd_74_0 rfl) ?_; refine WD.vl (i := 10) rfl (Yld.fieldAddr rfl ty_fd_72_1 rfl) ?_; refine WD.val1 (i := 11) rfl rfl rfl rfl zK rfl zK (Yld.load (v := .int .i64 z.page) rfl ty_sc_3 rfl (.inl ⟨rfl, rfl⟩) rfl) ?_; refine WD.both (i := 12) (j := 16) zK rfl rfl ?_ ?_
 ·refine WP.oper rfl rfl ?_
  refine Op.cl (tabT_Load1 hT hgt) rfl Tryz.func12 rfl rfl rfl rfl ?_; rintro v J2 Lt2 hJ2 ⟨cs, rfl, hre, hT⟩
  try simp only [nf]
  obtain ⟨vn2, vw2, nv2, rfl, q1, q2, q3⟩ := id hre.ex
  obtain ⟨An2, cn2, rfl, _⟩ := q1.slice'
  obtain ⟨Aw2, cw2, rfl, _⟩ := q3.slice'
  refine WD.gR ?_; refine WD.vl (i := 13) rfl (Yld.move rfl rfl) ?_; refine WD.vl (i := 14) rfl (Yld.extract rfl rfl rfl) ?_; refine WD.vl (i := 15) rfl (Yld.extract rfl rfl rfl) ?_; refine WD.loud (i := 16) zK rfl rfl rfl ?_; refine Op.alloc rfl rfl rfl ty_zr_43 (fun b3 => ?_)
  refine WD.gR ?_; refine WD.loud (i := 17) zK rfl rfl rfl ?_; refine Op.sA rfl rfl ty_sz_43 rfl rfl rfl rfl rfl ?_; refine WD.go (.inl rfl) (fun _ _ h => h.elim) ?_; refine WD.vl (i := 18) rfl (Yld.assign rfl rfl) ?_; refine WD.done zK ?_; refine WP.sub [(0, _), (2, _), (3, _), (4, _)] ?_ ⟨rfl, rfl, rfl, rfl, trivial⟩
  refine WP.next (WP.seq (WP.seq ?_))
  refine WP.region [0, 1] rfl ?_; refine WP.mv rfl rfl ?_; refine WP.vl rfl (Yld.neq rfl rfl rfl false (decide_eq_false (by simp))) ?_; refine WP.nil ?_; refine WP.sub [(0, _), (2, _), (3, _), (4, _), (22, _)] ?_ ⟨rfl, rfl, rfl, rfl, rfl, trivial⟩
  refine WP.next ?_; refine WP.condF rfl ?_; refine WP.skip (WP.next (WP.seq (WP.seq ?_)))
  refine WQ.startAll Tryzmixed zK _ rfl ?_; refine WQ.val rfl rfl rfl (Yld.fieldAddr rfl ty_fd_43_6 rfl) ?_; refine WQ.val rfl rfl rfl (Yld.ld (v := .int .i64 e.2.txn) rfl ty_sc_3 rfl rfl) ?_; refine WQ.val rfl rfl rfl (Yld.move rfl rfl) ?_; refine WQ.val rfl rfl rfl (Yld.nilCheck rfl rfl) ?_; refine WQ.val rfl rfl rfl (Yld.fieldAddr rfl ty_fd_74_1 rfl) ?_; refine WQ.val rfl rfl rfl (Yld.ld (v := .int .i64 no) rfl ty_sc_3 rfl rfl) ?_; refine WQ.split rfl rfl rfl (Yld.eql rfl rfl rfl) (fun hno => ?_) (fun hno => ?_)
  ·refine WQ.nil ?_
   refine WP.sub [(0, _), (2, _), (3, _), (4, _), (22, _), (35, _)] ?_ ⟨rfl, rfl, rfl, rfl, rfl, rfl, trivial⟩
   refine WP.next ?_; refine WP.condT rfl ?_; refine WP.seq ?_; refine WQ.start Tryzmixed 4 zK _ rfl [4, 5] rfl ?_; refine WQ.val rfl rfl rfl (Yld.move rfl rfl) ?_; refine WQ.val rfl rfl rfl (Yld.nilCheck rfl rfl) ?_; refine WQ.val rfl rfl rfl (Yld.fieldAddr rfl ty_fd_74_0 rfl) ?_; refine WQ.val rfl rfl rfl (Yld.ldg (vs := (entV e.2 (.slice An2 e.2.nodes.length cn2) (.slice Aw2 e.2.with_.length cw2))) rfl ty_ag_43 rfl rfl rfl) ?_; refine WQ.nil ?_; refine WP.loud rfl rfl ?_; refine Op.cl (txh_leads (IsHl.mk (g := g) (l := l) (t := t) (T := T) (ex := [.int .i64 no]) (z := z) (hc.mono fun b o q => hJ2.2 b o q) (hn.mono hJ2) (hw.mono (Imv.le hJ2)) hs) hre (hes e hgt)) rfl Tryz.func117 rfl rfl rfl rfl ?_; rintro v J3 Lr hJ3 ⟨rfl, hres⟩
   try simp only [nf]
   refine WP.mv rfl rfl ?_; refine WP.nil ?_; refine WP.sub [(0, _), (2, _), (3, _), (4, _), (22, _), (35, _)] ?_ ⟨rfl, rfl, rfl, rfl, rfl, rfl, trivial⟩
   refine WP.next (WP.ret ?_)
   refine WP.fn .ret (.inr rfl) (res1 rfl rfl) (Lr ++ Lt2) (Imm.le_trans hJ2 hJ3) ?_; have e1 : z.asks tb no = (false, z.leads e.2) := by unfold Hm.asks; rw [hgt]; exact if_pos hno
   rw [e1]; exact ⟨rfl, Lr, _, rfl, hres, hT.mono hJ3⟩
  ·refine WQ.nil ?_
   refine WP.sub [(0, _), (2, _), (3, _), (4, _), (22, _), (35, _)] ?_ ⟨rfl, rfl, rfl, rfl, rfl, rfl, trivial⟩
   refine WP.next ?_; refine WP.condF rfl ?_; refine WP.skip (WP.next (WP.seq ?_))
   refine WP.region [0, 1, 2, 3, 4, 5, 6] rfl ?_; refine WP.mv rfl rfl ?_; refine WP.vl rfl (Yld.ldg (vs := (entV e.2 (.slice An2 e.2.nodes.length cn2) (.slice Aw2 e.2.with_.length cw2))) rfl ty_ag_43 rfl rfl rfl) ?_; refine WP.vl rfl (Yld.nilCheck rfl rfl) ?_; refine WP.vl rfl (Yld.fieldAddr rfl ty_fd_74_0 rfl) ?_; refine WP.vl rfl (Yld.fieldAddr rfl ty_fd_72_0 rfl) ?_; refine WP.vl rfl (Yld.fieldAddr rfl ty_fd_58_4 rfl) ?_; refine WP.loud rfl rfl ?_; refine Op.storeN rfl rfl ty_sz_43 rfl rfl rfl rfl (Nat.le_of_ble_eq_true rfl) (show cmV l t (hnextV g z.at_) (.func (.func 55) [.pointer (some ⟨g, 0, none⟩)].toArray [].toArray) ({ z.c with ent := e.2 } : Cm) (.slice Ac z.c.clear.length cc) (.slice An2 e.2.nodes.length cn2) (.slice Aw2 e.2.with_.length cw2) (.int .i64 z.page :: [.int .i64 no]) = _ from rfl) (by repeat (first | exact Upd.head | apply Upd.tail | apply Upd.tailS)) ?_; refine WP.nil ?_; refine WP.sub [(0, _), (2, _), (3, _), (4, _), (22, _), (35, _)] ?_ ⟨rfl, rfl, rfl, rfl, rfl, rfl, trivial⟩
   refine WP.next (WP.seq ?_)
   refine WP.region [0, 1, 2, 3, 4, 5, 6, 7, 8] rfl ?_; refine WP.mv rfl rfl ?_; refine WP.vl rfl (Yld.nilCheck rfl rfl) ?_; refine WP.vl rfl (Yld.fieldAddr rfl ty_fd_74_0 rfl) ?_; refine WP.vl rfl (Yld.fieldAddr rfl ty_fd_72_0 rfl) ?_; refine WP.vl rfl (Yld.fieldAddr rfl ty_fd_58_0 rfl) ?_; refine WP.mv rfl rfl ?_; refine WP.vl rfl (Yld.makeFunc rfl (vs := [_]) (us := []) rfl rfl) ?_; refine WP.loud rfl rfl ?_; refine Op.cl (txn_goes (b := g) (l := l) (t := t) (nx := hnextV g z.at_) (th := .func (.func 55) [.pointer (some ⟨g, 0, none⟩)].toArray [].toArray) (z := ({ z.c with ent := e.2 } : Cm)) (vc := .slice Ac z.c.clear.length cc) (vn := .slice An2 e.2.nodes.length cn2) (vw := .slice Aw2 e.2.with_.length cw2) (ex := .int .i64 z.page :: [.int .i64 no])) rfl Tryz.func111 rfl rfl rfl rfl ?_; rintro v J L1 - ⟨rfl, rfl, rfl⟩
   try simp only [nf]
   refine WP.mv rfl rfl ?_; refine WP.nil ?_; refine WP.sub [(0, _), (2, _), (3, _), (4, _), (22, _), (35, _)] ?_ ⟨rfl, rfl, rfl, rfl, rfl, rfl, trivial⟩
   refine WP.next (WP.ret ?_)
   refine WP.fn .ret (.inr rfl) (res1 rfl rfl) ([(g, row T (cmV l t (hnextV g 8) (.func (.func 55) [.pointer (some ⟨g, 0, none⟩)].toArray [].toArray) ({ z.c with ent := e.2 } : Cm) (.slice Ac z.c.clear.length cc) (.slice An2 e.2.nodes.length cn2) (.slice Aw2 e.2.with_.length cw2) (.int .i64 z.page :: [.int .i64 no])))] ++ Lt2) hJ2 ?_; have e1 : z.asks tb no = (false, (z.setC { z.c with ent := e.2 }).go 8) := by unfold Hm.asks; rw [hgt]; exact if_neg hno
   rw [e1]; exact ⟨rfl, _, _, rfl, .mk (hc.mono fun b o q => hJ2.2 b o q) ⟨nv2, q1, q2⟩ q3 (hes e hgt), hT⟩
 ·refine WP.oper rfl rfl ?_
  refine Op.alloc rfl rfl rfl ty_zr_43 (fun b3 => ?_)
  refine WD.gR ?_; refine WD.loud (i := 12) zK rfl rfl rfl ?_; refine Op.cl (tabT_Load1 hT hgt) rfl Tryz.func12 rfl rfl rfl rfl ?_; rintro v J2 Lt2 hJ2 ⟨cs, rfl, hre, hT⟩
  try simp only [nf]
  obtain ⟨vn2, vw2, nv2, rfl, q1, q2, q3⟩ := id hre.ex
  obtain ⟨An2, cn2, rfl, _⟩ := q1.slice'
  obtain ⟨Aw2, cw2, rfl, _⟩ := q3.slice'
  refine WD.gR ?_; refine WD.vl (i := 13) rfl (Yld.move rfl rfl) ?_; refine WD.vl (i := 14) rfl (Yld.extract rfl rfl rfl) ?_; refine WD.vl (i := 15) rfl (Yld.extract rfl rfl rfl) ?_; refine WD.loud (i := 17) zK rfl rfl rfl ?_; refine Op.sA rfl rfl ty_sz_43 rfl rfl rfl rfl rfl ?_; refine WD.go (.inl rfl) (fun _ _ h => h.elim) ?_; refine WD.vl (i := 18) rfl (Yld.assign rfl rfl) ?_; refine WD.done zK ?_; refine WP.sub [(0, _), (2, _), (3, _), (4, _)] ?_ ⟨rfl, rfl, rfl, rfl, trivial⟩
  refine WP.next (WP.seq (WP.seq ?_))
  refine WP.region [0, 1] rfl ?_; refine WP.mv rfl rfl ?_; refine WP.vl rfl (Yld.neq rfl rfl rfl false (decide_eq_false (by simp))) ?_; refine WP.nil ?_; refine WP.sub [(0, _), (2, _), (3, _), (4, _), (22, _)] ?_ ⟨rfl, rfl, rfl, rfl, rfl, trivial⟩
  refine WP.next ?_; refine WP.condF rfl ?_; refine WP.skip (WP.next (WP.seq (WP.seq ?_)))
  refine WQ.startAll Tryzmixed zK _ rfl ?_; refine WQ.val rfl rfl rfl (Yld.fieldAddr rfl ty_fd_43_6 rfl) ?_; refine WQ.val rfl rfl rfl (Yld.ld (v := .int .i64 e.2.txn) rfl ty_sc_3 rfl rfl) ?_; refine WQ.val rfl rfl rfl (Yld.move rfl rfl) ?_; refine WQ.val rfl rfl rfl (Yld.nilCheck rfl rfl) ?_; refine WQ.val rfl rfl rfl (Yld.fieldAddr rfl ty_fd_74_1 rfl) ?_; refine WQ.val rfl rfl rfl (Yld.ld (v := .int .i64 no) rfl ty_sc_3 rfl rfl) ?_; refine WQ.split rfl rfl rfl (Yld.eql rfl rfl rfl) (fun hno => ?_) (fun hno => ?_)
  ·refine WQ.nil ?_
   refine WP.sub [(0, _), (2, _), (3, _), (4, _), (22, _), (35, _)] ?_ ⟨rfl, rfl, rfl, rfl, rfl, rfl, trivial⟩
   refine WP.next ?_; refine WP.condT rfl ?_; refine WP.seq ?_; refine WQ.start Tryzmixed 4 zK _ rfl [4, 5] rfl ?_; refine WQ.val rfl rfl rfl (Yld.move rfl rfl) ?_; refine WQ.val rfl rfl rfl (Yld.nilCheck rfl rfl) ?_; refine WQ.val rfl rfl rfl (Yld.fieldAddr rfl ty_fd_74_0 rfl) ?_; refine WQ.val rfl rfl rfl (Yld.ldg (vs := (entV e.2 (.slice An2 e.2.nodes.length cn2) (.slice Aw2 e.2.with_.length cw2))) rfl ty_ag_43 rfl rfl rfl) ?_; refine WQ.nil ?_; refine WP.loud rfl rfl ?_; refine Op.cl (txh_leads (IsHl.mk (g := g) (l := l) (t := t) (T := T) (ex := [.int .i64 no]) (z := z) (hc.mono fun b o q => hJ2.2 b o q) (hn.mono hJ2) (hw.mono (Imv.le hJ2)) hs) hre (hes e hgt)) rfl Tryz.func117 rfl rfl rfl rfl ?_; rintro v J3 Lr hJ3 ⟨rfl, hres⟩
   try simp only [nf]
   refine WP.mv rfl rfl ?_; refine WP.nil ?_; refine WP.sub [(0, _), (2, _), (3, _), (4, _), (22, _), (35, _)] ?_ ⟨rfl, rfl, rfl, rfl, rfl, rfl, trivial⟩
   refine WP.next (WP.ret ?_)
   refine WP.fn .ret (.inr rfl) (res1 rfl rfl) (Lr ++ Lt2) (Imm.le_trans hJ2 hJ3) ?_; have e1 : z.asks tb no = (false, z.leads e.2) := by unfold Hm.asks; rw [hgt]; exact if_pos hno
   rw [e1]; exact ⟨rfl, Lr, _, rfl, hres, hT.mono hJ3⟩
  ·refine WQ.nil ?_
   refine WP.sub [(0, _), (2, _), (3, _), (4, _), (22, _), (35, _)] ?_ ⟨rfl, rfl, rfl, rfl, rfl, rfl, trivial⟩
   refine WP.next ?_; refine WP.condF rfl ?_; refine WP.skip (WP.next (WP.seq ?_))
   refine WP.region [0, 1, 2, 3, 4, 5, 6] rfl ?_; refine WP.mv rfl rfl ?_; refine WP.vl rfl (Yld.ldg (vs := (entV e.2 (.slice An2 e.2.nodes.length cn2) (.slice Aw2 e.2.with_.length cw2))) rfl ty_ag_43 rfl rfl rfl) ?_; refine WP.vl rfl (Yld.nilCheck rfl rfl) ?_; refine WP.vl rfl (Yld.fieldAddr rfl ty_fd_74_0 rfl) ?_; refine WP.vl rfl (Yld.fieldAddr rfl ty_fd_72_0 rfl) ?_; refine WP.vl rfl (Yld.fieldAddr rfl ty_fd_58_4 rfl) ?_; refine WP.loud rfl rfl ?_; refine Op.storeN rfl rfl ty_sz_43 rfl rfl rfl rfl (Nat.le_of_ble_eq_true rfl) (show cmV l t (hnextV g z.at_) (.func (.func 55) [.pointer (some ⟨g, 0, none⟩)].toArray [].toArray) ({ z.c with ent := e.2 } : Cm) (.slice Ac z.c.clear.length cc) (.slice An2 e.2.nodes.length cn2) (.slice Aw2 e.2.with_.length cw2) (.int .i64 z.page :: [.int .i64 no]) = _ from rfl) (by repeat (first | exact Upd.head | apply Upd.tail | apply Upd.tailS)) ?_; refine WP.nil ?_; refine WP.sub [(0, _), (2, _), (3, _), (4, _), (22, _), (35, _)] ?_ ⟨rfl, rfl, rfl, rfl, rfl, rfl, trivial⟩
   refine WP.next (WP.seq ?_)
   refine WP.region [0, 1, 2, 3, 4, 5, 6, 7, 8] rfl ?_; refine WP.mv rfl rfl ?_; refine WP.vl rfl (Yld.nilCheck rfl rfl) ?_; refine WP.vl rfl (Yld.fieldAddr rfl ty_fd_74_0 rfl) ?_; refine WP.vl rfl (Yld.fieldAddr rfl ty_fd_72_0 rfl) ?_; refine WP.vl rfl (Yld.fieldAddr rfl ty_fd_58_0 rfl) ?_; refine WP.mv rfl rfl ?_; refine WP.vl rfl (Yld.makeFunc rfl (vs := [_]) (us := []) rfl rfl) ?_; refine WP.loud rfl rfl ?_; refine Op.cl (txn_goes (b := g) (l := l) (t := t) (nx := hnextV g z.at_) (th := .func (.func 55) [.pointer (some ⟨g, 0, none⟩)].toArray [].toArray) (z := ({ z.c with ent := e.2 } : Cm)) (vc := .slice Ac z.c.clear.length cc) (vn := .slice An2 e.2.nodes.length cn2) (vw := .slice Aw2 e.2.with_.length cw2) (ex := .int .i64 z.page :: [.int .i64 no])) rfl Tryz.func111 rfl rfl rfl rfl ?_; rintro v J L1 - ⟨rfl, rfl, rfl⟩
   try simp only [nf]
   refine WP.mv rfl rfl ?_; refine WP.nil ?_; refine WP.sub [(0, _), (2, _), (3, _), (4, _), (22, _), (35, _)] ?_ ⟨rfl, rfl, rfl, rfl, rfl, rfl, trivial⟩
   refine WP.next (WP.ret ?_)
   refine WP.fn .ret (.inr rfl) (res1 rfl rfl) ([(g, row T (cmV l t (hnextV g 8) (.func (.func 55) [.pointer (some ⟨g, 0, none⟩)].toArray [].toArray) ({ z.c with ent := e.2 } : Cm) (.slice Ac z.c.clear.length cc) (.slice An2 e.2.nodes.length cn2) (.slice Aw2 e.2.with_.length cw2) (.int .i64 z.page :: [.int .i64 no])))] ++ Lt2) hJ2 ?_; have e1 : z.asks tb no = (false, (z.setC { z.c with ent := e.2 }).go 8) := by unfold Hm.asks; rw [hgt]; exact if_neg hno
   rw [e1]; exact ⟨rfl, _, _, rfl, .mk (hc.mono fun b o q => hJ2.2 b o q) ⟨nv2, q1, q2⟩ q3 (hes e hgt), hT⟩

theorem txo_bars {I : Imm} {g l t T : Nat} {no : Int} {z : Hm} {Lgr : Chunks} (hg : IsHl I g l t T [.int .i64 no] z Lgr) {tb : Tb} {Lt : Chunks} (hT : IsT I t tb Lt) (htk : tb.tok + 1 < 18446744073709551616) : Spec Tryz.prog 159 [.pointer (some ⟨g, 0, none⟩)] I (Lgr ++ Lt) (fun v J L => ∃ r tb2 Lg2 Lt2, SwR tb z.page z.c.ent.tok z.c.ent r tb2 ∧ v = .bool (z.bars r).1 ∧ L = Lg2 ++ Lt2 ∧ IsHl J g l t T [.int .i64 no] (z.bars r).2 Lg2 ∧ IsT J t tb2 Lt2) := by
 cases hg with
 | @mk vc vn vw hc hn hw hs =>
 obtain ⟨Ac, cc, rfl, hcc, _, _⟩ := id hc
 obtain ⟨nvn, hn1, hn2⟩ := id hn.ex
 obtain ⟨An, cn, rfl, _⟩ := hn1.slice'
 obtain ⟨Aw, cw, rfl, _⟩ := hw.slice'
 have hre2 : REnt I z.c.ent [.int .u64 (z.c.ent.tok : Int), .slice An z.c.ent.nodes.length cn, .int .i64 z.c.ent.place, .int .i64 z.c.ent.no, .int .i64 z.c.ent.low, .int .i64 z.c.ent.kept, .int .i64 z.c.ent.txn, .int .i64 z.c.ent.lead, .slice Aw z.c.ent.with_.length cw] := ⟨_, _, nvn, rfl, hn1, hn2, hw⟩
 refine Spec.of Tryz.func159 rfl Tryz.ntmps159 (Nat.le_of_ble_eq_true rfl) (fun F => ?_)
 try simp only [nf]
 dsimp only [argsEnv]
 refine WP.seq ?_; refine WP.region [0] rfl ?_; refine WP.mv rfl rfl ?_; refine WP.nil (WP.next (WP.seq (WP.seq ?_)))
 refine WD.start Tryzmixed 26 (fun c o => c = g ∧ o = row T (cmV l t (hnextV g z.at_) (.func (.func 55) [.pointer (some ⟨g, 0, none⟩)].toArray [].toArray) z.c (.slice Ac z.c.clear.length cc) (.slice An z.c.ent.nodes.length cn) (.slice Aw z.c.ent.with_.length cw) (.int .i64 z.page :: [.int .i64 no]))) (fun _ _ => False) (by rintro _ _ ⟨rfl, rfl⟩; exact zM) (fun _ _ h => h.elim) 28 [false, false, false, false, false, false, false, false, false, false, false, false, false, false, false, false, false, false, false, false, false, false, false, false, false, false, false, false] rfl rfl ?_; refine WD.vl (i := 0) rfl (Yld.move rfl rfl) ?_; refine WD.vl (i := 1) rfl (Yld.nilCheck rfl rfl) ?_; refine WD.vl (i := 2) rfl (Yld.fieldAddr rfl ty_fd_74_0 rfl) ?_; refine WD.vl (i := 3) rfl (Yld.fieldAddr rfl ty_fd_72_0 rfl) ?_; refine WD.vl (i := 4) rfl (Yld.fieldAddr rfl ty_fd_58_0 rfl) ?_; refine WD.vl (i := 5) rfl (Yld.fieldAddr rfl ty_fd_54_1 rfl) ?_; refine WD.val1 (i := 6) rfl rfl rfl rfl zK rfl zK (Yld.load (v := .pointer (some ⟨t, 0, none⟩)) rfl ty_sc_32 rfl (.inl ⟨rfl, rfl⟩) rfl) ?_; refine WD.vl (i := 7) rfl (Yld.move rfl rfl) ?_; refine WD.vl (i := 8) rfl (Yld.nilCheck rfl rfl) ?_; refine WD.vl (i := 9) rfl (Yld.fieldAddr rfl ty_fd_74_0 rfl) ?_; refine WD.vl (i := 10) rfl (Yld.fieldAddr rfl ty_fd_72_1 rfl) ?_; refine WD.val1 (i := 11) rfl rfl rfl rfl zK rfl zK (Yld.load (v := .int .i64 z.page) rfl ty_sc_3 rfl (.inl ⟨rfl, rfl⟩) rfl) ?_; refine WD.vl (i := 12) rfl (Yld.move rfl rfl) ?_
 refine WD.vl (i := 13) rfl (Yld.nilCheck rfl rfl) ?_; refine WD.vl (i := 14) rfl (Yld.fieldAddr rfl ty_fd_74_0 rfl) ?_; refine WD.vl (i := 15) rfl (Yld.fieldAddr rfl ty_fd_72_0 rfl) ?_; refine WD.vl (i := 16) rfl (Yld.fieldAddr rfl ty_fd_58_4 rfl) ?_; refine WD.vl (i := 17) rfl (Yld.fieldAddr rfl ty_fd_43_0 rfl) ?_; refine WD.val1 (i := 18) rfl rfl rfl rfl zK rfl zK (Yld.load (v := .int .u64 (z.c.ent.tok : Int)) rfl ty_sc_40 rfl (.inl ⟨rfl, rfl⟩) rfl) ?_; refine WD.vl (i := 19) rfl (Yld.move rfl rfl) ?_; refine WD.vl (i := 20) rfl (Yld.nilCheck rfl rfl) ?_; refine WD.vl (i := 21) rfl (Yld.fieldAddr rfl ty_fd_74_0 rfl) ?_; refine WD.vl (i := 22) rfl (Yld.fieldAddr rfl ty_fd_72_0 rfl) ?_; refine WD.vl (i := 23) rfl (Yld.fieldAddr rfl ty_fd_58_4 rfl) ?_; refine WD.val1 (i := 24) rfl rfl rfl rfl zK rfl zK (Yld.loadAgg (vs := [.int .u64 (z.c.ent.tok : Int), .slice An z.c.ent.nodes.length cn, .int .i64 z.c.ent.place, .int .i64 z.c.ent.no, .int .i64 z.c.ent.low, .int .i64 z.c.ent.kept, .int .i64 z.c.ent.txn, .int .i64 z.c.ent.lead, .slice Aw z.c.ent.with_.length cw]) rfl ty_ag_43 rfl (.inl ⟨rfl, rfl⟩) rfl rfl) ?_; refine WD.loud (i := 25) zK rfl rfl rfl ?_; refine Op.cl (txn_with0 (e := z.c.ent) (vn := .slice An z.c.ent.nodes.length cn) (vw := .slice Aw z.c.ent.with_.length cw) rfl rfl) rfl Tryz.func181 rfl rfl rfl rfl ?_; rintro v J L1 - ⟨rfl, rfl, rfl⟩
 try simp only [nf]
 refine WD.gR ?_; refine WD.loud (i := 26) zK rfl rfl rfl ?_; refine Op.cl (tabT_SwapX hT (p := z.page) (tk := z.c.ent.tok) (e := z.c.ent) hre2 hs htk) rfl Tryz.func83 rfl rfl rfl rfl ?_; rintro v J2 Lt2 hJ2 ⟨r, tb2, rfl, hsw, hT2⟩
 try simp only [nf]
 refine WD.go (.inl rfl) (fun _ _ h => h.elim) ?_; refine WD.split (i := 27) rfl rfl rfl rfl zK rfl (Yld.eql rfl rfl rfl) (fun h5 => ?_) (fun h5 => ?_)
 ·refine WD.done zK ?_
  refine WP.sub [(0, _), (2, _), (30, _)] ?_ ⟨rfl, rfl, rfl, trivial⟩
  refine WP.next ?_; refine WP.condT rfl ?_; refine WP.seq ?_; refine WP.region [0, 1, 2, 3, 4, 5, 6, 7, 8] rfl ?_; refine WP.mv rfl rfl ?_; refine WP.vl rfl (Yld.nilCheck rfl rfl) ?_; refine WP.vl rfl (Yld.fieldAddr rfl ty_fd_74_0 rfl) ?_; refine WP.vl rfl (Yld.fieldAddr rfl ty_fd_72_0 rfl) ?_; refine WP.vl rfl (Yld.fieldAddr rfl ty_fd_58_0 rfl) ?_; refine WP.mv rfl rfl ?_; refine WP.vl rfl (Yld.makeFunc rfl (vs := [_]) (us := []) rfl rfl) ?_; refine WP.loud rfl rfl ?_; refine Op.cl (txn_goes (b := g)) rfl Tryz.func111 rfl rfl rfl rfl ?_; rintro v J L1 - ⟨rfl, rfl, rfl⟩
  try simp only [nf]
  refine WP.mv rfl rfl ?_; refine WP.nil ?_; refine WP.sub [(0, _), (2, _), (30, _)] ?_ ⟨rfl, rfl, rfl, trivial⟩
  refine WP.next (WP.ret ?_)
  refine WP.fn .ret (.inr rfl) (res1 rfl rfl) ([(g, row T (cmV l t (hnextV g 3) (.func (.func 55) [.pointer (some ⟨g, 0, none⟩)].toArray [].toArray) z.c (.slice Ac z.c.clear.length cc) (.slice An z.c.ent.nodes.length cn) (.slice Aw z.c.ent.with_.length cw) (.int .i64 z.page :: [.int .i64 no])))] ++ Lt2) hJ2 ?_; have e1 : z.bars r = (false, z.go 3) := if_pos h5
  exact ⟨r, tb2, _, _, hsw, by rw [e1], rfl, by rw [e1]; exact .mk (hc.mono fun b o q => hJ2.2 b o q) (hn.mono hJ2) (hw.mono (Imv.le hJ2)) hs, hT2⟩
 ·refine WD.done zK ?_
  refine WP.sub [(0, _), (2, _), (30, _)] ?_ ⟨rfl, rfl, rfl, trivial⟩
  refine WP.next ?_; refine WP.condF rfl ?_; refine WP.skip (WP.next (WP.seq ?_))
  refine WP.region [0, 1, 2, 3, 4, 5, 6] rfl ?_; refine WP.mv rfl rfl ?_; refine WP.vl rfl (Yld.nilCheck rfl rfl) ?_; refine WP.vl rfl (Yld.fieldAddr rfl ty_fd_74_0 rfl) ?_; refine WP.vl rfl (Yld.fieldAddr rfl ty_fd_72_0 rfl) ?_; refine WP.vl rfl (Yld.fieldAddr rfl ty_fd_58_0 rfl) ?_; refine WP.loud rfl rfl ?_; refine Op.cl (txn_end (b := g)) rfl Tryz.func110 rfl rfl rfl rfl ?_; rintro v J L1 - ⟨rfl, rfl, rfl⟩
  try simp only [nf]
  refine WP.mv rfl rfl ?_; refine WP.nil ?_; refine WP.sub [(0, _), (2, _), (30, _)] ?_ ⟨rfl, rfl, rfl, trivial⟩
  refine WP.next (WP.ret ?_)
  refine WP.fn .ret (.inr rfl) (res1 rfl rfl) ([(g, row T (cmV l t (.nilFunc) (.func (.func 55) [.pointer (some ⟨g, 0, none⟩)].toArray [].toArray) ({ z.c with e := 0 } : Cm) (.slice Ac z.c.clear.length cc) (.slice An z.c.ent.nodes.length cn) (.slice Aw z.c.ent.with_.length cw) (.int .i64 z.page :: [.int .i64 no])))] ++ Lt2) hJ2 ?_; have e1 : z.bars r = (true, z.fin 0) := if_neg h5
  exact ⟨r, tb2, _, _, hsw, by rw [e1], rfl, by rw [e1]; exact .mk (hc.mono fun b o q => hJ2.2 b o q) (hn.mono hJ2) (hw.mono (Imv.le hJ2)) hs, hT2⟩


theorem txo_asks {I : Imm} {g l t T : Nat} {no : Int} {z : Hm} {Lgr : Chunks} (hg : IsHl I g l t T [.int .i64 no] z Lgr) {tb : Tb} {Lt : Chunks} (hT : IsT I t tb Lt) : Spec Tryz.prog 115 [.pointer (some ⟨g, 0, none⟩)] I (Lgr ++ Lt) (fun v J L => v = .bool (z.asks tb no).1 ∧ ∃ Lg2 Lt2, L = Lg2 ++ Lt2 ∧ IsHl J g l t T [.int .i64 no] (z.asks tb no).2 Lg2 ∧ IsT J t tb Lt2) := by
 cases hgt : tb.get z.page with
 | none => exact txo_asks0 hg hT hgt
 | some e => exact txo_asks1 hg hT hgt (fun e he => (hT.ent he).1)
def Lg.getR (x : Lg) (no : Int) : Option Rc := if (x.lo : Int) < no ∧ no ≤ (x.no : Int) then x.rs[(no - x.base - 1).toNat]? else none
noncomputable def Hm.finds (x : Lg) (no : Int) (z : Hm) : Bool × Hm := match x.getR no with
 | none => (true, z.fin 0)
 | some r => z.found r
/-- What a step of a Settle does. -/
inductive SSt (no : Int) (x : Lg) (tb : Tb) (z : Hm) : Bool → Hm → Lg → Tb → Prop
 | find (h : z.at_ = 2) : SSt no x tb z (z.finds x no).1 (z.finds x no).2 x tb
 | ask (h : z.at_ = 3) : SSt no x tb z (z.asks tb no).1 (z.asks tb no).2 x tb
 | bar (h : z.at_ = 8) {r : Int} {tb2 : Tb} (hs : SwR tb z.page z.c.ent.tok z.c.ent r tb2) : SSt no x tb z (z.bars r).1 (z.bars r).2 x tb2
 | help (h : 4 ≤ z.at_) (h8 : z.at_ ≠ 8) {b : Bool} {z2 : Hm} {x2 : Lg} {tb2 : Tb} (hs : HSt x tb z b z2 x2 tb2) : SSt no x tb z b z2 x2 tb2
structure Hm.preS (z : Hm) (x : Lg) (tb : Tb) : Prop where
 tok : tb.tok + 1 < 18446744073709551616
 clr : z.at_ = 6 ∨ z.at_ = 7 → 0 < z.c.clear.length
 com : z.at_ = 5 → 1 ≤ z.c.txn ∧ z.c.txn ≤ 1099511627776
 at_ : 2 ≤ z.at_
 rl : ∀ r ∈ x.rs, r.b.length ≤ 1099511627776
 lo : x.lo = 0 ∧ x.base = 0
def SStQ (no : Int) (l s d n g t T : Nat) (x : Lg) (y : Dk) (tb : Tb) (z : Hm) (v : Value) (J : Imm) (L : Chunks) : Prop := ∃ b z2 x2 tb2 Lg2 Lt2 Ll2, SSt no x tb z b z2 x2 tb2 ∧ v = .bool b ∧ L = Lg2 ++ (Lt2 ++ Ll2) ∧ IsHl J g l t T [.int .i64 no] z2 Lg2 ∧ IsT J t tb2 Lt2 ∧ IsLog J l s d n x2 y Ll2
theorem txo_finds {I : Imm} {g l t T : Nat} {no : Int} {z : Hm} {Lgr : Chunks} (hg : IsHl I g l t T [.int .i64 no] z Lgr) {s d n : Nat} {x : Lg} {y : Dk} {Ll : Chunks} (hlg : IsLog I l s d n x y Ll) (hlo : x.lo = 0 ∧ x.base = 0) (hrl : ∀ r ∈ x.rs, r.b.length ≤ 1099511627776) : Spec Tryz.prog 54 [.pointer (some ⟨g, 0, none⟩)] I (Lgr ++ Ll) (fun v J L => v = .bool (z.finds x no).1 ∧ ∃ Lg2 Ll2, L = Lg2 ++ Ll2 ∧ IsHl J g l t T [.int .i64 no] (z.finds x no).2 Lg2 ∧ IsLog J l s d n x y Ll2) := by
 have hno : x.no = x.base + x.rs.length := rfl
 by_cases ha : (x.lo : Int) < no ∧ no ≤ (x.no : Int)
 ·obtain ⟨k, hk, rfl⟩ : ∃ k : Nat, k < x.rs.length ∧ no = ((x.base + k + 1 : Nat) : Int) := ⟨(no - 1).toNat, by omega, by omega⟩
  have e : z.finds x ((x.base + k + 1 : Nat) : Int) = z.found x.rs[k] := by
   unfold Hm.finds Lg.getR
   rw [if_pos ha, show (((x.base + k + 1 : Nat) : Int) - (x.base : Int) - 1).toNat = k by omega, List.getElem?_eq_getElem hk]
  rw [e]
  exact txo_finds1 hg hlg hk (by omega) (hrl _ (List.getElem_mem hk))
 ·have e : z.finds x no = (true, z.fin 0) := by unfold Hm.finds Lg.getR; rw [if_neg ha]
  rw [e]
  exact txo_finds0 hg hlg ha
theorem txo_Step2 {I : Imm} {g l t T : Nat} {no : Int} {z : Hm} {Lgr : Chunks} (hg : IsHl I g l t T [.int .i64 no] z Lgr) {tb : Tb} {Lt : Chunks} (hT : IsT I t tb Lt) {s d n : Nat} {x : Lg} {y : Dk} {Ll : Chunks} (hlg : IsLog I l s d n x y Ll) (hpr : z.preS x tb) (hk0 : z.at_ = 2) : Spec Tryz.prog 15 [.pointer (some ⟨g, 0, none⟩)] I (Lgr ++ (Lt ++ Ll)) (SStQ no l s d n g t T x y tb z) := by
 have sp : Spec Tryz.prog 54 [.pointer (some ⟨g, 0, none⟩)] I (Lgr ++ (Lt ++ Ll)) (SStQ no l s d n g t T x y tb z) := Spec.withT (txo_finds hg hlg hpr.lo hpr.rl) (by
  rintro v J L1 hJ ⟨rfl, Lg2, Ll2, rfl, h1, h2⟩
  exact ⟨_, _, rfl, ⟨_, _, _, _, _, _, _, .find hk0, rfl, rfl, h1, hT.mono hJ, h2⟩⟩)
 cases hg with
 | mk hc hn hw hs => exact txn_StepF (by rw [hk0]; rfl) Tryz.func54 rfl sp (by rintro v J L ⟨b, _, _, _, _, _, _, _, rfl, _⟩; exact ⟨b, rfl⟩)
theorem txo_Step3 {I : Imm} {g l t T : Nat} {no : Int} {z : Hm} {Lgr : Chunks} (hg : IsHl I g l t T [.int .i64 no] z Lgr) {tb : Tb} {Lt : Chunks} (hT : IsT I t tb Lt) {s d n : Nat} {x : Lg} {y : Dk} {Ll : Chunks} (hlg : IsLog I l s d n x y Ll) (hpr : z.preS x tb) (hk0 : z.at_ = 3) : Spec Tryz.prog 15 [.pointer (some ⟨g, 0, none⟩)] I (Lgr ++ (Lt ++ Ll)) (SStQ no l s d n g t T x y tb z) := by
 have sp : Spec Tryz.prog 115 [.pointer (some ⟨g, 0, none⟩)] I (Lgr ++ (Lt ++ Ll)) (SStQ no l s d n g t T x y tb z) := Spec.withL (txo_asks hg hT) (by
  rintro v J L1 hJ ⟨rfl, Lg2, Lt2, rfl, h1, h2⟩
  exact ⟨_, _, rfl, ⟨_, _, _, _, _, _, _, .ask hk0, rfl, rfl, h1, h2, hlg.mono hJ⟩⟩)
 cases hg with
 | mk hc hn hw hs => exact txn_StepF (by rw [hk0]; rfl) Tryz.func115 rfl sp (by rintro v J L ⟨b, _, _, _, _, _, _, _, rfl, _⟩; exact ⟨b, rfl⟩)
theorem txo_Step8 {I : Imm} {g l t T : Nat} {no : Int} {z : Hm} {Lgr : Chunks} (hg : IsHl I g l t T [.int .i64 no] z Lgr) {tb : Tb} {Lt : Chunks} (hT : IsT I t tb Lt) {s d n : Nat} {x : Lg} {y : Dk} {Ll : Chunks} (hlg : IsLog I l s d n x y Ll) (hpr : z.preS x tb) (hk0 : z.at_ = 8) : Spec Tryz.prog 15 [.pointer (some ⟨g, 0, none⟩)] I (Lgr ++ (Lt ++ Ll)) (SStQ no l s d n g t T x y tb z) := by
 have sp : Spec Tryz.prog 159 [.pointer (some ⟨g, 0, none⟩)] I (Lgr ++ (Lt ++ Ll)) (SStQ no l s d n g t T x y tb z) := Spec.withL (txo_bars hg hT hpr.tok) (by
  rintro v J L1 hJ ⟨r, tb2, Lg2, Lt2, hq, rfl, rfl, h1, h2⟩
  exact ⟨_, _, rfl, ⟨_, _, _, _, _, _, _, .bar hk0 hq, rfl, rfl, h1, h2, hlg.mono hJ⟩⟩)
 cases hg with
 | mk hc hn hw hs => exact txn_StepF (by rw [hk0]; rfl) Tryz.func159 rfl sp (by rintro v J L ⟨b, _, _, _, _, _, _, _, rfl, _⟩; exact ⟨b, rfl⟩)

theorem txo_Step {I : Imm} {g l t T : Nat} {no : Int} {z : Hm} {Lgr : Chunks} (hg : IsHl I g l t T [.int .i64 no] z Lgr) {tb : Tb} {Lt : Chunks} (hT : IsT I t tb Lt) {s d n : Nat} {x : Lg} {y : Dk} {Ll : Chunks} (hlg : IsLog I l s d n x y Ll) (hpr : z.preS x tb) : Spec Tryz.prog 15 [.pointer (some ⟨g, 0, none⟩)] I (Lgr ++ (Lt ++ Ll)) (SStQ no l s d n g t T x y tb z) := by
 have h2 := hpr.at_
 by_cases q2 : z.at_ = 2
 ·exact txo_Step2 hg hT hlg hpr q2
 by_cases q3 : z.at_ = 3
 ·exact txo_Step3 hg hT hlg hpr q3
 by_cases q8 : z.at_ = 8
 ·exact txo_Step8 hg hT hlg hpr q8
 refine (txh_Step hg hT hlg ⟨hpr.tok, hpr.clr, hpr.com, by omega⟩).mono ?_; rintro v J L - ⟨b, z2, x2, tb2, Lg2, Lt2, Ll2, hs, h1, h3, h4, h5, h6⟩
 exact ⟨b, z2, x2, tb2, Lg2, Lt2, Ll2, .help (by omega) q8 hs, h1, h3, h4, h5, h6⟩
structure SInv (no : Int) (Inv : Nat → Lg → Tb → Hm → Prop) : Prop where
 pre : ∀ m x tb z, Inv m x tb z → z.preS x tb
 step : ∀ m x tb z b z2 x2 tb2, Inv m x tb z → SSt no x tb z b z2 x2 tb2 → (b = true ∧ Inv 0 x2 tb2 z2 ∧ z2.at_ = 9) ∨ (b = false ∧ ∃ m', m' < m ∧ Inv m' x2 tb2 z2)
theorem txo_runSettle {I : Imm} {g l t T : Nat} {no : Int} {z : Hm} {Lgr : Chunks} (hg : IsHl I g l t T [.int .i64 no] z Lgr) {tb : Tb} {Lt : Chunks} (hT : IsT I t tb Lt) {s d n : Nat} {x : Lg} {y : Dk} {Ll : Chunks} (hlg : IsLog I l s d n x y Ll) {Inv : Nat → Lg → Tb → Hm → Prop} (hI : SInv no Inv) {m0 : Nat} (hm0 : m0 + 0 ≤ 199) (hi0 : Inv m0 x tb z) : Spec Tryz.prog 20 [.pointer (some ⟨g, 0, none⟩)] I (Lgr ++ (Lt ++ Ll)) (fun v J L => ∃ z2 x2 tb2 Lg2 Lt2 Ll2, v = .tuple #[] ∧ L = Lg2 ++ (Lt2 ++ Ll2) ∧ IsHl J g l t T [.int .i64 no] z2 Lg2 ∧ IsT J t tb2 Lt2 ∧ IsLog J l s d n x2 y Ll2 ∧ Inv 0 x2 tb2 z2 ∧ z2.at_ = 9) := by
 refine Spec.of Tryz.func20 rfl Tryz.ntmps20 (Nat.le_of_ble_eq_true rfl) (fun F => ?_)
 try simp only [nf]
 dsimp only [argsEnv]
 refine WP.seq ?_; refine WP.region [0] rfl ?_; refine WP.mv rfl rfl ?_; refine WP.nil (WP.next (WP.block ?_))
 refine WP.loop (X := RhX) (fun u : RhX => [(0, .pointer (some ⟨g, 0, none⟩)), (2, .int .i64 (u.i : Int))]) (fun u => u.J) (fun u : RhX => u.Lg ++ (u.Lt ++ (u.Ll ++ F))) (fun u : RhX => I.le u.J ∧ IsHl u.J g l t T [.int .i64 no] u.z u.Lg ∧ IsT u.J t u.tb u.Lt ∧ IsLog u.J l s d n u.x y u.Ll ∧ ∃ m, m + u.i ≤ 199 ∧ Inv m u.x u.tb u.z) (fun u => 200 - u.i) ⟨0, z, x, tb, I, Lgr, Lt, Ll⟩ ⟨Imm.le_refl _, hg, hT, hlg, m0, hm0, hi0⟩ ⟨rfl, rfl, trivial⟩ rfl zA ?_; rintro ⟨i, u_z, u_x, u_tb, J, L1, L2, L3⟩ ⟨hJ, hg1, hT1, hl1, m, hmm, hinv⟩; dsimp only at hJ hg1 hT1 hl1 hmm hinv
 try dsimp only
 try simp only [nf]
 refine WP.seq (WP.seq ?_)
 refine WP.region [0, 1] rfl ?_; refine WP.mv rfl rfl ?_; refine WP.split rfl rfl rfl rfl (Yld.lss rfl rfl rfl) (fun hlt => ?_) (fun hlt => ?_)
 ·refine WP.nil ?_
  refine WP.sub [(0, _), (2, _), (5, _)] ?_ ⟨rfl, rfl, rfl, trivial⟩
  refine WP.next ?_; refine WP.condT rfl ?_; refine WP.skip (WP.next (WP.seq (WP.block (WP.seq ?_))))
  refine WP.region [0, 1, 2, 3, 4, 5, 6] rfl ?_; refine WP.mv rfl rfl ?_; refine WP.vl rfl (Yld.nilCheck rfl rfl) ?_; refine WP.vl rfl (Yld.fieldAddr rfl ty_fd_74_0 rfl) ?_; refine WP.vl rfl (Yld.fieldAddr rfl ty_fd_72_0 rfl) ?_; refine WP.vl rfl (Yld.fieldAddr rfl ty_fd_58_0 rfl) ?_; refine WP.loud rfl rfl ?_; refine Op.cl (txo_Step hg1 hT1 hl1 (hI.pre _ _ _ _ hinv)) rfl Tryz.func15 rfl rfl rfl rfl ?_; rintro v J2 L9 hJ2 ⟨b, z2, x2, tb2, Lg2, Lt2, Ll2, hst, rfl, rfl, hg2, hT2, hl2⟩
  try simp only [nf]
  try simp only [nf]
  have hw := hI.step _ _ _ _ _ _ _ _ hinv hst
  by_cases hb : b = true
  ·try rw [hb]
   refine WP.mv rfl rfl ?_; refine WP.nil ?_; refine WP.sub [(0, _), (2, _), (3, _), (5, _)] ?_ ⟨rfl, rfl, rfl, rfl, trivial⟩
   refine WP.next (WP.seq ?_)
   refine WP.region [0] rfl ?_; refine WP.mv rfl rfl ?_; refine WP.nil (WP.next ?_)
   refine WP.condT rfl ?_; refine WP.ret ?_; refine WP.fn .ret (.inr rfl) (res0 rfl) (Lg2 ++ (Lt2 ++ Ll2)) (Imm.le_trans hJ hJ2) ?_; obtain ⟨_, h2, h9⟩ := hw.resolve_right (fun h => by rw [h.1] at hb; cases hb)
   exact ⟨z2, x2, tb2, Lg2, Lt2, Ll2, rfl, rfl, hg2, hT2, hl2, h2, h9⟩
  ·have hb : b = false := eq_false_of_ne_true hb
   try rw [hb]
   refine WP.mv rfl rfl ?_; refine WP.nil ?_; refine WP.sub [(0, _), (2, _), (3, _), (5, _)] ?_ ⟨rfl, rfl, rfl, rfl, trivial⟩
   refine WP.next (WP.seq ?_)
   refine WP.region [0] rfl ?_; refine WP.mv rfl rfl ?_; refine WP.nil (WP.next ?_)
   refine WP.condF rfl ?_; refine WP.skip (WP.leave (WP.next ?_))
   refine WP.region [0, 1, 2] rfl ?_; refine WP.mv rfl rfl ?_; refine WP.vl rfl (Yld.add64 rfl rfl rfl (by omega)) ?_; refine WP.mv rfl rfl ?_; refine WP.nil ?_; refine WP.sub [(0, _), (2, _), (3, _), (5, _), (14, _)] ?_ ⟨rfl, rfl, rfl, rfl, rfl, trivial⟩
   obtain ⟨_, m2, hm2, hinv2⟩ := hw.resolve_left (fun h => by rw [h.1] at hb; cases hb)
   exact WP.again ⟨i + 1, z2, x2, tb2, J2, Lg2, Lt2, Ll2⟩ ⟨Imm.le_trans hJ hJ2, hg2, hT2, hl2, m2, (by show m2 + (i + 1) ≤ 199; omega), hinv2⟩ (show 200 - (i + 1) < 200 - i by omega) ⟨rfl, rfl, trivial⟩ rfl zA
 ·exfalso; omega


end Go.Hp
