import Derived.Test.YtgcbhbcmohcdpaaGreatLogH
set_option linter.unusedVariables false
set_option linter.unusedSimpArgs false
namespace Go.Hp
open Go Go.Proofs

set_option maxHeartbeats 1000000 in
theorem flush_work {I : Imm} {l s d n : Nat} {x : Lg} {y : Dk} {L : Chunks} (hl : IsLog I l s d n x y L) {f : Nat} {z : Fl} (hz : z.ok x) (h1a : z.at_ = 1) (hwb : y.waits.length + 8192 ≤ 1954687338000) : Spec Tryz.prog 117 [.pointer (some ⟨f, 0, none⟩)] I ((f, row 225 (flV l f z)) :: L) (fun v J L' => v = .bool (fwork n x y z).1 ∧ ∃ L2, L' = (f, row 225 (flV l f (fwork n x y z).2.2.2)) :: L2 ∧ IsLog J l s d n (fwork n x y z).2.1 (fwork n x y z).2.2.1 L2) := by
 cases hl with
 | @mk bi ba oi oa li la Ld ok rk mi ma im am hd =>
 have hn8 := (disk_ok hd).n2
 refine Spec.of Tryz.func117 rfl Tryz.ntmps117 (Nat.le_of_ble_eq_true rfl) (fun F => ?_)
 try simp only [nf]
 dsimp only [argsEnv]
 refine WP.seq ?_; refine WP.region [0] rfl ?_; refine WP.mv rfl rfl ?_; refine WP.nil (WP.next (WP.seq ?_))
 refine WP.region [0, 1, 2, 3, 4] rfl ?_; refine WP.mv rfl rfl ?_; refine WP.vl rfl (Yld.nilCheck rfl rfl) ?_; refine WP.vl rfl (Yld.fieldAddr rfl ty_fd_225_0 rfl) ?_; refine WP.vl rfl (Yld.ld (v := .pointer (some ⟨l, 0, none⟩)) rfl ty_sc_42 rfl rfl) ?_; refine WP.mv rfl rfl ?_; refine WP.nil ?_; refine WP.sub [(0, _), (2, _), (3, _)] ?_ ⟨rfl, rfl, rfl, trivial⟩
 refine WP.next (WP.seq (WP.seq ?_))
 refine WQ.startAll Tryzmixed zK _ rfl ?_; refine WQ.val rfl rfl rfl (Yld.move rfl rfl) ?_; refine WQ.val rfl rfl rfl (Yld.nilCheck rfl rfl) ?_; refine WQ.val rfl rfl rfl (Yld.fieldAddr rfl ty_fd_128_8 rfl) ?_; refine WQ.val rfl rfl rfl (Yld.ld (v := .int .i64 (x.sent : Int)) rfl ty_sc_3 rfl rfl) ?_; refine WQ.val rfl rfl rfl (Yld.move rfl rfl) ?_; refine WQ.val rfl rfl rfl (Yld.nilCheck rfl rfl) ?_; refine WQ.val rfl rfl rfl (Yld.fieldAddr rfl ty_fd_225_2 rfl) ?_; refine WQ.val rfl rfl rfl (Yld.fieldAddr rfl ty_fd_80_1 rfl) ?_; refine WQ.val rfl rfl rfl (Yld.ld (v := .int .i64 (z.tpl : Int)) rfl ty_sc_3 rfl rfl) ?_; refine WQ.split rfl rfl rfl (Yld.geq rfl rfl rfl) (fun h1 => ?_) (fun h1 => ?_)
 ·refine WQ.nil ?_
  refine WP.sub [(0, _), (2, _), (3, _), (20, _)] ?_ ⟨rfl, rfl, rfl, rfl, trivial⟩
  refine WP.next ?_; refine WP.condT rfl ?_; refine WP.seq (WP.seq ?_)
  refine WP.region [0, 1, 2, 3, 4, 5] rfl ?_; refine WP.mv rfl rfl ?_; refine WP.vl rfl (Yld.nilCheck rfl rfl) ?_; refine WP.vl rfl (Yld.fieldAddr rfl ty_fd_128_0 rfl) ?_; refine WP.vl rfl (Yld.ld (v := .pointer (some ⟨d, 0, none⟩)) rfl ty_sc_40 rfl rfl) ?_; refine WP.loud rfl rfl ?_; refine Op.cl (disk_Sync hd) rfl Tryz.func121 rfl rfl rfl rfl ?_; rintro v J Ld2 - ⟨rfl, rfl, hd2⟩
  try simp only [nf]
  refine WP.mv rfl rfl ?_; refine WP.nil ?_; refine WP.sub [(0, _), (2, _), (3, _), (4, _), (20, _)] ?_ ⟨rfl, rfl, rfl, rfl, rfl, trivial⟩
  refine WP.next (WP.seq ?_)
  refine WP.region [0, 1] rfl ?_; refine WP.mv rfl rfl ?_; refine WP.split rfl rfl rfl rfl (Yld.neq rfl rfl rfl) (fun h2 => ?_) (fun h2 => ?_)
  ·have hoff : y.off = true := by cases hb : y.off with | true => rfl | false => rw [hb] at h2; exact absurd rfl h2
   have hd2 : IsDisk d n y Ld2 := by have e : y.sync = y := (by simp [Dk.sync, hoff]); rwa [e] at hd2
   rw [if_pos hoff]
   refine WP.nil ?_; refine WP.sub [(0, _), (2, _), (3, _), (4, _), (20, _), (27, _)] ?_ ⟨rfl, rfl, rfl, rfl, rfl, rfl, trivial⟩
   refine WP.next ?_; refine WP.condT rfl ?_; refine WP.seq ?_; refine WP.region [0, 1, 2, 3] rfl ?_; iterate 2 refine WP.mv rfl rfl ?_
   refine WP.loud rfl rfl ?_; refine Op.cl (flush_end (l := l) (z := z) (m := 0) (e := 4)) rfl Tryz.func118 rfl rfl rfl rfl ?_; rintro v J L1 - ⟨rfl, rfl, rfl⟩
   try simp only [nf]
   refine WP.mv rfl rfl ?_; refine WP.nil ?_; refine WP.sub [(0, _), (2, _), (3, _), (4, _), (20, _), (27, _)] ?_ ⟨rfl, rfl, rfl, rfl, rfl, rfl, trivial⟩
   refine WP.next (WP.ret ?_)
   refine WP.fn .ret (.inr rfl) (res1 rfl rfl) ((f, row 225 (flV l f (z.fin 0 4))) :: (l, row 128 (lgV d s bi ba x)) :: (bi, oi) :: (ba, oa) :: (s, row 122 (sgV d x.g)) :: Ld2) (Imm.le_refl _) ?_; have e : fwork n x y z = (true, x, y, z.fin 0 4) := (if_pos (by omega)).trans (if_pos hoff)
   rw [e]; exact ⟨rfl, _, rfl, .mk ok rk mi ma im am hd2⟩
  ·have hoff : ¬ y.off = true := fun hb => h2 (by rw [hb]; decide)
   refine WP.nil ?_; refine WP.sub [(0, _), (2, _), (3, _), (4, _), (20, _), (27, _)] ?_ ⟨rfl, rfl, rfl, rfl, rfl, rfl, trivial⟩
   refine WP.next ?_; refine WP.condF rfl ?_; refine WP.skip (WP.next (WP.seq ?_))
   refine WP.region [0, 1, 2, 3, 4, 5] rfl ?_; iterate 2 refine WP.mv rfl rfl ?_
   refine WP.vl rfl (Yld.makeFunc rfl (vs := [_]) (us := []) rfl rfl) ?_; refine WP.vl rfl (Yld.nilCheck rfl rfl) ?_; refine WP.vl rfl (Yld.fieldAddr rfl ty_fd_225_1 rfl) ?_; refine WP.loud rfl rfl ?_; refine Op.s1 rfl rfl ty_sz_26 rfl rfl rfl ?_; refine WP.nil ?_; refine WP.sub [(0, _), (2, _), (3, _), (4, _), (20, _), (27, _)] ?_ ⟨rfl, rfl, rfl, rfl, rfl, rfl, trivial⟩
   refine WP.next (WP.seq ?_)
   refine WP.region [0] rfl ?_; refine WP.mv rfl rfl ?_; refine WP.nil (WP.next (WP.ret ?_))
   refine WP.fn .ret (.inr rfl) (res1 rfl rfl) ((f, row 225 (flV l f ({ z with at_ := 2 } : Fl))) :: (l, row 128 (lgV d s bi ba x)) :: (bi, oi) :: (ba, oa) :: (s, row 122 (sgV d x.g)) :: Ld2) (Imm.le_refl _) ?_; have e : fwork n x y z = (false, x, y.sync, ({ z with at_ := 2 } : Fl)) := (if_pos (by omega)).trans (if_neg hoff)
   rw [e]; exact ⟨rfl, _, rfl, .mk ok rk mi ma im am hd2⟩
 ·have hsp : x.sent < x.pl := by have := hz.tpl (n := n) h1a; omega
  have hpb := ok.pb; have hfb := ok.fb; have hgs := ok.g.sn; have hst := ok.st
  refine WQ.nil ?_; refine WP.sub [(0, _), (2, _), (3, _), (20, _)] ?_ ⟨rfl, rfl, rfl, rfl, trivial⟩
  refine WP.next ?_; refine WP.condF rfl ?_; refine WP.skip (WP.next (WP.seq (WP.seq ?_)))
  refine WQ.startAll Tryzmixed zK _ rfl ?_; refine WQ.val rfl rfl rfl (Yld.move rfl rfl) ?_; refine WQ.val rfl rfl rfl (Yld.nilCheck rfl rfl) ?_; refine WQ.val rfl rfl rfl (Yld.fieldAddr rfl ty_fd_128_8 rfl) ?_; refine WQ.val rfl rfl rfl (Yld.ld (v := .int .i64 (x.sent : Int)) rfl ty_sc_3 rfl rfl) ?_; refine WQ.val rfl rfl rfl (Yld.move rfl rfl) ?_; refine WQ.val rfl rfl rfl (Yld.nilCheck rfl rfl) ?_; refine WQ.val rfl rfl rfl (Yld.fieldAddr rfl ty_fd_128_1 rfl) ?_; refine WQ.val rfl rfl rfl (Yld.ld (v := .pointer (some ⟨s, 0, none⟩)) rfl ty_sc_41 rfl rfl) ?_; refine WQ.call (seg_End (d := d) (n := n) (g := x.g)) (by rintro v' J L1 ⟨rfl, rfl, rfl⟩; exact ⟨rfl, rfl, rfl⟩) rfl Tryz.func132 rfl rfl rfl rfl rfl zT ?_; refine WQ.val rfl rfl rfl (Yld.mul64 rfl rfl rfl (by omega)) ?_; refine WQ.split rfl rfl rfl (Yld.eql rfl rfl rfl) (fun h3 => ?_) (fun h3 => ?_)
  ·refine WQ.nil ?_
   refine WP.sub [(0, _), (2, _), (3, _), (20, _), (46, _)] ?_ ⟨rfl, rfl, rfl, rfl, rfl, trivial⟩
   refine WP.next ?_; refine WP.condT rfl ?_; refine WP.seq ?_; refine WP.region [0, 1, 2, 3, 4, 5] rfl ?_; refine WP.mv rfl rfl ?_; refine WP.vl rfl (Yld.nilCheck rfl rfl) ?_; refine WP.vl rfl (Yld.fieldAddr rfl ty_fd_128_1 rfl) ?_; refine WP.vl rfl (Yld.ld (v := .pointer (some ⟨s, 0, none⟩)) rfl ty_sc_41 rfl rfl) ?_; refine WP.loud rfl rfl ?_; refine Op.cl (seg_GrowB (d := d) ok.g) rfl Tryz.func133 rfl rfl rfl rfl ?_; rintro v J L1 - ⟨rfl, rfl, rfl⟩
   try simp only [nf]
   refine WP.mv rfl rfl ?_; refine WP.nil ?_; refine WP.sub [(0, _), (2, _), (3, _), (5, _), (20, _), (46, _)] ?_ ⟨rfl, rfl, rfl, rfl, rfl, rfl, trivial⟩
   refine WP.next (WP.seq ?_)
   refine WP.region [0, 1] rfl ?_; refine WP.mv rfl rfl ?_; refine WP.split rfl rfl rfl rfl (Yld.neq rfl rfl rfl) (fun h4 => ?_) (fun h4 => ?_)
   ·have hf : x.g.full := Classical.byContradiction fun hc => h4 (if_neg hc)
    have hme : x.g.moreE = 3 := if_pos hf
    have hmg : x.g.more = x.g := if_pos hf
    rw [hme, hmg]
    refine WP.nil ?_; refine WP.sub [(0, _), (2, _), (3, _), (5, _), (20, _), (46, _), (53, _)] ?_ ⟨rfl, rfl, rfl, rfl, rfl, rfl, rfl, trivial⟩
    refine WP.next ?_; refine WP.condT rfl ?_; refine WP.seq ?_; refine WP.region [0, 1, 2, 3] rfl ?_; iterate 2 refine WP.mv rfl rfl ?_
    refine WP.loud rfl rfl ?_; refine Op.cl (flush_end (l := l) (z := z) (m := 0) (e := 3)) rfl Tryz.func118 rfl rfl rfl rfl ?_; rintro v J L1 - ⟨rfl, rfl, rfl⟩
    try simp only [nf]
    refine WP.mv rfl rfl ?_; refine WP.nil ?_; refine WP.sub [(0, _), (2, _), (3, _), (5, _), (20, _), (46, _), (53, _)] ?_ ⟨rfl, rfl, rfl, rfl, rfl, rfl, rfl, trivial⟩
    refine WP.next (WP.ret ?_)
    refine WP.fn .ret (.inr rfl) (res1 rfl rfl) ((f, row 225 (flV l f (z.fin 0 3))) :: ((l, row 128 (lgV d s bi ba x)) :: (bi, oi) :: (ba, oa) :: (s, row 122 (sgV d x.g)) :: Ld)) (Imm.le_refl _) ?_; have e : fwork n x y z = (true, x, y, z.fin 0 3) := (if_neg (by omega)).trans (if_pos ⟨by omega, hf⟩)
    rw [e]; exact ⟨rfl, _, rfl, .mk ok rk mi ma im am hd⟩
   ·have hf : ¬ x.g.full := fun hc => h4 (by unfold Sg.moreE; rw [if_pos hc]; decide)
    have hgk : x.g.more.ok n := (ok.setG hn8 hf).g
    refine WP.nil ?_; refine WP.sub [(0, _), (2, _), (3, _), (5, _), (20, _), (46, _), (53, _)] ?_ ⟨rfl, rfl, rfl, rfl, rfl, rfl, rfl, trivial⟩
    refine WP.next ?_; refine WP.condF rfl ?_; refine WP.skip (WP.next (WP.seq (WP.seq ?_)))
    refine WD.start Tryzmixed 10 (fun c o => c = l ∧ o = row 128 (lgV d s bi ba x)) (fun _ _ => False) (by rintro _ _ ⟨rfl, rfl⟩; exact zM) (fun _ _ h => h.elim) 12 [false, false, false, false, false, false, false, false, false, false, false, false] rfl rfl ?_; refine WD.vl (i := 0) rfl (Yld.move rfl rfl) ?_; refine WD.vl (i := 1) rfl (Yld.nilCheck rfl rfl) ?_; refine WD.vl (i := 2) rfl (Yld.fieldAddr rfl ty_fd_128_1 rfl) ?_; refine WD.val1 (i := 3) rfl rfl rfl rfl zK rfl zK (Yld.load (v := .pointer (some ⟨s, 0, none⟩)) rfl ty_sc_41 rfl (.inl ⟨rfl, rfl⟩) rfl) ?_; refine WD.vl (i := 4) rfl (Yld.move rfl rfl) ?_; refine WD.vl (i := 5) rfl (Yld.move rfl rfl) ?_; refine WD.vl (i := 6) rfl (Yld.nilCheck rfl rfl) ?_; refine WD.vl (i := 7) rfl (Yld.fieldAddr rfl ty_fd_128_8 rfl) ?_; refine WD.val1 (i := 8) rfl rfl rfl rfl zK rfl zK (Yld.load (v := .int .i64 (x.sent : Int)) rfl ty_sc_3 rfl (.inl ⟨rfl, rfl⟩) rfl) ?_; refine WD.loud (i := 9) zK rfl rfl rfl ?_; refine Op.cl (log_block (d := d) (s := s) (l := l) (bi := bi) (ba := ba) (p := x.sent) ok hn8 rk ma am (Lg.lo_sent ok) hsp) rfl Tryz.func135 rfl rfl rfl rfl ?_; rintro v J L1 - ⟨cs, rfl, hcs, rfl, rfl⟩
    try simp only [nf]
    obtain ⟨va, rfl, hva⟩ := hcs
    refine WD.gR ?_; refine WD.loud (i := 10) zK rfl rfl rfl ?_; refine Op.cl (seg_Write (g := x.g.more) (p := x.part x.sent) hd hgk hva hwb) rfl Tryz.func134 rfl rfl rfl rfl ?_; rintro v J2 L12 hJ2 ⟨rfl, Lw, rfl, hd2⟩
    try simp only [nf]
    refine WD.go (.inl rfl) (fun _ _ h => h.elim) ?_; refine WD.vl (i := 11) rfl (Yld.assign rfl rfl) ?_; refine WD.done zK ?_; refine WP.sub [(0, _), (2, _), (3, _), (5, _), (6, _), (20, _), (46, _), (53, _)] ?_ ⟨rfl, rfl, rfl, rfl, rfl, rfl, rfl, rfl, trivial⟩
    refine WP.next (WP.seq ?_)
    refine WP.region [0, 1] rfl ?_; refine WP.mv rfl rfl ?_; refine WP.split rfl rfl rfl rfl (Yld.neq rfl rfl rfl) (fun h5 => ?_) (fun h5 => ?_)
    ·refine WP.nil ?_
     refine WP.sub [(0, _), (2, _), (3, _), (5, _), (6, _), (20, _), (46, _), (53, _), (69, _)] ?_ ⟨rfl, rfl, rfl, rfl, rfl, rfl, rfl, rfl, rfl, trivial⟩
     refine WP.next ?_; refine WP.condT rfl ?_; refine WP.seq ?_; refine WP.region [0, 1, 2, 3] rfl ?_; iterate 2 refine WP.mv rfl rfl ?_
     refine WP.loud rfl rfl ?_; refine Op.cl (flush_end (l := l) (z := z) (m := 0) (e := (pwrt y n x.g.more (x.part x.sent)).2)) rfl Tryz.func118 rfl rfl rfl rfl ?_; rintro v J L1 - ⟨rfl, rfl, rfl⟩
     try simp only [nf]
     refine WP.mv rfl rfl ?_; refine WP.nil ?_; refine WP.sub [(0, _), (2, _), (3, _), (5, _), (6, _), (20, _), (46, _), (53, _), (69, _)] ?_ ⟨rfl, rfl, rfl, rfl, rfl, rfl, rfl, rfl, rfl, trivial⟩
     refine WP.next (WP.ret ?_)
     refine WP.fn .ret (.inr rfl) (res1 rfl rfl) ((f, row 225 (flV l f (z.fin 0 (pwrt y n x.g.more (x.part x.sent)).2))) :: (l, row 128 (lgV d s bi ba (x.setG x.g.more))) :: (bi, oi) :: (ba, oa) :: (s, row 122 (sgV d x.g.more)) :: Lw) hJ2 ?_; have hgr : x.grown = x.setG x.g.more := if_pos (by omega)
     have hnc : ¬ (x.sent = x.g.stop * 8 ∧ x.g.full) := fun h => hf h.2
     have e : fwork n x y z = (true, (x.setG x.g.more), (pwrt y n x.g.more (x.part x.sent)).1, z.fin 0 (pwrt y n x.g.more (x.part x.sent)).2) := (if_neg (by omega)).trans ((if_neg hnc).trans (by rw [hgr]; exact if_pos h5))
     rw [e]; exact ⟨rfl, _, rfl, .mk (ok.setG hn8 hf) ((rk.mono hJ2).to rfl rfl rfl rfl) mi ma (IMap.to (x := x) rfl rfl im) (AMap.to (x := x) rfl rfl rfl am) hd2⟩
    ·refine WP.nil ?_
     refine WP.sub [(0, _), (2, _), (3, _), (5, _), (6, _), (20, _), (46, _), (53, _), (69, _)] ?_ ⟨rfl, rfl, rfl, rfl, rfl, rfl, rfl, rfl, rfl, trivial⟩
     refine WP.next ?_; refine WP.condF rfl ?_; refine WP.skip (WP.next (WP.seq ?_))
     refine WP.region [0, 1, 2, 3, 4, 5, 6, 7] rfl ?_; refine WP.mv rfl rfl ?_; refine WP.vl rfl (Yld.nilCheck rfl rfl) ?_; refine WP.vl rfl (Yld.fieldAddr rfl ty_fd_128_8 rfl) ?_; refine WP.vl rfl (Yld.ld (v := .int .i64 (x.sent : Int)) rfl ty_sc_3 rfl rfl) ?_; refine WP.vl rfl (Yld.add64 rfl rfl rfl (by omega)) ?_; rw [show (x.sent : Int) + 1 = ((x.sent + 1 : Nat) : Int) from rfl]
     refine WP.vl rfl (Yld.nilCheck rfl rfl) ?_; refine WP.vl rfl (Yld.fieldAddr rfl ty_fd_128_8 rfl) ?_; refine WP.loud rfl rfl ?_; refine Op.s1 rfl rfl ty_sz_3 rfl rfl rfl ?_; refine WP.nil ?_; refine WP.sub [(0, _), (2, _), (3, _), (5, _), (6, _), (20, _), (46, _), (53, _), (69, _)] ?_ ⟨rfl, rfl, rfl, rfl, rfl, rfl, rfl, rfl, rfl, trivial⟩
     refine WP.next (WP.seq ?_)
     refine WP.region [0] rfl ?_; refine WP.mv rfl rfl ?_; refine WP.nil (WP.next (WP.ret ?_))
     refine WP.fn .ret (.inr rfl) (res1 rfl rfl) ((f, row 225 (flV l f z)) :: (l, row 128 (lgV d s bi ba (x.setG x.g.more).send1)) :: (bi, oi) :: (ba, oa) :: (s, row 122 (sgV d x.g.more)) :: Lw) hJ2 ?_; have hgr : x.grown = x.setG x.g.more := if_pos (by omega)
     have hnc : ¬ (x.sent = x.g.stop * 8 ∧ x.g.full) := fun h => hf h.2
     have e : fwork n x y z = (false, (x.setG x.g.more).send1, (pwrt y n x.g.more (x.part x.sent)).1, z) := (if_neg (by omega)).trans ((if_neg hnc).trans (by rw [hgr]; exact if_neg h5))
     rw [e]; exact ⟨rfl, _, rfl, .mk ((ok.setG hn8 hf).send1 hsp) ((rk.mono hJ2).to rfl rfl rfl rfl) mi ma (IMap.to (x := x) rfl rfl im) (AMap.to (x := x) rfl rfl rfl am) hd2⟩
  ·refine WQ.nil ?_
   refine WP.sub [(0, _), (2, _), (3, _), (20, _), (46, _)] ?_ ⟨rfl, rfl, rfl, rfl, rfl, trivial⟩
   refine WP.next ?_; refine WP.condF rfl ?_; refine WP.skip (WP.next (WP.seq (WP.seq ?_)))
   refine WD.start Tryzmixed 10 (fun c o => c = l ∧ o = row 128 (lgV d s bi ba x)) (fun _ _ => False) (by rintro _ _ ⟨rfl, rfl⟩; exact zM) (fun _ _ h => h.elim) 12 [false, false, false, false, false, false, false, false, false, false, false, false] rfl rfl ?_; refine WD.vl (i := 0) rfl (Yld.move rfl rfl) ?_; refine WD.vl (i := 1) rfl (Yld.nilCheck rfl rfl) ?_; refine WD.vl (i := 2) rfl (Yld.fieldAddr rfl ty_fd_128_1 rfl) ?_; refine WD.val1 (i := 3) rfl rfl rfl rfl zK rfl zK (Yld.load (v := .pointer (some ⟨s, 0, none⟩)) rfl ty_sc_41 rfl (.inl ⟨rfl, rfl⟩) rfl) ?_; refine WD.vl (i := 4) rfl (Yld.move rfl rfl) ?_; refine WD.vl (i := 5) rfl (Yld.move rfl rfl) ?_; refine WD.vl (i := 6) rfl (Yld.nilCheck rfl rfl) ?_; refine WD.vl (i := 7) rfl (Yld.fieldAddr rfl ty_fd_128_8 rfl) ?_; refine WD.val1 (i := 8) rfl rfl rfl rfl zK rfl zK (Yld.load (v := .int .i64 (x.sent : Int)) rfl ty_sc_3 rfl (.inl ⟨rfl, rfl⟩) rfl) ?_; refine WD.loud (i := 9) zK rfl rfl rfl ?_; refine Op.cl (log_block (d := d) (s := s) (l := l) (bi := bi) (ba := ba) (p := x.sent) ok hn8 rk ma am (Lg.lo_sent ok) hsp) rfl Tryz.func135 rfl rfl rfl rfl ?_; rintro v J L1 - ⟨cs, rfl, hcs, rfl, rfl⟩
   try simp only [nf]
   obtain ⟨va, rfl, hva⟩ := hcs
   refine WD.gR ?_; refine WD.loud (i := 10) zK rfl rfl rfl ?_; refine Op.cl (seg_Write (g := x.g) (p := x.part x.sent) hd ok.g hva hwb) rfl Tryz.func134 rfl rfl rfl rfl ?_; rintro v J2 L12 hJ2 ⟨rfl, Lw, rfl, hd2⟩
   try simp only [nf]
   refine WD.go (.inl rfl) (fun _ _ h => h.elim) ?_; refine WD.vl (i := 11) rfl (Yld.assign rfl rfl) ?_; refine WD.done zK ?_; refine WP.sub [(0, _), (2, _), (3, _), (6, _), (20, _), (46, _)] ?_ ⟨rfl, rfl, rfl, rfl, rfl, rfl, trivial⟩
   refine WP.next (WP.seq ?_)
   refine WP.region [0, 1] rfl ?_; refine WP.mv rfl rfl ?_; refine WP.split rfl rfl rfl rfl (Yld.neq rfl rfl rfl) (fun h5 => ?_) (fun h5 => ?_)
   ·refine WP.nil ?_
    refine WP.sub [(0, _), (2, _), (3, _), (6, _), (20, _), (46, _), (69, _)] ?_ ⟨rfl, rfl, rfl, rfl, rfl, rfl, rfl, trivial⟩
    refine WP.next ?_; refine WP.condT rfl ?_; refine WP.seq ?_; refine WP.region [0, 1, 2, 3] rfl ?_; iterate 2 refine WP.mv rfl rfl ?_
    refine WP.loud rfl rfl ?_; refine Op.cl (flush_end (l := l) (z := z) (m := 0) (e := (pwrt y n x.g (x.part x.sent)).2)) rfl Tryz.func118 rfl rfl rfl rfl ?_; rintro v J L1 - ⟨rfl, rfl, rfl⟩
    try simp only [nf]
    refine WP.mv rfl rfl ?_; refine WP.nil ?_; refine WP.sub [(0, _), (2, _), (3, _), (6, _), (20, _), (46, _), (69, _)] ?_ ⟨rfl, rfl, rfl, rfl, rfl, rfl, rfl, trivial⟩
    refine WP.next (WP.ret ?_)
    refine WP.fn .ret (.inr rfl) (res1 rfl rfl) ((f, row 225 (flV l f (z.fin 0 (pwrt y n x.g (x.part x.sent)).2))) :: (l, row 128 (lgV d s bi ba x)) :: (bi, oi) :: (ba, oa) :: (s, row 122 (sgV d x.g)) :: Lw) hJ2 ?_; have hgr : x.grown = x := if_neg (by omega)
    have hnc : ¬ (x.sent = x.g.stop * 8 ∧ x.g.full) := fun h => by omega
    have e : fwork n x y z = (true, x, (pwrt y n x.g (x.part x.sent)).1, z.fin 0 (pwrt y n x.g (x.part x.sent)).2) := (if_neg (by omega)).trans ((if_neg hnc).trans (by rw [hgr]; exact if_pos h5))
    rw [e]; exact ⟨rfl, _, rfl, .mk ok ((rk.mono hJ2).to rfl rfl rfl rfl) mi ma (IMap.to (x := x) rfl rfl im) (AMap.to (x := x) rfl rfl rfl am) hd2⟩
   ·refine WP.nil ?_
    refine WP.sub [(0, _), (2, _), (3, _), (6, _), (20, _), (46, _), (69, _)] ?_ ⟨rfl, rfl, rfl, rfl, rfl, rfl, rfl, trivial⟩
    refine WP.next ?_; refine WP.condF rfl ?_; refine WP.skip (WP.next (WP.seq ?_))
    refine WP.region [0, 1, 2, 3, 4, 5, 6, 7] rfl ?_; refine WP.mv rfl rfl ?_; refine WP.vl rfl (Yld.nilCheck rfl rfl) ?_; refine WP.vl rfl (Yld.fieldAddr rfl ty_fd_128_8 rfl) ?_; refine WP.vl rfl (Yld.ld (v := .int .i64 (x.sent : Int)) rfl ty_sc_3 rfl rfl) ?_; refine WP.vl rfl (Yld.add64 rfl rfl rfl (by omega)) ?_; rw [show (x.sent : Int) + 1 = ((x.sent + 1 : Nat) : Int) from rfl]
    refine WP.vl rfl (Yld.nilCheck rfl rfl) ?_; refine WP.vl rfl (Yld.fieldAddr rfl ty_fd_128_8 rfl) ?_; refine WP.loud rfl rfl ?_; refine Op.s1 rfl rfl ty_sz_3 rfl rfl rfl ?_; refine WP.nil ?_; refine WP.sub [(0, _), (2, _), (3, _), (6, _), (20, _), (46, _), (69, _)] ?_ ⟨rfl, rfl, rfl, rfl, rfl, rfl, rfl, trivial⟩
    refine WP.next (WP.seq ?_)
    refine WP.region [0] rfl ?_; refine WP.mv rfl rfl ?_; refine WP.nil (WP.next (WP.ret ?_))
    refine WP.fn .ret (.inr rfl) (res1 rfl rfl) ((f, row 225 (flV l f z)) :: (l, row 128 (lgV d s bi ba x.send1)) :: (bi, oi) :: (ba, oa) :: (s, row 122 (sgV d x.g)) :: Lw) hJ2 ?_; have hgr : x.grown = x := if_neg (by omega)
    have hnc : ¬ (x.sent = x.g.stop * 8 ∧ x.g.full) := fun h => by omega
    have e : fwork n x y z = (false, x.send1, (pwrt y n x.g (x.part x.sent)).1, z) := (if_neg (by omega)).trans ((if_neg hnc).trans (by rw [hgr]; exact if_neg h5))
    rw [e]; exact ⟨rfl, _, rfl, .mk (ok.send1 hsp) ((rk.mono hJ2).to rfl rfl rfl rfl) mi ma (IMap.to (x := x) rfl rfl im) (AMap.to (x := x) rfl rfl rfl am) hd2⟩

theorem flush_Step0 {I : Imm} {l s d n : Nat} {x : Lg} {y : Dk} {L : Chunks} (hl : IsLog I l s d n x y L) {f zt zp zn : Nat} {ze : Int} (hz : (⟨0, zt, zp, zn, ze⟩ : Fl).ok x) (hwb : y.waits.length + 8192 ≤ 1954687338000) : Spec Tryz.prog 94 [.pointer (some ⟨f, 0, none⟩)] I ((f, row 225 (flV l f (⟨0, zt, zp, zn, ze⟩ : Fl))) :: L) (fun v J L' => v = .bool (fstep n x y (⟨0, zt, zp, zn, ze⟩ : Fl)).1 ∧ ∃ L2, L' = (f, row 225 (flV l f (fstep n x y (⟨0, zt, zp, zn, ze⟩ : Fl)).2.2.2)) :: L2 ∧ IsLog J l s d n (fstep n x y (⟨0, zt, zp, zn, ze⟩ : Fl)).2.1 (fstep n x y (⟨0, zt, zp, zn, ze⟩ : Fl)).2.2.1 L2) := by
 refine Spec.of Tryz.func94 rfl Tryz.ntmps94 (Nat.le_of_ble_eq_true rfl) (fun F => ?_)
 try simp only [nf]
 dsimp only [argsEnv]
 refine WP.seq ?_; refine WP.region [0] rfl ?_; refine WP.mv rfl rfl ?_; refine WP.nil (WP.next (WP.seq ?_))
 refine WP.region [0, 1, 2, 3, 4, 5, 6, 7, 8, 9, 10, 11, 12] rfl ?_; refine WP.mv rfl rfl ?_; refine WP.vl rfl (Yld.nilCheck rfl rfl) ?_; refine WP.vl rfl (Yld.fieldAddr rfl ty_fd_225_1 rfl) ?_; refine WP.vl rfl (Yld.ld (v := nextV f 0) rfl ty_sc_26 rfl rfl) ?_; refine WP.vl rfl (Yld.eqlNilF rfl func_ty rfl rfl) ?_; refine WP.mv rfl rfl ?_; refine WP.valG rfl rfl rfl rfl rfl rfl rfl (Yld.move rfl rfl) ?_; refine WP.valG rfl rfl rfl rfl rfl rfl rfl (Yld.nilCheck rfl rfl) ?_; refine WP.valG rfl rfl rfl rfl rfl rfl rfl (Yld.fieldAddr rfl ty_fd_225_1 rfl) ?_; refine WP.valG rfl rfl rfl rfl rfl rfl rfl (Yld.ld (v := nextV f 0) rfl ty_sc_26 rfl rfl) ?_; refine WP.loudG rfl rfl rfl rfl rfl ?_; refine Op.callE (flush_begin hl (f := f) (z := (⟨0, zt, zp, zn, ze⟩ : Fl))) (Enters.bound rfl Tryz.func108 rfl (rs := [.pointer (some ⟨f, 0, none⟩)]) (us := []) rfl (vs := []) rfl) rfl rfl zT ?_; rintro v J2 L1 hJ2 ⟨rfl, rfl, L2, rfl, hl⟩
 try simp only [nf]
 refine WP.vl rfl (Yld.pickF rfl rfl rfl) ?_; refine WP.mv rfl rfl ?_; refine WP.nil ?_; refine WP.sub [(0, _), (2, _)] ?_ ⟨rfl, rfl, trivial⟩
 refine WP.next (WP.ret ?_)
 refine WP.fn .ret (.inr rfl) (res1 rfl rfl) ((f, row 225 (flV l f (fstep n x y (⟨0, zt, zp, zn, ze⟩ : Fl)).2.2.2)) :: L2) (Imm.le_refl _) ?_; exact ⟨rfl, L2, rfl, hl⟩

theorem flush_Step1 {I : Imm} {l s d n : Nat} {x : Lg} {y : Dk} {L : Chunks} (hl : IsLog I l s d n x y L) {f zt zp zn : Nat} {ze : Int} (hz : (⟨1, zt, zp, zn, ze⟩ : Fl).ok x) (hwb : y.waits.length + 8192 ≤ 1954687338000) : Spec Tryz.prog 94 [.pointer (some ⟨f, 0, none⟩)] I ((f, row 225 (flV l f (⟨1, zt, zp, zn, ze⟩ : Fl))) :: L) (fun v J L' => v = .bool (fstep n x y (⟨1, zt, zp, zn, ze⟩ : Fl)).1 ∧ ∃ L2, L' = (f, row 225 (flV l f (fstep n x y (⟨1, zt, zp, zn, ze⟩ : Fl)).2.2.2)) :: L2 ∧ IsLog J l s d n (fstep n x y (⟨1, zt, zp, zn, ze⟩ : Fl)).2.1 (fstep n x y (⟨1, zt, zp, zn, ze⟩ : Fl)).2.2.1 L2) := by
 refine Spec.of Tryz.func94 rfl Tryz.ntmps94 (Nat.le_of_ble_eq_true rfl) (fun F => ?_)
 try simp only [nf]
 dsimp only [argsEnv]
 refine WP.seq ?_; refine WP.region [0] rfl ?_; refine WP.mv rfl rfl ?_; refine WP.nil (WP.next (WP.seq ?_))
 refine WP.region [0, 1, 2, 3, 4, 5, 6, 7, 8, 9, 10, 11, 12] rfl ?_; refine WP.mv rfl rfl ?_; refine WP.vl rfl (Yld.nilCheck rfl rfl) ?_; refine WP.vl rfl (Yld.fieldAddr rfl ty_fd_225_1 rfl) ?_; refine WP.vl rfl (Yld.ld (v := nextV f 1) rfl ty_sc_26 rfl rfl) ?_; refine WP.vl rfl (Yld.eqlNilF rfl func_ty rfl rfl) ?_; refine WP.mv rfl rfl ?_; refine WP.valG rfl rfl rfl rfl rfl rfl rfl (Yld.move rfl rfl) ?_; refine WP.valG rfl rfl rfl rfl rfl rfl rfl (Yld.nilCheck rfl rfl) ?_; refine WP.valG rfl rfl rfl rfl rfl rfl rfl (Yld.fieldAddr rfl ty_fd_225_1 rfl) ?_; refine WP.valG rfl rfl rfl rfl rfl rfl rfl (Yld.ld (v := nextV f 1) rfl ty_sc_26 rfl rfl) ?_; refine WP.loudG rfl rfl rfl rfl rfl ?_; refine Op.callE (flush_work hl (f := f) (z := (⟨1, zt, zp, zn, ze⟩ : Fl)) hz rfl hwb) (Enters.bound rfl Tryz.func117 rfl (rs := [.pointer (some ⟨f, 0, none⟩)]) (us := []) rfl (vs := []) rfl) rfl rfl zT ?_; rintro v J2 L1 hJ2 ⟨rfl, L2, rfl, hl⟩
 try simp only [nf]
 refine WP.vl rfl (Yld.pickF rfl rfl rfl) ?_; refine WP.mv rfl rfl ?_; refine WP.nil ?_; refine WP.sub [(0, _), (2, _)] ?_ ⟨rfl, rfl, trivial⟩
 refine WP.next (WP.ret ?_)
 refine WP.fn .ret (.inr rfl) (res1 rfl rfl) ((f, row 225 (flV l f (fstep n x y (⟨1, zt, zp, zn, ze⟩ : Fl)).2.2.2)) :: L2) hJ2 ?_; exact ⟨rfl, L2, rfl, hl⟩

theorem flush_Step2 {I : Imm} {l s d n : Nat} {x : Lg} {y : Dk} {L : Chunks} (hl : IsLog I l s d n x y L) {f zt zp zn : Nat} {ze : Int} (hz : (⟨2, zt, zp, zn, ze⟩ : Fl).ok x) (hwb : y.waits.length + 8192 ≤ 1954687338000) : Spec Tryz.prog 94 [.pointer (some ⟨f, 0, none⟩)] I ((f, row 225 (flV l f (⟨2, zt, zp, zn, ze⟩ : Fl))) :: L) (fun v J L' => v = .bool (fstep n x y (⟨2, zt, zp, zn, ze⟩ : Fl)).1 ∧ ∃ L2, L' = (f, row 225 (flV l f (fstep n x y (⟨2, zt, zp, zn, ze⟩ : Fl)).2.2.2)) :: L2 ∧ IsLog J l s d n (fstep n x y (⟨2, zt, zp, zn, ze⟩ : Fl)).2.1 (fstep n x y (⟨2, zt, zp, zn, ze⟩ : Fl)).2.2.1 L2) := by
 refine Spec.of Tryz.func94 rfl Tryz.ntmps94 (Nat.le_of_ble_eq_true rfl) (fun F => ?_)
 try simp only [nf]
 dsimp only [argsEnv]
 refine WP.seq ?_; refine WP.region [0] rfl ?_; refine WP.mv rfl rfl ?_; refine WP.nil (WP.next (WP.seq ?_))
 refine WP.region [0, 1, 2, 3, 4, 5, 6, 7, 8, 9, 10, 11, 12] rfl ?_; refine WP.mv rfl rfl ?_; refine WP.vl rfl (Yld.nilCheck rfl rfl) ?_; refine WP.vl rfl (Yld.fieldAddr rfl ty_fd_225_1 rfl) ?_; refine WP.vl rfl (Yld.ld (v := nextV f 2) rfl ty_sc_26 rfl rfl) ?_; refine WP.vl rfl (Yld.eqlNilF rfl func_ty rfl rfl) ?_; refine WP.mv rfl rfl ?_; refine WP.valG rfl rfl rfl rfl rfl rfl rfl (Yld.move rfl rfl) ?_; refine WP.valG rfl rfl rfl rfl rfl rfl rfl (Yld.nilCheck rfl rfl) ?_; refine WP.valG rfl rfl rfl rfl rfl rfl rfl (Yld.fieldAddr rfl ty_fd_225_1 rfl) ?_; refine WP.valG rfl rfl rfl rfl rfl rfl rfl (Yld.ld (v := nextV f 2) rfl ty_sc_26 rfl rfl) ?_; refine WP.loudG rfl rfl rfl rfl rfl ?_; refine Op.callE (flush_stays hl (f := f) (z := (⟨2, zt, zp, zn, ze⟩ : Fl)) hz rfl) (Enters.bound rfl Tryz.func131 rfl (rs := [.pointer (some ⟨f, 0, none⟩)]) (us := []) rfl (vs := []) rfl) rfl rfl zT ?_; rintro v J2 L1 hJ2 ⟨rfl, rfl, L2, rfl, hl⟩
 try simp only [nf]
 refine WP.vl rfl (Yld.pickF rfl rfl rfl) ?_; refine WP.mv rfl rfl ?_; refine WP.nil ?_; refine WP.sub [(0, _), (2, _)] ?_ ⟨rfl, rfl, trivial⟩
 refine WP.next (WP.ret ?_)
 refine WP.fn .ret (.inr rfl) (res1 rfl rfl) ((f, row 225 (flV l f (fstep n x y (⟨2, zt, zp, zn, ze⟩ : Fl)).2.2.2)) :: L2) (Imm.le_refl _) ?_; exact ⟨rfl, L2, rfl, hl⟩

theorem flush_Step3 {I : Imm} {l s d n : Nat} {x : Lg} {y : Dk} {L : Chunks} (hl : IsLog I l s d n x y L) {f k zt zp zn : Nat} {ze : Int} : Spec Tryz.prog 94 [.pointer (some ⟨f, 0, none⟩)] I ((f, row 225 (flV l f (⟨k + 3, zt, zp, zn, ze⟩ : Fl))) :: L) (fun v J L' => v = .bool (fstep n x y (⟨k + 3, zt, zp, zn, ze⟩ : Fl)).1 ∧ ∃ L2, L' = (f, row 225 (flV l f (fstep n x y (⟨k + 3, zt, zp, zn, ze⟩ : Fl)).2.2.2)) :: L2 ∧ IsLog J l s d n (fstep n x y (⟨k + 3, zt, zp, zn, ze⟩ : Fl)).2.1 (fstep n x y (⟨k + 3, zt, zp, zn, ze⟩ : Fl)).2.2.1 L2) := by
 refine Spec.of Tryz.func94 rfl Tryz.ntmps94 (Nat.le_of_ble_eq_true rfl) (fun F => ?_)
 try simp only [nf]
 dsimp only [argsEnv]
 refine WP.seq ?_; refine WP.region [0] rfl ?_; refine WP.mv rfl rfl ?_; refine WP.nil (WP.next (WP.seq ?_))
 refine WP.region [0, 1, 2, 3, 4, 5, 6, 7, 8, 9, 10, 11, 12] rfl ?_; refine WP.mv rfl rfl ?_; refine WP.vl rfl (Yld.nilCheck rfl rfl) ?_; refine WP.vl rfl (Yld.fieldAddr rfl ty_fd_225_1 rfl) ?_; refine WP.vl rfl (Yld.ld (v := (.nilFunc)) rfl ty_sc_26 rfl rfl) ?_; refine WP.vl rfl (Yld.eqlNilF0 rfl func_ty rfl rfl) ?_; refine WP.mv rfl rfl ?_; iterate 5 refine WP.passG rfl rfl rfl rfl rfl rfl rfl rfl ?_
 refine WP.vl rfl (Yld.pickT rfl rfl rfl) ?_; refine WP.mv rfl rfl ?_; refine WP.nil ?_; refine WP.sub [(0, _), (2, _)] ?_ ⟨rfl, rfl, trivial⟩
 refine WP.next (WP.ret ?_)
 refine WP.fn .ret (.inr rfl) (res1 rfl rfl) ((f, row 225 (flV l f (⟨k + 3, zt, zp, zn, ze⟩ : Fl))) :: L) (Imm.le_refl _) ?_; exact ⟨rfl, L, rfl, hl⟩


theorem flush_Step {I : Imm} {l s d n : Nat} {x : Lg} {y : Dk} {L : Chunks} (hl : IsLog I l s d n x y L) {f : Nat} {z : Fl} (hz : z.ok x) (hwb : y.waits.length + 8192 ≤ 1954687338000) : Spec Tryz.prog 94 [.pointer (some ⟨f, 0, none⟩)] I ((f, row 225 (flV l f z)) :: L) (fun v J L' => v = .bool (fstep n x y z).1 ∧ ∃ L2, L' = (f, row 225 (flV l f (fstep n x y z).2.2.2)) :: L2 ∧ IsLog J l s d n (fstep n x y z).2.1 (fstep n x y z).2.2.1 L2) := by
 match z, hz with
 | ⟨0, zt, zp, zn, ze⟩, hz => exact flush_Step0 hl hz hwb
 | ⟨1, zt, zp, zn, ze⟩, hz => exact flush_Step1 hl hz hwb
 | ⟨2, zt, zp, zn, ze⟩, hz => exact flush_Step2 hl hz hwb
 | ⟨k + 3, zt, zp, zn, ze⟩, hz => exact flush_Step3 hl

end Go.Hp
