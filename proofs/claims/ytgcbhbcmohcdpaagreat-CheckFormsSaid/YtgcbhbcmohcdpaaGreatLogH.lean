import Derived.Test.YtgcbhbcmohcdpaaGreatLogG
set_option linter.unusedVariables false
set_option linter.unusedSimpArgs false
namespace Go.Hp
open Go Go.Proofs

theorem flush_begin {I : Imm} {l s d n : Nat} {x : Lg} {y : Dk} {L : Chunks} (hl : IsLog I l s d n x y L) {f : Nat} {z : Fl} : Spec Tryz.prog 108 [.pointer (some ⟨f, 0, none⟩)] I ((f, row 225 (flV l f z)) :: L) (fun v J L' => v = .bool (fbegin x z).1 ∧ I = J ∧ ∃ L2, L' = (f, row 225 (flV l f (fbegin x z).2)) :: L2 ∧ IsLog J l s d n x y L2) := by
 cases hl with
 | @mk bi ba oi oa li la Ld ok rk mi ma im am hd =>
 refine Spec.of Tryz.func108 rfl Tryz.ntmps108 (Nat.le_of_ble_eq_true rfl) (fun F => ?_)
 try simp only [nf]
 dsimp only [argsEnv]
 refine WP.seq ?_; refine WP.region [0] rfl ?_; refine WP.mv rfl rfl ?_; refine WP.nil (WP.next (WP.seq ?_))
 refine WP.region [0, 1, 2, 3, 4, 5, 6, 7, 8, 9, 10, 11, 12, 13, 14, 15, 16] rfl ?_; iterate 3 refine WP.mv rfl rfl ?_
 refine WP.vl rfl (Yld.nilCheck rfl rfl) ?_; refine WP.vl rfl (Yld.fieldAddr rfl ty_fd_225_0 rfl) ?_; refine WP.vl rfl (Yld.ld (v := .pointer (some ⟨l, 0, none⟩)) rfl ty_sc_42 rfl rfl) ?_; refine WP.vl rfl (Yld.nilCheck rfl rfl) ?_; refine WP.vl rfl (Yld.fieldAddr rfl ty_fd_128_5 rfl) ?_; refine WP.vl rfl (Yld.ldg (vs := [.int .i64 (x.no : Int), .int .i64 (x.pl : Int)]) rfl ty_ag_80 rfl rfl rfl) ?_; refine WP.mv rfl rfl ?_; refine WP.vl rfl (Yld.makeFunc rfl (vs := [_]) (us := []) rfl rfl) ?_; refine WP.vl rfl (Yld.nilCheck rfl rfl) ?_; refine WP.vl rfl (Yld.fieldAddr rfl ty_fd_225_2 rfl) ?_; refine WP.loud rfl rfl ?_; refine Op.storeN rfl rfl ty_sz_80 rfl rfl rfl rfl (Nat.le_of_ble_eq_true rfl) (show flV l f (⟨z.at_, x.no, x.pl, z.n, z.e⟩ : Fl) = _ from rfl) (by repeat (first | exact Upd.head | apply Upd.tail | apply Upd.tailS)) ?_; refine WP.vl rfl (Yld.nilCheck rfl rfl) ?_; refine WP.vl rfl (Yld.fieldAddr rfl ty_fd_225_1 rfl) ?_; refine WP.loud rfl rfl ?_; refine Op.s1 rfl rfl ty_sz_26 rfl rfl rfl ?_; refine WP.nil ?_; refine WP.sub [(0, _), (2, _)] ?_ ⟨rfl, rfl, trivial⟩
 refine WP.next (WP.seq (WP.seq ?_))
 refine WQ.startAll Tryzmixed zK _ rfl ?_; refine WQ.val rfl rfl rfl (Yld.move rfl rfl) ?_; refine WQ.val rfl rfl rfl (Yld.nilCheck rfl rfl) ?_; refine WQ.val rfl rfl rfl (Yld.fieldAddr rfl ty_fd_225_2 rfl) ?_; refine WQ.val rfl rfl rfl (Yld.fieldAddr rfl ty_fd_80_0 rfl) ?_; refine WQ.val rfl rfl rfl (Yld.ld (v := .int .i64 (x.no : Int)) rfl ty_sc_3 rfl rfl) ?_; refine WQ.val rfl rfl rfl (Yld.move rfl rfl) ?_; refine WQ.val rfl rfl rfl (Yld.nilCheck rfl rfl) ?_; refine WQ.val rfl rfl rfl (Yld.fieldAddr rfl ty_fd_225_0 rfl) ?_; refine WQ.val rfl rfl rfl (Yld.ld (v := .pointer (some ⟨l, 0, none⟩)) rfl ty_sc_42 rfl rfl) ?_; refine WQ.val rfl rfl rfl (Yld.nilCheck rfl rfl) ?_; refine WQ.val rfl rfl rfl (Yld.fieldAddr rfl ty_fd_128_7 rfl) ?_; refine WQ.val rfl rfl rfl (Yld.ld (v := .int .i64 (x.wr : Int)) rfl ty_sc_3 rfl rfl) ?_; refine WQ.split rfl rfl rfl (Yld.leq rfl rfl rfl) (fun h1 => ?_) (fun h1 => ?_)
 ·refine WQ.nil ?_
  refine WP.sub [(0, _), (2, _), (30, _)] ?_ ⟨rfl, rfl, rfl, trivial⟩
  refine WP.next ?_; refine WP.condT rfl ?_; refine WP.seq ?_; refine WP.region [0, 1, 2, 3, 4, 5, 6, 7, 8, 9] rfl ?_; iterate 2 refine WP.mv rfl rfl ?_
  refine WP.vl rfl (Yld.nilCheck rfl rfl) ?_; refine WP.vl rfl (Yld.fieldAddr rfl ty_fd_225_0 rfl) ?_; refine WP.vl rfl (Yld.ld (v := .pointer (some ⟨l, 0, none⟩)) rfl ty_sc_42 rfl rfl) ?_; refine WP.vl rfl (Yld.nilCheck rfl rfl) ?_; refine WP.vl rfl (Yld.fieldAddr rfl ty_fd_128_7 rfl) ?_; refine WP.vl rfl (Yld.ld (v := .int .i64 (x.wr : Int)) rfl ty_sc_3 rfl rfl) ?_; refine WP.loud rfl rfl ?_; refine Op.cl (flush_end (l := l) (z := ⟨1, x.no, x.pl, z.n, z.e⟩)) rfl Tryz.func118 rfl rfl rfl rfl ?_; rintro v J L1 - ⟨rfl, rfl, rfl⟩
  try simp only [nf]
  refine WP.mv rfl rfl ?_; refine WP.nil ?_; refine WP.sub [(0, _), (2, _), (30, _)] ?_ ⟨rfl, rfl, rfl, trivial⟩
  refine WP.next (WP.ret ?_)
  refine WP.fn .ret (.inr rfl) (res1 rfl rfl) ((f, row 225 (flV l f ((⟨z.at_, x.no, x.pl, z.n, z.e⟩ : Fl).fin x.wr 0))) :: ((l, row 128 (lgV d s bi ba x)) :: (bi, oi) :: (ba, oa) :: (s, row 122 (sgV d x.g)) :: Ld)) (Imm.le_refl _) ?_; have e : fbegin x z = (true, (⟨z.at_, x.no, x.pl, z.n, z.e⟩ : Fl).fin x.wr 0) := if_pos (by omega)
  rw [e]; exact ⟨rfl, rfl, _, rfl, .mk ok rk mi ma im am hd⟩
 ·refine WQ.nil ?_
  refine WP.sub [(0, _), (2, _), (30, _)] ?_ ⟨rfl, rfl, rfl, trivial⟩
  refine WP.next ?_; refine WP.condF rfl ?_; refine WP.skip (WP.next (WP.seq ?_))
  refine WP.region [0] rfl ?_; refine WP.mv rfl rfl ?_; refine WP.nil (WP.next (WP.ret ?_))
  refine WP.fn .ret (.inr rfl) (res1 rfl rfl) ((f, row 225 (flV l f ⟨1, x.no, x.pl, z.n, z.e⟩)) :: ((l, row 128 (lgV d s bi ba x)) :: (bi, oi) :: (ba, oa) :: (s, row 122 (sgV d x.g)) :: Ld)) (Imm.le_refl _) ?_; have e : fbegin x z = (false, ⟨1, x.no, x.pl, z.n, z.e⟩) := if_neg (by omega)
  rw [e]; exact ⟨rfl, rfl, _, rfl, .mk ok rk mi ma im am hd⟩

theorem flush_stays {I : Imm} {l s d n : Nat} {x : Lg} {y : Dk} {L : Chunks} (hl : IsLog I l s d n x y L) {f : Nat} {z : Fl} (hz : z.ok x) (h2 : z.at_ = 2) : Spec Tryz.prog 131 [.pointer (some ⟨f, 0, none⟩)] I ((f, row 225 (flV l f z)) :: L) (fun v J L' => v = .bool true ∧ I = J ∧ ∃ L2, L' = (f, row 225 (flV l f (fstays x z).2)) :: L2 ∧ IsLog J l s d n (fstays x z).1 y L2) := by
 cases hl with
 | @mk bi ba oi oa li la Ld ok rk mi ma im am hd =>
 obtain ⟨t1, t2, t3⟩ := hz.a1 (.inr h2)
 have t4 := hz.a2 h2
 have okw : (x.setW (max x.wr z.tno)).ok n := ok.setW t1 t2 (by omega)
 have hb1 := Lg.lo_base ok
 refine Spec.of Tryz.func131 rfl Tryz.ntmps131 (Nat.le_of_ble_eq_true rfl) (fun F => ?_)
 try simp only [nf]
 dsimp only [argsEnv]
 refine WP.seq ?_; refine WP.region [0] rfl ?_; refine WP.mv rfl rfl ?_; refine WP.nil (WP.next (WP.seq ?_))
 refine WP.region [0, 1, 2, 3, 4] rfl ?_; refine WP.mv rfl rfl ?_; refine WP.vl rfl (Yld.nilCheck rfl rfl) ?_; refine WP.vl rfl (Yld.fieldAddr rfl ty_fd_225_0 rfl) ?_; refine WP.vl rfl (Yld.ld (v := .pointer (some ⟨l, 0, none⟩)) rfl ty_sc_42 rfl rfl) ?_; refine WP.mv rfl rfl ?_; refine WP.nil ?_; refine WP.sub [(0, _), (2, _), (3, _)] ?_ ⟨rfl, rfl, rfl, trivial⟩
 refine WP.next (WP.seq ?_)
 refine WQ.startAll Tryzmixed zK _ rfl ?_; refine WQ.val rfl rfl rfl (Yld.move rfl rfl) ?_; refine WQ.val rfl rfl rfl (Yld.nilCheck rfl rfl) ?_; refine WQ.val rfl rfl rfl (Yld.fieldAddr rfl ty_fd_128_6 rfl) ?_; refine WQ.val rfl rfl rfl (Yld.fieldAddr rfl ty_fd_80_0 rfl) ?_; refine WQ.val rfl rfl rfl (Yld.ld (v := .int .i64 (x.mno : Int)) rfl ty_sc_3 rfl rfl) ?_; refine WQ.val rfl rfl rfl (Yld.move rfl rfl) ?_; refine WQ.val rfl rfl rfl (Yld.nilCheck rfl rfl) ?_; refine WQ.val rfl rfl rfl (Yld.fieldAddr rfl ty_fd_128_7 rfl) ?_; refine WQ.val rfl rfl rfl (Yld.ld (v := .int .i64 (x.wr : Int)) rfl ty_sc_3 rfl rfl) ?_; refine WQ.val rfl rfl rfl (Yld.min2 rfl rfl rfl (x.lo : Int) (by unfold Lg.lo; split <;> omega)) ?_; refine WQ.val rfl rfl rfl (Yld.add64 rfl rfl rfl (by have := ok.nb; have := Lg.lo_no ok; omega)) ?_; rw [show (x.lo : Int) + 1 = ((x.base + (x.lo - x.base) + 1 : Nat) : Int) by omega]
 refine WQ.val rfl rfl rfl (Yld.assign rfl rfl) ?_; refine WQ.nil ?_; refine WP.sub [(0, _), (2, _), (3, _), (4, _)] ?_ ⟨rfl, rfl, rfl, rfl, trivial⟩
 refine WP.next (WP.seq ?_)
 refine WQ.start Tryzmixed 13 zK _ rfl [13] rfl ?_; iterate 2 refine WQ.val rfl rfl rfl (Yld.move rfl rfl) ?_
 refine WQ.val rfl rfl rfl (Yld.nilCheck rfl rfl) ?_; refine WQ.val rfl rfl rfl (Yld.fieldAddr rfl ty_fd_128_7 rfl) ?_; refine WQ.val rfl rfl rfl (Yld.ld (v := .int .i64 (x.wr : Int)) rfl ty_sc_3 rfl rfl) ?_; refine WQ.val rfl rfl rfl (Yld.move rfl rfl) ?_; refine WQ.val rfl rfl rfl (Yld.nilCheck rfl rfl) ?_; refine WQ.val rfl rfl rfl (Yld.fieldAddr rfl ty_fd_225_2 rfl) ?_; refine WQ.val rfl rfl rfl (Yld.fieldAddr rfl ty_fd_80_0 rfl) ?_; refine WQ.val rfl rfl rfl (Yld.ld (v := .int .i64 (z.tno : Int)) rfl ty_sc_3 rfl rfl) ?_; refine WQ.val rfl rfl rfl (Yld.max2 rfl rfl rfl ((max x.wr z.tno : Nat) : Int) (by split <;> omega)) ?_; refine WQ.val rfl rfl rfl (Yld.nilCheck rfl rfl) ?_; refine WQ.val rfl rfl rfl (Yld.fieldAddr rfl ty_fd_128_7 rfl) ?_; refine WQ.nil ?_; refine WP.loud rfl rfl ?_; refine Op.store1 rfl rfl ty_sz_3 rfl rfl rfl (by repeat (first | exact Upd.head | apply Upd.tail | apply Upd.tailS)) (show SetAt (lgV d s bi ba x) 9 (.int .i64 ((max x.wr z.tno : Nat) : Int)) (lgV d s bi ba (x.setW (max x.wr z.tno))) from by unfold lgV; repeat (first | exact SetAt.zero | apply SetAt.succ)) ?_; refine WP.nil ?_; refine WP.sub [(0, _), (2, _), (3, _), (4, _)] ?_ ⟨rfl, rfl, rfl, rfl, trivial⟩
 refine WP.next (WP.seq ?_)
 refine WP.region [0, 1, 2] rfl ?_; iterate 2 refine WP.mv rfl rfl ?_
 refine WP.loud rfl rfl ?_; refine Op.cl (log_trim (d := d) (s := s) (x := (x.setW (max x.wr z.tno))) (k0 := x.lo - x.base) okw (rk.to rfl rfl rfl rfl) mi ma (by show x.base + (x.lo - x.base) ≤ min x.mno (max x.wr z.tno); unfold Lg.lo at *; omega) (by show IMap _ (x.base + (x.lo - x.base)) li; rw [show x.base + (x.lo - x.base) = x.lo by omega]; exact IMap.to (x := x) rfl rfl im) (by show AMap _ (x.base + (x.lo - x.base)) la; rw [show x.base + (x.lo - x.base) = x.lo by omega]; exact AMap.to (x := x) rfl rfl rfl am)) rfl Tryz.func146 rfl rfl rfl rfl ?_; rintro v J L1 - ⟨rfl, rfl, oi2, oa2, li2, la2, hmi2, hma2, him2, ham2, rfl⟩
 try simp only [nf]
 refine WP.nil ?_; refine WP.sub [(0, _), (2, _), (3, _), (4, _)] ?_ ⟨rfl, rfl, rfl, rfl, trivial⟩
 refine WP.next (WP.seq ?_)
 refine WP.region [0, 1, 2, 3, 4, 5, 6] rfl ?_; iterate 2 refine WP.mv rfl rfl ?_
 refine WP.vl rfl (Yld.nilCheck rfl rfl) ?_; refine WP.vl rfl (Yld.fieldAddr rfl ty_fd_128_7 rfl) ?_; refine WP.vl rfl (Yld.ld (v := .int .i64 ((max x.wr z.tno : Nat) : Int)) rfl ty_sc_3 rfl rfl) ?_; refine WP.loud rfl rfl ?_; refine Op.cl (flush_end (l := l) (z := z)) rfl Tryz.func118 rfl rfl rfl rfl ?_; rintro v J L1 - ⟨rfl, rfl, rfl⟩
 try simp only [nf]
 refine WP.mv rfl rfl ?_; refine WP.nil ?_; refine WP.sub [(0, _), (2, _), (3, _), (4, _)] ?_ ⟨rfl, rfl, rfl, rfl, trivial⟩
 refine WP.next (WP.ret ?_)
 refine WP.fn .ret (.inr rfl) (res1 rfl rfl) ((f, row 225 (flV l f (z.fin (max x.wr z.tno) 0))) :: (l, row 128 (lgV d s bi ba (x.setW (max x.wr z.tno)))) :: (bi, oi2) :: (ba, oa2) :: (s, row 122 (sgV d x.g)) :: Ld) (Imm.le_refl _) ?_; exact ⟨rfl, rfl, _, rfl, .mk okw (rk.to rfl rfl rfl rfl) hmi2 hma2 him2 ham2 hd⟩


end Go.Hp
