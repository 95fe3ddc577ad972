import Derived.Test.YtilgaelpbgfnnaaGreatTxnU
set_option linter.unusedVariables false
set_option linter.unusedSimpArgs false
namespace Go.Hp
open Go Go.Proofs

structure QX where
 i : Nat
 ps : List Value
 vp : Value
 Lp : Chunks
structure QX.ok (n : Nat) (t : QX) : Prop where
 le : t.i ≤ n
 op : Own 49 1 t.vp t.ps t.i t.Lp
theorem ref3_New {I : Imm} {n : Nat} (h1 : 1 ≤ n) (h2 : n ≤ 8192) : Spec Tryz.prog 41 [.int .i64 (n : Int)] I [] (fun v J L => I = J ∧ ∃ r A c Lp, v = .tuple #[.pointer (some ⟨r, 0, none⟩), .int .i64 0] ∧ L = (r, row 166 [.slice A n c, .slice none 0 0, .int .i64 (-1), .bool false, .int .i64 0, .int .i64 0]) :: Lp) := by
 refine Spec.of Tryz.func41 rfl Tryz.ntmps41 (Nat.le_of_ble_eq_true rfl) (fun F => ?_)
 try simp only [nf]
 dsimp only [argsEnv]
 refine WP.seq ?_; refine WP.region [0, 1] rfl ?_; iterate 2 refine WP.mv rfl rfl ?_
 refine WP.nil (WP.next (WP.seq (WP.seq ?_)))
 refine WP.region [0, 1, 2, 3, 4, 5] rfl ?_; refine WP.mv rfl rfl ?_; refine WP.vl rfl (Yld.lss rfl rfl rfl false (decide_eq_false (by omega))) ?_; refine WP.mv rfl rfl ?_; refine WP.valG rfl rfl rfl rfl rfl rfl rfl (Yld.move rfl rfl) ?_; refine WP.valG rfl rfl rfl rfl rfl rfl rfl (Yld.gtr rfl rfl rfl false (decide_eq_false (by omega))) ?_; refine WP.vl rfl (Yld.pickF rfl rfl rfl) ?_; refine WP.nil ?_; refine WP.sub [(0, _), (2, _), (3, _), (12, _)] ?_ ⟨rfl, rfl, rfl, rfl, trivial⟩
 refine WP.next ?_; refine WP.condF rfl ?_; refine WP.skip (WP.next (WP.seq ?_))
 refine WP.region [0, 1, 2] rfl ?_; refine WP.vl rfl (Yld.buildS (pl := [(2, 2, 1)]) rfl ty_zr_166 ty_zd_166 zK rfl (vs := [_]) rfl (segs := [(2, [_])]) rfl rfl zS) ?_; refine WP.loud rfl rfl ?_; refine Op.box rfl rfl rfl rfl rfl (fun r => ?_)
 refine WP.mv rfl rfl ?_; refine WP.nil ?_; refine WP.sub [(0, _), (2, _), (3, _), (4, _), (12, _)] ?_ ⟨rfl, rfl, rfl, rfl, rfl, trivial⟩
 refine WP.next (WP.seq (WP.seq ?_))
 refine WP.region [0] rfl ?_; refine WP.mv rfl rfl ?_; refine WP.nil (WP.next (WP.block ?_))
 refine WP.loop (X := QX) (fun t : QX => [(0, .int .i64 (n : Int)), (4, .pointer (some ⟨r, 0, none⟩)), (5, .int .i64 (t.i : Int))]) (fun _ => I) (fun t : QX => (r, row 166 [t.vp, .slice none 0 0, .int .i64 (-1), .bool false, .int .i64 0, .int .i64 0]) :: (t.Lp ++ F)) (fun t => t.ok n) (fun t => n - t.i) ⟨0, [], .slice none 0 0, []⟩ ⟨Nat.zero_le _, .none0⟩ ⟨rfl, rfl, rfl, trivial⟩ rfl zP ?_; rintro ⟨i, ps, vp, Lp⟩ ⟨hle, hop⟩; dsimp only at hle hop; obtain ⟨Ap, cp, rfl, hcp⟩ := hop.slice
 try dsimp only
 try simp only [nf]
 refine WP.seq (WP.seq ?_)
 refine WP.region [0, 1, 2] rfl ?_; iterate 2 refine WP.mv rfl rfl ?_
 refine WP.split rfl rfl rfl rfl (Yld.lss rfl rfl rfl) (fun hlt => ?_) (fun hlt => ?_)
 ·refine WP.nil ?_
  refine WP.sub [(0, _), (4, _), (5, _), (17, _)] ?_ ⟨rfl, rfl, rfl, rfl, trivial⟩
  refine WP.next ?_; refine WP.condT rfl ?_; refine WP.skip (WP.next (WP.seq (WP.block (WP.seq ?_))))
  refine WP.region [0, 1] rfl ?_; refine WP.loud rfl rfl ?_; refine Op.make (l := 64) (c := 64) rfl ty_sl_49 ty_el_49 rfl rfl rfl rfl rfl (Nat.le_refl _) (by decide) (by decide) (fun bs => ?_)
  refine WP.mv rfl rfl ?_; refine WP.nil ?_; refine WP.sub [(0, _), (4, _), (5, _), (6, _), (17, _)] ?_ ⟨rfl, rfl, rfl, rfl, rfl, trivial⟩
  refine WP.next ?_; refine WP.region [0, 1, 2, 3, 4, 5, 6, 7, 8, 9, 10] rfl ?_; iterate 2 refine WP.mv rfl rfl ?_
  refine WP.vl rfl (Yld.nilCheck rfl rfl) ?_; refine WP.vl rfl (Yld.fieldAddr rfl ty_fd_166_0 rfl) ?_; refine WP.vl rfl (Yld.ld rfl ty_sc_163 rfl rfl) ?_; refine WP.mv rfl rfl ?_; refine WP.loud rfl rfl ?_; refine Op.buildSlice rfl ty_sl_163 ty_el2_163 rfl rfl rfl rfl (vs := [_]) rfl (segs := [(0, [_])]) (cs := [.slice (some ⟨bs, 0, none⟩) 64 64]) rfl rfl zS (fun bz => ?_)
  refine WP.loud rfl rfl ?_; refine Op.append (m := 1) rfl ty_sl_163 ty_el_163 rfl rfl rfl rfl rfl hop (SlRd.lit zM rfl (Nat.le_refl _)) zT rfl (by omega) (by omega) (fun vq Lq hq => ?_)
  try simp only [nf]
  obtain ⟨Aq, cq, rfl, hcq⟩ := hq.slice
  refine WP.vl rfl (Yld.nilCheck rfl rfl) ?_; refine WP.vl rfl (Yld.fieldAddr rfl ty_fd_166_0 rfl) ?_; refine WP.loud rfl rfl ?_; refine Op.s1 rfl rfl ty_sz_163 rfl rfl rfl ?_; refine WP.nil ?_; refine WP.sub [(0, _), (4, _), (5, _), (6, _), (17, _)] ?_ ⟨rfl, rfl, rfl, rfl, rfl, trivial⟩
  refine WP.leave (WP.next ?_)
  refine WP.region [0, 1, 2] rfl ?_; refine WP.mv rfl rfl ?_; refine WP.vl rfl (Yld.add64 rfl rfl rfl (by omega)) ?_; refine WP.mv rfl rfl ?_; refine WP.nil ?_; refine WP.sub [(0, _), (4, _), (5, _), (6, _), (17, _)] ?_ ⟨rfl, rfl, rfl, rfl, rfl, trivial⟩
  exact WP.ag ⟨i + 1, ps ++ [.slice (some ⟨bs, 0, none⟩) 64 64], .slice Aq (i + 1) cq, Lq⟩ ⟨(show i + 1 ≤ n by omega), hq⟩ (show n - (i + 1) < n - i by omega) ⟨rfl, rfl, rfl, trivial⟩ rfl
 ·obtain rfl : i = n := by omega
  refine WP.nil ?_; refine WP.sub [(0, _), (4, _), (5, _), (17, _)] ?_ ⟨rfl, rfl, rfl, rfl, trivial⟩
  refine WP.next ?_; refine WP.condF rfl ?_; refine WP.exit (WP.thenE (WP.thenE (WP.hit (WP.next (WP.seq ?_)))))
  refine WP.region [0, 1, 2] rfl ?_; iterate 3 refine WP.mv rfl rfl ?_
  refine WP.nil ?_; refine WP.sub [(0, _), (2, _), (3, _), (4, _), (5, _), (17, _)] ?_ ⟨rfl, rfl, rfl, rfl, rfl, rfl, trivial⟩
  refine WP.next (WP.ret ?_)
  refine WP.fn .ret (.inr rfl) (res2 rfl rfl rfl) ((r, row 166 [.slice Ap i cp, .slice none 0 0, .int .i64 (-1), .bool false, .int .i64 0, .int .i64 0]) :: (Lp ++ [])) (Imm.le_refl _) ?_; exact ⟨rfl, r, Ap, cp, _, rfl, rfl⟩

theorem ref7_Slots {I : Imm} {r n c : Nat} {A : Option Addr} (h1 : 136 ≤ n) (h2 : n ≤ 8192) : Spec Tryz.prog 100 [.pointer (some ⟨r, 0, none⟩)] I [(r, row 166 [.slice A n c, .slice none 0 0, .int .i64 (-1), .bool false, .int .i64 0, .int .i64 0])] (fun v J L => v = .int .i64 (((n - 8) / 32 : Nat) : Int) ∧ I = J ∧ L = [(r, row 166 [.slice A n c, .slice none 0 0, .int .i64 (-1), .bool false, .int .i64 0, .int .i64 0])]) := by
 refine Spec.of Tryz.func100 rfl Tryz.ntmps100 (Nat.le_of_ble_eq_true rfl) (fun F => ?_)
 try simp only [nf]
 dsimp only [argsEnv]
 refine WP.seq ?_; refine WP.region [0] rfl ?_; refine WP.mv rfl rfl ?_; refine WP.nil (WP.next (WP.seq ?_))
 refine WP.region [0, 1, 2, 3, 4, 5, 6] rfl ?_; refine WP.mv rfl rfl ?_; refine WP.vl rfl (Yld.nilCheck rfl rfl) ?_; refine WP.vl rfl (Yld.fieldAddr rfl ty_fd_166_0 rfl) ?_; refine WP.vl rfl (Yld.ld rfl ty_sc_163 rfl rfl) ?_; refine WP.vl rfl (Yld.len rfl ty_sl_163 rfl) ?_; refine WP.vl rfl (Yld.sub64 rfl rfl rfl (by omega)) ?_; refine WP.mv rfl rfl ?_; refine WP.nil ?_; refine WP.sub [(0, _), (2, _), (3, _)] ?_ ⟨rfl, rfl, rfl, trivial⟩
 refine WP.next (WP.seq (WP.seq ?_))
 refine WP.region [0, 1] rfl ?_; refine WP.mv rfl rfl ?_; refine WP.vl rfl (Yld.lss rfl rfl rfl false (decide_eq_false (by omega))) ?_; refine WP.nil ?_; refine WP.sub [(0, _), (2, _), (3, _), (11, _)] ?_ ⟨rfl, rfl, rfl, rfl, trivial⟩
 refine WP.next ?_; refine WP.condF rfl ?_; refine WP.skip (WP.next (WP.seq ?_))
 refine WP.region [0, 1, 2] rfl ?_; refine WP.mv rfl rfl ?_; refine WP.vl rfl (Yld.quo64 rfl rfl rfl (by omega)) ?_; rw [show ((n : Int) - 8) / 32 = (((n - 8) / 32 : Nat) : Int) by omega]
 refine WP.mv rfl rfl ?_; refine WP.nil ?_; refine WP.sub [(0, _), (2, _), (3, _), (11, _)] ?_ ⟨rfl, rfl, rfl, rfl, trivial⟩
 refine WP.next (WP.ret ?_)
 refine WP.fn .ret (.inr rfl) (res1 rfl rfl) [(r, row 166 [.slice A n c, .slice none 0 0, .int .i64 (-1), .bool false, .int .i64 0, .int .i64 0])] (Imm.le_refl _) ?_; exact ⟨rfl, rfl, rfl⟩

theorem ref7_New {I : Imm} {r n c : Nat} {A : Option Addr} (h1 : 136 ≤ n) (h2 : n ≤ 8192) {f e : Nat} (h3 : f ≤ e) (h4 : e ≤ 68719476736) (h5 : e - f ≤ (n - 8) / 32) : Spec Tryz.prog 43 [.pointer (some ⟨r, 0, none⟩), .int .i64 (f : Int), .int .i64 (e : Int)] I [(r, row 166 [.slice A n c, .slice none 0 0, .int .i64 (-1), .bool false, .int .i64 0, .int .i64 0])] (fun v J L => I = J ∧ ∃ t, v = .tuple #[.pointer (some ⟨t, 0, none⟩), .int .i64 0] ∧ L = (t, row 174 [.pointer (some ⟨r, 0, none⟩), .int .i64 (f : Int), .int .i64 (e : Int)]) :: [(r, row 166 [.slice A n c, .slice none 0 0, .int .i64 (-1), .bool false, .int .i64 0, .int .i64 0])]) := by
 refine Spec.of Tryz.func43 rfl Tryz.ntmps43 (Nat.le_of_ble_eq_true rfl) (fun F => ?_)
 try simp only [nf]
 dsimp only [argsEnv]
 refine WP.seq ?_; refine WP.region [0, 1] rfl ?_; iterate 2 refine WP.mv rfl rfl ?_
 refine WP.nil (WP.next (WP.seq (WP.seq ?_)))
 refine WP.region [0, 1, 2, 3, 4, 5, 6, 7, 8, 9, 10, 11, 12, 13, 14, 15, 16, 17, 18, 19, 20, 21, 22, 23] rfl ?_; refine WP.mv rfl rfl ?_; refine WP.loud rfl rfl ?_; refine Op.cl (ref7_Slots (A := A) (c := c) h1 h2) rfl Tryz.func100 rfl rfl rfl rfl ?_; rintro v J L1 - ⟨rfl, rfl, rfl⟩
 try simp only [nf]
 refine WP.vl rfl (Yld.lss rfl rfl rfl false (decide_eq_false (by omega))) ?_; refine WP.mv rfl rfl ?_; refine WP.valG rfl rfl rfl rfl rfl rfl rfl (Yld.move rfl rfl) ?_; refine WP.valG rfl rfl rfl rfl rfl rfl rfl (Yld.lss rfl rfl rfl false (decide_eq_false (by omega))) ?_; refine WP.vl rfl (Yld.pickF rfl rfl rfl) ?_; refine WP.mv rfl rfl ?_; iterate 2 refine WP.valG rfl rfl rfl rfl rfl rfl rfl (Yld.move rfl rfl) ?_
 refine WP.valG rfl rfl rfl rfl rfl rfl rfl (Yld.lss rfl rfl rfl false (decide_eq_false (by omega))) ?_; refine WP.vl rfl (Yld.pickF rfl rfl rfl) ?_; refine WP.mv rfl rfl ?_; refine WP.valG rfl rfl rfl rfl rfl rfl rfl (Yld.move rfl rfl) ?_; refine WP.valG rfl rfl rfl rfl rfl rfl rfl (Yld.gtr rfl rfl rfl false (decide_eq_false (by omega))) ?_; refine WP.vl rfl (Yld.pickF rfl rfl rfl) ?_; refine WP.mv rfl rfl ?_; iterate 2 refine WP.valG rfl rfl rfl rfl rfl rfl rfl (Yld.move rfl rfl) ?_
 refine WP.valG rfl rfl rfl rfl rfl rfl rfl (Yld.sub64 rfl rfl rfl (by omega)) ?_; refine WP.valG rfl rfl rfl rfl rfl rfl rfl (Yld.move rfl rfl) ?_; refine WP.loudG rfl rfl rfl rfl rfl ?_; refine Op.cl (ref7_Slots (A := A) (c := c) h1 h2) rfl Tryz.func100 rfl rfl rfl rfl ?_; rintro v J L1 - ⟨rfl, rfl, rfl⟩
 try simp only [nf]
 refine WP.valG rfl rfl rfl rfl rfl rfl rfl (Yld.gtr rfl rfl rfl false (decide_eq_false (by omega))) ?_; refine WP.vl rfl (Yld.pickF rfl rfl rfl) ?_; refine WP.nil ?_; refine WP.sub [(0, _), (1, _), (2, _), (6, _), (7, _), (31, _)] ?_ ⟨rfl, rfl, rfl, rfl, rfl, rfl, trivial⟩
 refine WP.next ?_; refine WP.condF rfl ?_; refine WP.skip (WP.next (WP.seq ?_))
 refine WP.region [0, 1, 2, 3, 4, 5, 6] rfl ?_; iterate 3 refine WP.mv rfl rfl ?_
 refine WP.vl rfl (Yld.buildS (pl := [(0, 0, 1), (1, 1, 1), (2, 2, 1)]) rfl ty_zr_174 ty_zd_174 zK rfl (vs := [_, _, _]) rfl (segs := [(0, [_]), (1, [_]), (2, [_])]) rfl rfl zS) ?_; refine WP.loud rfl rfl ?_; refine Op.box rfl rfl rfl rfl rfl (fun t => ?_)
 iterate 2 refine WP.mv rfl rfl ?_
 refine WP.nil ?_; refine WP.sub [(0, _), (1, _), (2, _), (6, _), (7, _), (31, _)] ?_ ⟨rfl, rfl, rfl, rfl, rfl, rfl, trivial⟩
 refine WP.next (WP.ret ?_)
 refine WP.fn .ret (.inr rfl) (res2 rfl rfl rfl) ((t, row 174 [.pointer (some ⟨r, 0, none⟩), .int .i64 (f : Int), .int .i64 (e : Int)]) :: [(r, row 166 [.slice A n c, .slice none 0 0, .int .i64 (-1), .bool false, .int .i64 0, .int .i64 0])]) (Imm.le_refl _) ?_; exact ⟨rfl, t, rfl, rfl⟩

theorem ref8_Open {I : Imm} {r t n c : Nat} {A : Option Addr} (h1 : 136 ≤ n) (h2 : n ≤ 8192) {f e hn hp : Nat} {era : Int} (h3 : hn ≤ 1099511627776) (h4 : f * 8 ≤ hp) (h5 : hp ≤ (f + (n - 8) / 32) * 8) (h6 : f ≤ 68719476736) (he : 1 ≤ era ∧ era ≤ 4294967295) : Spec Tryz.prog 45 [.pointer (some ⟨t, 0, none⟩), .agg #[.int .i64 (hn : Int), .int .i64 (hp : Int)], .int .i64 era] I ((t, row 174 [.pointer (some ⟨r, 0, none⟩), .int .i64 (f : Int), .int .i64 (e : Int)]) :: [(r, row 166 [.slice A n c, .slice none 0 0, .int .i64 (-1), .bool false, .int .i64 0, .int .i64 0])]) (fun v J L => I = J ∧ ∃ m, v = .tuple #[.pointer (some ⟨m, 0, none⟩), .int .i64 0] ∧ L = []) := by
 refine Spec.of Tryz.func45 rfl Tryz.ntmps45 (Nat.le_of_ble_eq_true rfl) (fun F => ?_)
 try simp only [nf]
 dsimp only [argsEnv]
 refine WP.seq ?_; refine WP.region [0, 1, 2] rfl ?_; refine WP.loud rfl rfl ?_; refine Op.box rfl rfl rfl rfl rfl (fun b4 => ?_)
 iterate 2 refine WP.mv rfl rfl ?_
 refine WP.nil (WP.next (WP.seq (WP.seq ?_)))
 refine WQ.startAll Tryzmixed zK _ rfl ?_; refine WQ.val rfl rfl rfl (Yld.fieldAddr rfl ty_fd_56_0 rfl) ?_; refine WQ.val rfl rfl rfl (Yld.ld (v := .int .i64 (hn : Int)) rfl ty_sc_3 rfl rfl) ?_; refine WQ.val rfl rfl rfl (Yld.lss rfl rfl rfl false (decide_eq_false (by omega))) ?_; refine WQ.val rfl rfl rfl (Yld.move rfl rfl) ?_; refine WQ.valG rfl rfl rfl rfl rfl rfl (Yld.fieldAddr rfl ty_fd_56_0 rfl) ?_; refine WQ.valG rfl rfl rfl rfl rfl rfl (Yld.ld (v := .int .i64 (hn : Int)) rfl ty_sc_3 rfl rfl) ?_; refine WQ.valG rfl rfl rfl rfl rfl rfl (Yld.gtr rfl rfl rfl false (decide_eq_false (by omega))) ?_; refine WQ.val rfl rfl rfl (Yld.pickF rfl rfl rfl) ?_; refine WQ.val rfl rfl rfl (Yld.move rfl rfl) ?_; refine WQ.valG rfl rfl rfl rfl rfl rfl (Yld.fieldAddr rfl ty_fd_56_1 rfl) ?_; refine WQ.valG rfl rfl rfl rfl rfl rfl (Yld.ld (v := .int .i64 (hp : Int)) rfl ty_sc_3 rfl rfl) ?_; refine WQ.valG rfl rfl rfl rfl rfl rfl (Yld.move rfl rfl) ?_; refine WQ.valG rfl rfl rfl rfl rfl rfl (Yld.nilCheck rfl rfl) ?_; refine WQ.valG rfl rfl rfl rfl rfl rfl (Yld.fieldAddr rfl ty_fd_174_1 rfl) ?_; refine WQ.valG rfl rfl rfl rfl rfl rfl (Yld.ld (v := .int .i64 (f : Int)) rfl ty_sc_3 rfl rfl) ?_; refine WQ.valG rfl rfl rfl rfl rfl rfl (Yld.mul64 rfl rfl rfl (by omega)) ?_; refine WQ.valG rfl rfl rfl rfl rfl rfl (Yld.lss rfl rfl rfl false (decide_eq_false (by omega))) ?_; refine WQ.val rfl rfl rfl (Yld.pickF rfl rfl rfl) ?_; refine WQ.val rfl rfl rfl (Yld.move rfl rfl) ?_; refine WQ.valG rfl rfl rfl rfl rfl rfl (Yld.fieldAddr rfl ty_fd_56_1 rfl) ?_
 refine WQ.valG rfl rfl rfl rfl rfl rfl (Yld.ld (v := .int .i64 (hp : Int)) rfl ty_sc_3 rfl rfl) ?_; refine WQ.valG rfl rfl rfl rfl rfl rfl (Yld.move rfl rfl) ?_; refine WQ.valG rfl rfl rfl rfl rfl rfl (Yld.nilCheck rfl rfl) ?_; refine WQ.valG rfl rfl rfl rfl rfl rfl (Yld.fieldAddr rfl ty_fd_174_1 rfl) ?_; refine WQ.valG rfl rfl rfl rfl rfl rfl (Yld.ld (v := .int .i64 (f : Int)) rfl ty_sc_3 rfl rfl) ?_; refine WQ.valG rfl rfl rfl rfl rfl rfl (Yld.move rfl rfl) ?_; refine WQ.valG rfl rfl rfl rfl rfl rfl (Yld.nilCheck rfl rfl) ?_; refine WQ.valG rfl rfl rfl rfl rfl rfl (Yld.fieldAddr rfl ty_fd_174_0 rfl) ?_; refine WQ.valG rfl rfl rfl rfl rfl rfl (Yld.ld (v := .pointer (some ⟨r, 0, none⟩)) rfl ty_sc_33 rfl rfl) ?_; refine WQ.callG (ref7_Slots (A := A) (c := c) h1 h2) (by rintro v' J L1 ⟨rfl, rfl, rfl⟩; exact ⟨rfl, rfl, rfl⟩) rfl Tryz.func100 rfl rfl rfl rfl rfl rfl rfl rfl zT ?_; refine WQ.valG rfl rfl rfl rfl rfl rfl (Yld.add64 rfl rfl rfl (by omega)) ?_; refine WQ.valG rfl rfl rfl rfl rfl rfl (Yld.mul64 rfl rfl rfl (by omega)) ?_; refine WQ.valG rfl rfl rfl rfl rfl rfl (Yld.gtr rfl rfl rfl false (decide_eq_false (by omega))) ?_; refine WQ.val rfl rfl rfl (Yld.pickF rfl rfl rfl) ?_; refine WQ.val rfl rfl rfl (Yld.move rfl rfl) ?_; refine WQ.valG rfl rfl rfl rfl rfl rfl (Yld.move rfl rfl) ?_; refine WQ.valG rfl rfl rfl rfl rfl rfl (Yld.lss rfl rfl rfl false (decide_eq_false (by omega))) ?_; refine WQ.val rfl rfl rfl (Yld.pickF rfl rfl rfl) ?_; refine WQ.val rfl rfl rfl (Yld.move rfl rfl) ?_
 refine WQ.valG rfl rfl rfl rfl rfl rfl (Yld.move rfl rfl) ?_; refine WQ.valG rfl rfl rfl rfl rfl rfl (Yld.gtr rfl rfl rfl false (decide_eq_false (by omega))) ?_; refine WQ.val rfl rfl rfl (Yld.pickF rfl rfl rfl) ?_; refine WQ.nil ?_; refine WP.sub [(0, _), (1, _), (2, _), (4, _), (6, _), (7, _), (49, _)] ?_ ⟨rfl, rfl, rfl, rfl, rfl, rfl, rfl, trivial⟩
 refine WP.next ?_; refine WP.condF rfl ?_; refine WP.skip (WP.next (WP.seq ?_))
 refine WP.region [0, 1, 2, 3, 4, 5, 6, 7, 8, 9, 10, 11, 12, 13] rfl ?_; iterate 2 refine WP.mv rfl rfl ?_
 refine WP.vl rfl (Yld.fieldAddr rfl ty_fd_56_0 rfl) ?_; refine WP.vl rfl (Yld.ld (v := .int .i64 (hn : Int)) rfl ty_sc_3 rfl rfl) ?_; iterate 2 refine WP.vl rfl (Yld.ldg (vs := [.int .i64 (hn : Int), .int .i64 (hp : Int)]) rfl ty_ag_56 rfl rfl rfl) ?_
 refine WP.vl rfl (Yld.fieldAddr rfl ty_fd_56_0 rfl) ?_; refine WP.vl rfl (Yld.ld (v := .int .i64 (hn : Int)) rfl ty_sc_3 rfl rfl) ?_; refine WP.vl rfl (Yld.fieldAddr rfl ty_fd_56_1 rfl) ?_; refine WP.vl rfl (Yld.ld (v := .int .i64 (hp : Int)) rfl ty_sc_3 rfl rfl) ?_; refine WP.vl rfl (Yld.buildS (pl := [(0, 0, 1), (1, 1, 1), (2, 2, 1), (4, 4, 2), (5, 6, 2), (6, 8, 1), (7, 9, 1)]) rfl ty_zr_156 ty_zd_156 zK rfl (vs := [_, _, _, _, _, _, _]) rfl (segs := [(0, [_]), (1, [_]), (2, [_]), (4, [_, _]), (6, [_, _]), (8, [_]), (9, [_])]) rfl rfl (.one .zero (.one (.succ .zero) (.one (.succ (.succ .zero)) (.seg (Nat.le_of_ble_eq_true rfl) rfl (.seg (Nat.le_of_ble_eq_true rfl) rfl (.one (.succ (.succ (.succ (.succ (.succ (.succ (.succ (.succ .zero)))))))) (.one (.succ (.succ (.succ (.succ (.succ (.succ (.succ (.succ (.succ .zero))))))))) .nil)))))))) ?_; refine WP.loud rfl rfl ?_; refine Op.box rfl rfl rfl rfl rfl (fun m => ?_)
 iterate 2 refine WP.mv rfl rfl ?_
 refine WP.nil ?_; refine WP.sub [(0, _), (1, _), (2, _), (4, _), (6, _), (7, _), (49, _)] ?_ ⟨rfl, rfl, rfl, rfl, rfl, rfl, rfl, trivial⟩
 refine WP.next (WP.ret ?_)
 refine WP.fn .ret (.inr rfl) (res2 rfl rfl rfl) [] (Imm.le_refl _) ?_; exact ⟨rfl, m, rfl, rfl⟩


def bigTy (P : Program) (t n : Nat) : Bool := match P.info? t with
 | some i => (match i.zero with | some z => Nat.beq z.cells.size n | none => false)
 | none => false
theorem bigTy_ok {P : Program} {t n : Nat} (h : bigTy P t n = true) : ∃ zs, zeroTy P t zs ∧ zs.length = n := by
 unfold bigTy at h
 cases hi : P.info? t with
 | none => rw [hi] at h; cases h
 | some i =>
  rw [hi] at h
  dsimp only at h
  cases hz : i.zero with
  | none => rw [hz] at h; cases h
  | some z =>
   rw [hz] at h
   exact ⟨z.cells.toList, ⟨i, z, hi, hz, by simp⟩, by simpa using h⟩
set_option maxRecDepth 100000 in
theorem big_r9 : bigTy Tryz.prog 172 5138 = true := by kernel_rfl
theorem set_two {zs : List Value} (h : zs.length = 5138) (u v : Value) : ∃ cs, SetSeg zs [(5130, [u]), (5131, [v])] cs := by
 have h1 : (zs.take 5130 ++ [u] ++ zs.drop (5130 + 1)).length = 5138 := by simp [h]
 exact ⟨_, .seg (by rw [h]; exact (by decide : 5131 ≤ 5138)) rfl (.seg (Nat.le_trans (by exact (by decide : 5132 ≤ 5138)) (Nat.le_of_eq h1.symm)) rfl .nil)⟩
theorem ref9_New {I : Imm} : Spec Tryz.prog 47 [] I [] (fun v J L => I = J ∧ ∃ r, v = .pointer (some ⟨r, 0, none⟩) ∧ L = []) := by
 obtain ⟨zs, hzs, hzl⟩ := bigTy_ok big_r9
 obtain ⟨cs, hseg⟩ := set_two hzl (.int .i64 1) (.int .i64 16)
 refine Spec.of Tryz.func47 rfl Tryz.ntmps47 (Nat.le_of_ble_eq_true rfl) (fun F => ?_)
 try simp only [nf]
 dsimp only [argsEnv]
 refine WP.seq ?_; refine WP.region [0] rfl ?_; refine WP.mv rfl rfl ?_; refine WP.nil (WP.next (WP.seq ?_))
 refine WP.region [0, 1, 2] rfl ?_; refine WP.vl rfl (Yld.buildS (pl := [(2, 5130, 1), (3, 5131, 1)]) rfl hzs ty_zd_172 zK rfl (vs := [_, _]) rfl (segs := [(5130, [_]), (5131, [_])]) rfl rfl hseg) ?_; refine WP.loud rfl rfl ?_; refine Op.box rfl rfl rfl rfl rfl (fun r => ?_)
 refine WP.mv rfl rfl ?_; refine WP.nil ?_; refine WP.sub [(0, _)] ?_ ⟨rfl, trivial⟩
 refine WP.next (WP.ret ?_)
 refine WP.fn .ret (.inr rfl) (res1 rfl rfl) [] (Imm.le_refl _) ?_; exact ⟨rfl, r, rfl, rfl⟩

theorem txn_Page {I : Imm} {vd : Value} {d : List UInt8} (hd : SlRd (Im I) vd d.length 1 (bytesV d)) : Spec Tryz.prog 14 [vd] I [] (fun v J L => L = [] ∧ RNodes J v [(true, d)]) := by
 obtain ⟨Ad, cd, rfl, hcd, _, _⟩ := id hd
 refine Spec.of Tryz.func14 rfl Tryz.ntmps14 (Nat.le_of_ble_eq_true rfl) (fun F => ?_)
 try simp only [nf]
 dsimp only [argsEnv]
 refine WP.seq ?_; refine WP.region [0] rfl ?_; refine WP.mv rfl rfl ?_; refine WP.nil (WP.next (WP.seq ?_))
 refine WP.region [0, 1, 2, 3] rfl ?_; refine WP.mv rfl rfl ?_; refine WP.vl rfl (Yld.buildS (pl := [(0, 0, 1), (1, 1, 1)]) rfl ty_zr_63 ty_zd_63 zK rfl (vs := [_, _]) rfl (segs := [(0, [_]), (1, [_])]) rfl rfl zS) ?_; refine WP.loud rfl rfl ?_; refine Op.buildSlice rfl ty_sl_41 ty_el2_41 rfl rfl rfl rfl (vs := [_]) rfl (segs := [(0, [.bool true, .slice Ad d.length cd])]) (cs := [.bool true, .slice Ad d.length cd]) rfl rfl (.seg (Nat.le_refl _) rfl .nil) (fun bq => ?_)
 refine WP.mv rfl rfl ?_; refine WP.nil ?_; refine WP.sub [(0, _), (2, _)] ?_ ⟨rfl, rfl, trivial⟩
 have hob := Own.blk (T := 63) (sz := 2) (b := bq) (cap := 1) (n := 1) (xs := [.bool true, .slice Ad d.length cd]) (sp := []) rfl rfl (Nat.le_refl _)
 rw [List.append_nil] at hob
 refine WP.shO hob (fun J2 hJ2 hsl => ?_)
 refine WP.next (WP.ret ?_)
 refine WP.fn .ret (.inr rfl) (res1 rfl rfl) [] hJ2 ?_; exact ⟨rfl, ⟨[(true, .slice Ad d.length cd)], hsl, ⟨rfl, fun i x hx => by rcases i with _ | i; cases hx; exact ⟨d, rfl, hd.mono fun b o q => hJ2.2 b o q⟩; cases hx⟩⟩⟩

theorem txn_Begun {I : Imm} {m : Nat} (hm : 4 ≤ m) (hm2 : m ≤ 60) : Spec Tryz.prog 10 [.int .i64 (m : Int)] I [] (fun v J L => I = J ∧ ∃ x d s l t q rt rm r9 tb Ll Lt, v = .pointer (some ⟨x, 0, none⟩) ∧ L = (x, row 38 [.pointer (some ⟨d, 0, none⟩), .pointer (some ⟨s, 0, none⟩), .pointer (some ⟨l, 0, none⟩), .pointer (some ⟨t, 0, none⟩), .pointer (some ⟨q, 0, none⟩), .pointer (some ⟨rt, 0, none⟩), .pointer (some ⟨rm, 0, none⟩), .pointer (some ⟨r9, 0, none⟩)]) :: (Ll ++ Lt) ∧ IsLog J l s d (8 + 32 * m) (⟨1, ⟨m, 1, 1⟩, 0, 8, [], 0, 0, 8⟩ : Lg) (Dk.new (8 + 32 * m)) Ll ∧ IsT J t tb Lt ∧ tb.tok = 0 ∧ tb.next = 1 ∧ tb.size = 16 ∧ ∀ p, tb.get p = none) := by
 refine Spec.of Tryz.func10 rfl Tryz.ntmps10 (Nat.le_of_ble_eq_true rfl) (fun F => ?_)
 try simp only [nf]
 dsimp only [argsEnv]
 refine WP.seq ?_; refine WP.region [0] rfl ?_; refine WP.mv rfl rfl ?_; refine WP.nil (WP.next (WP.seq (WP.seq ?_)))
 refine WP.region [0, 1, 2, 3, 4, 5] rfl ?_; refine WP.mv rfl rfl ?_; refine WP.vl rfl (Yld.lss rfl rfl rfl false (decide_eq_false (by omega))) ?_; refine WP.mv rfl rfl ?_; refine WP.valG rfl rfl rfl rfl rfl rfl rfl (Yld.move rfl rfl) ?_; refine WP.valG rfl rfl rfl rfl rfl rfl rfl (Yld.gtr rfl rfl rfl false (decide_eq_false (by omega))) ?_; refine WP.vl rfl (Yld.pickF rfl rfl rfl) ?_; refine WP.nil ?_; refine WP.sub [(0, _), (2, _), (21, _)] ?_ ⟨rfl, rfl, rfl, trivial⟩
 refine WP.next ?_; refine WP.condF rfl ?_; refine WP.skip (WP.next (WP.seq ?_))
 refine WP.region [0, 1, 2, 3, 4, 5, 6, 7, 8] rfl ?_; refine WP.mv rfl rfl ?_; refine WP.vl rfl (Yld.mul64 rfl rfl rfl (by omega)) ?_; refine WP.vl rfl (Yld.add64 rfl rfl rfl (by omega)) ?_; rw [show (8 : Int) + 32 * (m : Int) = ((8 + 32 * m : Nat) : Int) by omega]
 refine WP.loud rfl rfl ?_; refine Op.cl (disk_New (n := 8 + 32 * m) (by omega) (by omega)) rfl Tryz.func40 rfl rfl rfl rfl ?_; rintro v J Ld - ⟨rfl, d, rfl, hd⟩
 try simp only [nf]
 refine WP.mv rfl rfl ?_; iterate 2 refine WP.vl rfl (Yld.extract rfl rfl rfl) ?_
 iterate 2 refine WP.mv rfl rfl ?_
 refine WP.nil ?_; refine WP.sub [(0, _), (2, _), (3, _), (4, _), (21, _)] ?_ ⟨rfl, rfl, rfl, rfl, rfl, trivial⟩
 refine WP.next (WP.seq ?_)
 refine WP.region [0, 1, 2, 3, 4, 5, 6, 7, 8] rfl ?_; refine WP.mv rfl rfl ?_; refine WP.vl rfl (Yld.mul64 rfl rfl rfl (by omega)) ?_; refine WP.vl rfl (Yld.add64 rfl rfl rfl (by omega)) ?_; rw [show (8 : Int) + 32 * (m : Int) = ((8 + 32 * m : Nat) : Int) by omega]
 refine WP.loud rfl rfl ?_; refine Op.cl (ref3_New (n := 8 + 32 * m) (by omega) (by omega)) rfl Tryz.func41 rfl rfl rfl rfl ?_; rintro v J L1 - ⟨rfl, q, A, c, Lq, rfl, rfl⟩
 try simp only [nf]
 refine WP.mv rfl rfl ?_; iterate 2 refine WP.vl rfl (Yld.extract rfl rfl rfl) ?_
 iterate 2 refine WP.mv rfl rfl ?_
 refine WP.nil ?_; refine WP.sub [(0, _), (2, _), (3, _), (4, _), (5, _), (21, _)] ?_ ⟨rfl, rfl, rfl, rfl, rfl, rfl, trivial⟩
 refine WP.next (WP.seq (WP.seq ?_))
 refine WP.region [0, 1, 2, 3, 4, 5] rfl ?_; refine WP.mv rfl rfl ?_; refine WP.vl rfl (Yld.eqlNil rfl ty_pt_29 rfl rfl) ?_; refine WP.mv rfl rfl ?_; refine WP.valG rfl rfl rfl rfl rfl rfl rfl (Yld.move rfl rfl) ?_; refine WP.valG rfl rfl rfl rfl rfl rfl rfl (Yld.neq rfl rfl rfl false (decide_eq_false (by simp))) ?_; refine WP.vl rfl (Yld.pickF rfl rfl rfl) ?_; refine WP.nil ?_; refine WP.sub [(0, _), (2, _), (3, _), (4, _), (5, _), (21, _), (41, _)] ?_ ⟨rfl, rfl, rfl, rfl, rfl, rfl, rfl, trivial⟩
 refine WP.next ?_; refine WP.condF rfl ?_; refine WP.skip (WP.next (WP.seq ?_))
 refine WP.region [0, 1, 2, 3, 4, 5, 6] rfl ?_; refine WP.mv rfl rfl ?_; refine WP.loud rfl rfl ?_; refine Op.cl (seg_New_ok (f := 1) (e := 1) hd (by omega) (Nat.le_refl _) (by omega) (by omega)) rfl Tryz.func42 rfl rfl rfl rfl ?_; rintro v J L1 - ⟨rfl, s, rfl, rfl⟩
 try simp only [nf]
 refine WP.mv rfl rfl ?_; iterate 2 refine WP.vl rfl (Yld.extract rfl rfl rfl) ?_
 iterate 2 refine WP.mv rfl rfl ?_
 refine WP.nil ?_; refine WP.sub [(0, _), (2, _), (3, _), (4, _), (5, _), (7, _), (8, _), (21, _), (41, _)] ?_ ⟨rfl, rfl, rfl, rfl, rfl, rfl, rfl, rfl, rfl, trivial⟩
 refine WP.next (WP.seq ?_)
 refine WP.region [0, 1, 2, 3, 4, 5, 6] rfl ?_; refine WP.mv rfl rfl ?_; refine WP.loud rfl rfl ?_; refine Op.cl (ref7_New (r := q) (n := 8 + 32 * m) (A := A) (c := c) (f := 1) (e := 1) (by omega) (by omega) (Nat.le_refl _) (by omega) (by omega)) rfl Tryz.func43 rfl rfl rfl rfl ?_; rintro v J L1 - ⟨rfl, rt, rfl, rfl⟩
 try simp only [nf]
 refine WP.mv rfl rfl ?_; iterate 2 refine WP.vl rfl (Yld.extract rfl rfl rfl) ?_
 iterate 2 refine WP.mv rfl rfl ?_
 refine WP.nil ?_; refine WP.sub [(0, _), (2, _), (3, _), (4, _), (5, _), (7, _), (8, _), (9, _), (21, _), (41, _)] ?_ ⟨rfl, rfl, rfl, rfl, rfl, rfl, rfl, rfl, rfl, rfl, trivial⟩
 refine WP.next (WP.seq (WP.seq ?_))
 refine WP.region [0, 1, 2, 3, 4, 5] rfl ?_; refine WP.mv rfl rfl ?_; refine WP.vl rfl (Yld.eqlNil rfl ty_pt_30 rfl rfl) ?_; refine WP.mv rfl rfl ?_; refine WP.valG rfl rfl rfl rfl rfl rfl rfl (Yld.move rfl rfl) ?_; refine WP.valG rfl rfl rfl rfl rfl rfl rfl (Yld.neq rfl rfl rfl false (decide_eq_false (by simp))) ?_; refine WP.vl rfl (Yld.pickF rfl rfl rfl) ?_; refine WP.nil ?_; refine WP.sub [(0, _), (2, _), (3, _), (4, _), (5, _), (7, _), (8, _), (9, _), (21, _), (41, _), (57, _)] ?_ ⟨rfl, rfl, rfl, rfl, rfl, rfl, rfl, rfl, rfl, rfl, rfl, trivial⟩
 refine WP.next ?_; refine WP.condF rfl ?_; refine WP.skip (WP.next (WP.seq ?_))
 refine WP.region [0, 1, 2, 3, 4, 5, 6, 7, 8] rfl ?_; iterate 2 refine WP.mv rfl rfl ?_
 refine WP.vl rfl (Yld.buildS (pl := [(1, 1, 1)]) rfl ty_zr_56 ty_zd_56 zK rfl (vs := [_]) rfl (segs := [(1, [_])]) rfl rfl zS) ?_; refine WP.loud rfl rfl ?_; refine Op.cl (log_Open (s := s) (g := ⟨(8 + 32 * m - 8) / 32, 1, 1⟩) (hn := 0) (hp := 8) (era := 1) hd ⟨(show 4 ≤ (8 + 32 * m - 8) / 32 by omega), (show (8 + 32 * m - 8) / 32 * 32 + 8 ≤ 8 + 32 * m by omega), Nat.le_refl _, (show 1 ≤ 1099511627776 by omega)⟩ (by omega) (by show 1 * 8 ≤ 8; decide) (by show 8 ≤ (1 + (8 + 32 * m - 8) / 32) * 8; omega) ⟨by decide, by decide⟩ (by show 1 ≤ 68719476736; decide) (Nat.le_add_right _ _)) rfl Tryz.func44 rfl rfl rfl rfl ?_; rintro v J Ll - ⟨rfl, l, rfl, hl⟩
 try simp only [nf]
 refine WP.mv rfl rfl ?_; iterate 2 refine WP.vl rfl (Yld.extract rfl rfl rfl) ?_
 iterate 2 refine WP.mv rfl rfl ?_
 refine WP.nil ?_; refine WP.sub [(0, _), (2, _), (3, _), (4, _), (5, _), (7, _), (8, _), (9, _), (11, _), (12, _), (21, _), (41, _), (57, _)] ?_ ⟨rfl, rfl, rfl, rfl, rfl, rfl, rfl, rfl, rfl, rfl, rfl, rfl, rfl, trivial⟩
 refine WP.next (WP.seq ?_)
 refine WP.region [0, 1, 2, 3, 4, 5, 6, 7] rfl ?_; refine WP.mv rfl rfl ?_; refine WP.vl rfl (Yld.buildS (pl := [(1, 1, 1)]) rfl ty_zr_56 ty_zd_56 zK rfl (vs := [_]) rfl (segs := [(1, [_])]) rfl rfl zS) ?_; refine WP.loud rfl rfl ?_; refine Op.cl (ref8_Open (r := q) (t := rt) (n := 8 + 32 * m) (A := A) (c := c) (f := 1) (e := 1) (hn := 0) (hp := 8) (era := 1) (by omega) (by omega) (by omega) (by omega) (by omega) (by omega) ⟨by decide, by decide⟩) rfl Tryz.func45 rfl rfl rfl rfl ?_; rintro v J L1 - ⟨rfl, rm, rfl, rfl⟩
 try simp only [nf]
 refine WP.mv rfl rfl ?_; iterate 2 refine WP.vl rfl (Yld.extract rfl rfl rfl) ?_
 iterate 2 refine WP.mv rfl rfl ?_
 refine WP.nil ?_; refine WP.sub [(0, _), (2, _), (3, _), (4, _), (5, _), (7, _), (8, _), (9, _), (11, _), (12, _), (13, _), (21, _), (41, _), (57, _)] ?_ ⟨rfl, rfl, rfl, rfl, rfl, rfl, rfl, rfl, rfl, rfl, rfl, rfl, rfl, rfl, trivial⟩
 refine WP.next (WP.seq ?_)
 refine WP.region [0, 1] rfl ?_; refine WP.loud rfl rfl ?_; refine Op.cl tabT_NewNil rfl Tryz.func46 rfl rfl rfl rfl ?_; rintro v J Lt - ⟨t, tb, rfl, rfl, hT, hk0, hn0, hs0, hg0⟩
 try simp only [nf]
 refine WP.mv rfl rfl ?_; refine WP.nil ?_; refine WP.sub [(0, _), (2, _), (3, _), (4, _), (5, _), (7, _), (8, _), (9, _), (11, _), (12, _), (13, _), (15, _), (21, _), (41, _), (57, _)] ?_ ⟨rfl, rfl, rfl, rfl, rfl, rfl, rfl, rfl, rfl, rfl, rfl, rfl, rfl, rfl, rfl, trivial⟩
 refine WP.next (WP.seq (WP.seq ?_))
 refine WP.region [0, 1, 2, 3, 4, 5, 6, 7, 8, 9] rfl ?_; refine WP.mv rfl rfl ?_; refine WP.vl rfl (Yld.eqlNil rfl ty_pt_31 rfl rfl) ?_; refine WP.mv rfl rfl ?_; refine WP.valG rfl rfl rfl rfl rfl rfl rfl (Yld.move rfl rfl) ?_; refine WP.valG rfl rfl rfl rfl rfl rfl rfl (Yld.eqlNil rfl ty_pt_32 rfl rfl) ?_; refine WP.vl rfl (Yld.pickF rfl rfl rfl) ?_; refine WP.mv rfl rfl ?_; refine WP.valG rfl rfl rfl rfl rfl rfl rfl (Yld.move rfl rfl) ?_; refine WP.valG rfl rfl rfl rfl rfl rfl rfl (Yld.neq rfl rfl rfl false (decide_eq_false (by simp))) ?_; refine WP.vl rfl (Yld.pickF rfl rfl rfl) ?_; refine WP.nil ?_; refine WP.sub [(0, _), (2, _), (3, _), (4, _), (5, _), (7, _), (8, _), (9, _), (11, _), (12, _), (13, _), (15, _), (21, _), (41, _), (57, _), (81, _)] ?_ ⟨rfl, rfl, rfl, rfl, rfl, rfl, rfl, rfl, rfl, rfl, rfl, rfl, rfl, rfl, rfl, rfl, trivial⟩
 refine WP.next ?_; refine WP.condF rfl ?_; refine WP.skip (WP.next (WP.seq ?_))
 refine WP.region [0, 1, 2, 3, 4, 5, 6, 7, 8, 9, 10] rfl ?_; iterate 7 refine WP.mv rfl rfl ?_
 refine WP.loud rfl rfl ?_; refine Op.cl ref9_New rfl Tryz.func47 rfl rfl rfl rfl ?_; rintro v J L1 - ⟨rfl, r9, rfl, rfl⟩
 try simp only [nf]
 refine WP.vl rfl (Yld.buildS (pl := [(0, 0, 1), (1, 1, 1), (2, 2, 1), (3, 3, 1), (4, 4, 1), (5, 5, 1), (6, 6, 1), (7, 7, 1)]) rfl ty_zr_38 ty_zd_38 zK rfl (vs := [_, _, _, _, _, _, _, _]) rfl (segs := [(0, [_]), (1, [_]), (2, [_]), (3, [_]), (4, [_]), (5, [_]), (6, [_]), (7, [_])]) rfl rfl zS) ?_; refine WP.loud rfl rfl ?_; refine Op.box rfl rfl rfl rfl rfl (fun x => ?_)
 refine WP.mv rfl rfl ?_; refine WP.nil ?_; refine WP.sub [(0, _), (2, _), (3, _), (4, _), (5, _), (7, _), (8, _), (9, _), (11, _), (12, _), (13, _), (15, _), (21, _), (41, _), (57, _), (81, _)] ?_ ⟨rfl, rfl, rfl, rfl, rfl, rfl, rfl, rfl, rfl, rfl, rfl, rfl, rfl, rfl, rfl, rfl, trivial⟩
 refine WP.next (WP.ret ?_)
 refine WP.fn .ret (.inr rfl) (res1 rfl rfl) ((x, row 38 [.pointer (some ⟨d, 0, none⟩), .pointer (some ⟨s, 0, none⟩), .pointer (some ⟨l, 0, none⟩), .pointer (some ⟨t, 0, none⟩), .pointer (some ⟨q, 0, none⟩), .pointer (some ⟨rt, 0, none⟩), .pointer (some ⟨rm, 0, none⟩), .pointer (some ⟨r9, 0, none⟩)]) :: (Ll ++ Lt)) (Imm.le_refl _) ?_; rw [show (8 + 32 * m - 8) / 32 = m by omega] at hl
 exact ⟨rfl, x, d, s, l, t, q, rt, rm, r9, tb, Ll, Lt, rfl, rfl, hl, hT, hk0, hn0, hs0, hg0⟩


/-- What has become of a group that nobody else hinders. -/
structure Evo (rs : List Pr) (T : Nat) (x : Lg) (tb : Tb) (z z' : Gp) (x' : Lg) (tb' : Tb) : Prop where
 ph : Ph rs T x' tb' z'
 c : PhC rs T z'
 lg : LgB x'
 len : x'.rs.length + z.V = x.rs.length + z'.V
 no : x.no ≤ x'.no
 ent : ∀ k, k ∉ pgs rs → tb'.ent k = tb.ent k
 tok : tb'.tok + z.W rs.length ≤ tb.tok + z'.W rs.length
 txn : (z'.c.txn = z.c.txn ∧ z'.place = z.place ∧ (2 ≤ z'.at_ → 2 ≤ z.at_)) ∨ ((x.no : Int) < z'.c.txn ∧ z'.c.txn ≤ (x'.no : Int))
theorem Evo.refl {rs : List Pr} {T : Nat} {x : Lg} {tb : Tb} {z : Gp} (hp : Ph rs T x tb z) (hc : PhC rs T z) (hl : LgB x) : Evo rs T x tb z z x tb :=
 ⟨hp, hc, hl, rfl, Nat.le_refl _, fun _ _ => rfl, Nat.le_refl _, .inl ⟨rfl, rfl, fun h => h⟩⟩
theorem Evo.went {rs : List Pr} {T : Nat} {x x1 x2 : Lg} {tb tb1 tb2 : Tb} {z z1 z2 : Gp} {b : Bool} (h : Evo rs T x tb z z1 x1 tb1) (k : Went rs T x1 tb1 z1 b z2 x2 tb2) : Evo rs T x tb z z2 x2 tb2 := by
 have h1 := h.len; have h2 := k.len; have h3 := h.tok; have h4 := k.tok; have h5 := h.no; have h6 := k.no
 refine ⟨k.ph, k.c, k.lg, by omega, by omega, fun j hj => (k.ent j hj).trans (h.ent j hj), by omega, ?_⟩
 rcases k.txn with ⟨k1, k3, k2⟩ | ⟨k0, k1, k3, k2⟩
 ·rcases h.txn with ⟨g1, g3, g2⟩ | ⟨g1, g2⟩
  ·exact .inl ⟨k1.trans g1, k3.trans g3, fun q => g2 (k2 q)⟩
  ·exact .inr ⟨by omega, by omega⟩
 ·exact .inr ⟨by omega, by omega⟩
theorem Gp.V_le (z : Gp) : z.V ≤ 2 := by unfold Gp.V; split; omega; split <;> omega
theorem Gp.W_le (z : Gp) (n : Nat) : z.W n ≤ 2 * n := by unfold Gp.W; (repeat' split) <;> omega
structure RnX where
 i : Nat
 z : Gp
 x : Lg
 tb : Tb
 J : Imm
 Lg : Chunks
 Lt : Chunks
 Ll : Chunks
theorem txn_PageO {I : Imm} {b : Nat} {d : List UInt8} : Spec Tryz.prog 14 [.slice (some ⟨b, 0, none⟩) d.length d.length] I [(b, row 5 (bytesV d))] (fun v J L => L = [] ∧ RNodes J v [(true, d)]) :=
 Spec.give fun J hJ hb => txn_Page ⟨_, _, rfl, Nat.le_refl _, by rw [bytesV_len, Nat.mul_one], .inr ⟨b, 0, 5, (0, 0), (bytesV d).toArray, rfl, hb, by simp⟩⟩
theorem txn_NewO {I : Imm} {l t tok b : Nat} {pages : List (Pr × Value)} (hp : ∀ x ∈ pages, RNodes I x.2 x.1.nodes) (hln : pages.length ≤ 1099511627776) (hsz : (∀ x ∈ pages, x.1.nodes.length ≤ 4398046510976) ∧ ∀ x ∈ pages, ∀ y ∈ x.1.nodes, y.2.length ≤ 140737488351232) :
  Spec Tryz.prog 13 [.pointer (some ⟨l, 0, none⟩), .pointer (some ⟨t, 0, none⟩), .int .u64 (tok : Int), .slice (some ⟨b, 0, none⟩) pages.length pages.length] I [(b, row 51 (prC pages))] (fun v J L => ∃ g ps Lg, v = .pointer (some ⟨g, 0, none⟩) ∧ prs ps = prs pages ∧ L = Lg ∧ IsGr J g l t ⟨0, cm0, tok, ps, [], 0, []⟩ Lg) :=
 Spec.give fun J hJ hb => txn_New ⟨⟨_, _, rfl, Nat.le_refl _, prC_len pages, .inr ⟨b, 0, 51, (0, 0), (prC pages).toArray, rfl, hb, (by have e : (prC pages).length = pages.length * 3 := prC_len pages; simp only [List.drop_zero]; exact List.take_length)⟩⟩, fun x hx => (hp x hx).mono hJ⟩ hln hsz
theorem txn_NewHelp {I : Imm} {l t : Nat} {p : Int} : Spec Tryz.prog 23 [.pointer (some ⟨l, 0, none⟩), .pointer (some ⟨t, 0, none⟩), .int .i64 p] I [] (fun v J L => I = J ∧ ∃ h, v = .pointer (some ⟨h, 0, none⟩) ∧ L = [(h, row 72 (cmV l t (.func (.func 57) [.pointer (some ⟨h, 0, none⟩)].toArray [].toArray) (.func (.func 55) [.pointer (some ⟨h, 0, none⟩)].toArray [].toArray) cm0 (.slice none 0 0) (.slice none 0 0) (.slice none 0 0) [.int .i64 p]))]) := by
 refine Spec.of Tryz.func23 rfl Tryz.ntmps23 (Nat.le_of_ble_eq_true rfl) (fun F => ?_)
 try simp only [nf]
 dsimp only [argsEnv]
 refine WP.seq ?_; refine WP.region [0] rfl ?_; refine WP.mv rfl rfl ?_; refine WP.nil (WP.next (WP.seq ?_))
 refine WP.region [0, 1, 2, 3] rfl ?_; refine WP.mv rfl rfl ?_; refine WP.vl rfl (Yld.buildS (pl := [(1, 18, 1)]) rfl ty_zr_72 ty_zd_72 zK rfl (vs := [_]) rfl (segs := [(18, [_])]) rfl rfl zS) ?_; refine WP.loud rfl rfl ?_; refine Op.box rfl rfl rfl rfl rfl (fun h => ?_)
 refine WP.mv rfl rfl ?_; refine WP.nil ?_; refine WP.sub [(0, _), (1, _), (2, _), (6, _), (7, _)] ?_ ⟨rfl, rfl, rfl, rfl, rfl, trivial⟩
 refine WP.next (WP.seq ?_)
 refine WP.region [0, 1, 2, 3, 4, 5, 6, 7] rfl ?_; iterate 3 refine WP.mv rfl rfl ?_
 refine WP.vl rfl (Yld.buildS (pl := [(0, 0, 1), (1, 1, 1), (3, 3, 1)]) rfl ty_zr_54 ty_zd_54 zK rfl (vs := [_, _, _]) rfl (segs := [(0, [_]), (1, [_]), (3, [_])]) rfl rfl zS) ?_; refine WP.vl rfl (Yld.nilCheck rfl rfl) ?_; refine WP.vl rfl (Yld.fieldAddr rfl ty_fd_72_0 rfl) ?_; refine WP.vl rfl (Yld.fieldAddr rfl ty_fd_58_0 rfl) ?_; refine WP.loud rfl rfl ?_; refine Op.storeN rfl rfl ty_sz_54 rfl rfl rfl rfl (Nat.le_of_ble_eq_true rfl) (show [.pointer (some ⟨l, 0, none⟩), .pointer (some ⟨t, 0, none⟩), .nilFunc, .int .i64 1, .int .i64 0, .int .i64 0, .int .i64 0, .slice none 0 0, .int .u64 0, .slice none 0 0, .int .i64 0, .int .i64 0, .int .i64 0, .int .i64 0, .int .i64 0, .int .i64 0, .slice none 0 0, .nilFunc, .int .i64 p] = _ from rfl) (by repeat (first | exact Upd.head | apply Upd.tail | apply Upd.tailS)) ?_; refine WP.nil ?_; refine WP.sub [(0, _), (1, _), (2, _), (6, _), (7, _)] ?_ ⟨rfl, rfl, rfl, rfl, rfl, trivial⟩
 refine WP.next (WP.seq ?_)
 refine WP.region [0, 1, 2, 3, 4, 5, 6, 7, 8, 9, 10, 11, 12, 13, 14] rfl ?_; iterate 3 refine WP.mv rfl rfl ?_
 refine WP.vl rfl (Yld.makeFunc rfl (vs := [_]) (us := []) rfl rfl) ?_; refine WP.mv rfl rfl ?_; refine WP.vl rfl (Yld.makeFunc rfl (vs := [_]) (us := []) rfl rfl) ?_; refine WP.vl rfl (Yld.nilCheck rfl rfl) ?_; refine WP.vl rfl (Yld.fieldAddr rfl ty_fd_72_0 rfl) ?_; refine WP.vl rfl (Yld.fieldAddr rfl ty_fd_58_0 rfl) ?_; refine WP.vl rfl (Yld.fieldAddr rfl ty_fd_54_2 rfl) ?_; refine WP.loud rfl rfl ?_; refine Op.s1 rfl rfl ty_sz_23 rfl rfl rfl ?_; refine WP.vl rfl (Yld.nilCheck rfl rfl) ?_; refine WP.vl rfl (Yld.fieldAddr rfl ty_fd_72_0 rfl) ?_; refine WP.vl rfl (Yld.fieldAddr rfl ty_fd_58_5 rfl) ?_; refine WP.loud rfl rfl ?_; refine Op.s1 rfl rfl ty_sz_23 rfl rfl rfl ?_; refine WP.nil ?_; refine WP.sub [(0, _), (1, _), (2, _), (6, _), (7, _)] ?_ ⟨rfl, rfl, rfl, rfl, rfl, trivial⟩
 refine WP.next (WP.seq ?_)
 refine WP.region [0, 1] rfl ?_; iterate 2 refine WP.mv rfl rfl ?_
 refine WP.nil ?_; refine WP.sub [(0, _), (1, _), (2, _), (6, _), (7, _)] ?_ ⟨rfl, rfl, rfl, rfl, rfl, trivial⟩
 refine WP.next (WP.ret ?_)
 refine WP.fn .ret (.inr rfl) (res1 rfl rfl) [(h, row 72 (cmV l t (.func (.func 57) [.pointer (some ⟨h, 0, none⟩)].toArray [].toArray) (.func (.func 55) [.pointer (some ⟨h, 0, none⟩)].toArray [].toArray) cm0 (.slice none 0 0) (.slice none 0 0) (.slice none 0 0) [.int .i64 p]))] (Imm.le_refl _) ?_; exact ⟨rfl, h, rfl, rfl⟩

theorem txn_NewSettle {I : Imm} {l t : Nat} {p : Int} : Spec Tryz.prog 19 [.pointer (some ⟨l, 0, none⟩), .pointer (some ⟨t, 0, none⟩), .int .i64 p] I [] (fun v J L => I = J ∧ ∃ h, v = .pointer (some ⟨h, 0, none⟩) ∧ L = [(h, row 74 (cmV l t (.func (.func 54) [.pointer (some ⟨h, 0, none⟩)].toArray [].toArray) (.func (.func 55) [.pointer (some ⟨h, 0, none⟩)].toArray [].toArray) cm0 (.slice none 0 0) (.slice none 0 0) (.slice none 0 0) [.int .i64 0, .int .i64 p]))]) := by
 refine Spec.of Tryz.func19 rfl Tryz.ntmps19 (Nat.le_of_ble_eq_true rfl) (fun F => ?_)
 try simp only [nf]
 dsimp only [argsEnv]
 refine WP.seq ?_; refine WP.region [0] rfl ?_; refine WP.mv rfl rfl ?_; refine WP.nil (WP.next (WP.seq ?_))
 refine WP.region [0, 1, 2, 3, 4] rfl ?_; refine WP.vl rfl (Yld.buildS (pl := []) rfl ty_zr_72 ty_zd_72 zK rfl (vs := []) rfl (segs := []) rfl rfl zS) ?_; refine WP.mv rfl rfl ?_; refine WP.vl rfl (Yld.buildS (pl := [(0, 0, 19), (1, 19, 1)]) rfl ty_zr_74 ty_zd_74 zK rfl (vs := [_, _]) rfl (segs := [(0, [_, _, _, _, _, _, _, _, _, _, _, _, _, _, _, _, _, _, _]), (19, [_])]) rfl rfl (.seg (Nat.le_of_ble_eq_true rfl) rfl (.one (.succ (.succ (.succ (.succ (.succ (.succ (.succ (.succ (.succ (.succ (.succ (.succ (.succ (.succ (.succ (.succ (.succ (.succ (.succ .zero))))))))))))))))))) .nil))) ?_; refine WP.loud rfl rfl ?_; refine Op.box rfl rfl rfl rfl rfl (fun h => ?_)
 refine WP.mv rfl rfl ?_; refine WP.nil ?_; refine WP.sub [(0, _), (1, _), (2, _), (6, _), (7, _)] ?_ ⟨rfl, rfl, rfl, rfl, rfl, trivial⟩
 refine WP.next (WP.seq ?_)
 refine WP.region [0, 1, 2, 3, 4, 5, 6, 7, 8] rfl ?_; iterate 3 refine WP.mv rfl rfl ?_
 refine WP.vl rfl (Yld.buildS (pl := [(0, 0, 1), (1, 1, 1), (3, 3, 1)]) rfl ty_zr_54 ty_zd_54 zK rfl (vs := [_, _, _]) rfl (segs := [(0, [_]), (1, [_]), (3, [_])]) rfl rfl zS) ?_; refine WP.vl rfl (Yld.nilCheck rfl rfl) ?_; refine WP.vl rfl (Yld.fieldAddr rfl ty_fd_74_0 rfl) ?_; refine WP.vl rfl (Yld.fieldAddr rfl ty_fd_72_0 rfl) ?_; refine WP.vl rfl (Yld.fieldAddr rfl ty_fd_58_0 rfl) ?_; refine WP.loud rfl rfl ?_; refine Op.storeN rfl rfl ty_sz_54 rfl rfl rfl rfl (Nat.le_of_ble_eq_true rfl) (show [.pointer (some ⟨l, 0, none⟩), .pointer (some ⟨t, 0, none⟩), .nilFunc, .int .i64 1, .int .i64 0, .int .i64 0, .int .i64 0, .slice none 0 0, .int .u64 0, .slice none 0 0, .int .i64 0, .int .i64 0, .int .i64 0, .int .i64 0, .int .i64 0, .int .i64 0, .slice none 0 0, .nilFunc, .int .i64 0, .int .i64 p] = _ from rfl) (by repeat (first | exact Upd.head | apply Upd.tail | apply Upd.tailS)) ?_; refine WP.nil ?_; refine WP.sub [(0, _), (1, _), (2, _), (6, _), (7, _)] ?_ ⟨rfl, rfl, rfl, rfl, rfl, trivial⟩
 refine WP.next (WP.seq ?_)
 refine WD.start Tryzmixed 18 (fun _ _ => False) (fun _ _ => False) (fun _ _ h => h.elim) (fun _ _ h => h.elim) 19 [false, false, false, false, false, false, false, false, false, false, false, false, false, false, false, false, false, false, false] rfl rfl ?_; refine WD.vl (i := 0) rfl (Yld.move rfl rfl) ?_; refine WD.vl (i := 1) rfl (Yld.move rfl rfl) ?_; refine WD.vl (i := 2) rfl (Yld.move rfl rfl) ?_; refine WD.vl (i := 3) rfl (Yld.makeFunc rfl (vs := [_]) (us := []) rfl rfl) ?_; refine WD.vl (i := 4) rfl (Yld.move rfl rfl) ?_; refine WD.vl (i := 5) rfl (Yld.nilCheck rfl rfl) ?_; refine WD.vl (i := 6) rfl (Yld.fieldAddr rfl ty_fd_74_0 rfl) ?_; refine WD.vl (i := 7) rfl (Yld.makeFunc rfl (vs := [_]) (us := []) rfl rfl) ?_; refine WD.vl (i := 8) rfl (Yld.nilCheck rfl rfl) ?_; refine WD.vl (i := 9) rfl (Yld.fieldAddr rfl ty_fd_74_0 rfl) ?_; refine WD.vl (i := 10) rfl (Yld.fieldAddr rfl ty_fd_72_0 rfl) ?_; refine WD.vl (i := 11) rfl (Yld.fieldAddr rfl ty_fd_58_0 rfl) ?_; refine WD.vl (i := 12) rfl (Yld.fieldAddr rfl ty_fd_54_2 rfl) ?_; refine WD.loud (i := 13) zK rfl rfl rfl ?_; refine Op.s1 rfl rfl ty_sz_23 rfl rfl rfl ?_; refine WD.go (.inr (fun _ _ h => h.elim)) (fun _ _ h => h.elim) ?_; refine WD.vl (i := 14) rfl (Yld.nilCheck rfl rfl) ?_; refine WD.vl (i := 15) rfl (Yld.fieldAddr rfl ty_fd_74_0 rfl) ?_; refine WD.vl (i := 16) rfl (Yld.fieldAddr rfl ty_fd_72_0 rfl) ?_; refine WD.vl (i := 17) rfl (Yld.fieldAddr rfl ty_fd_58_5 rfl) ?_; refine WD.loud (i := 18) zK rfl rfl rfl ?_
 refine Op.s1 rfl rfl ty_sz_23 rfl rfl rfl ?_; refine WD.go (.inl rfl) (fun _ _ h => h.elim) ?_; refine WD.done zK ?_; refine WP.sub [(0, _), (1, _), (2, _), (6, _), (7, _)] ?_ ⟨rfl, rfl, rfl, rfl, rfl, trivial⟩
 refine WP.next (WP.seq ?_)
 refine WP.region [0, 1] rfl ?_; iterate 2 refine WP.mv rfl rfl ?_
 refine WP.nil ?_; refine WP.sub [(0, _), (1, _), (2, _), (6, _), (7, _)] ?_ ⟨rfl, rfl, rfl, rfl, rfl, trivial⟩
 refine WP.next (WP.ret ?_)
 refine WP.fn .ret (.inr rfl) (res1 rfl rfl) [(h, row 74 (cmV l t (.func (.func 54) [.pointer (some ⟨h, 0, none⟩)].toArray [].toArray) (.func (.func 55) [.pointer (some ⟨h, 0, none⟩)].toArray [].toArray) cm0 (.slice none 0 0) (.slice none 0 0) (.slice none 0 0) [.int .i64 0, .int .i64 p]))] (Imm.le_refl _) ?_; exact ⟨rfl, h, rfl, rfl⟩


/-- A page of one base node with one byte. -/
structure Sm (r : Pr) : Prop where
 p1 : 1 ≤ r.page
 p2 : r.page ≤ 512
 pv : r.prev = 0
 nd : ∃ b, r.nodes = [(true, [b])]
theorem Sm.may {r : Pr} (h : Sm r) : r.may := by
 obtain ⟨b, hb⟩ := h.nd
 refine ⟨⟨h.p1, h.p2⟩, by rw [h.pv]; decide, by rw [h.pv]; decide, ?_⟩
 rw [hb, h.pv]
 refine ⟨Nat.le_refl _, (by show 1 ≤ 64; decide), fun i hi => ?_⟩
 have : i = 0 := by have : i < 1 := hi; omega
 subst this; rfl
theorem grp_len : ∀ {l : List Pr}, (∀ r ∈ l, Sm r) → (l.flatMap fun r => numB r.page.toNat ++ nodesB r.nodes).length ≤ 14 * l.length
 | [], _ => by simp
 | r :: l, h => by
  have ih := grp_len (l := l) fun q hq => h q (List.mem_cons_of_mem _ hq)
  obtain ⟨b, hb⟩ := (h r List.mem_cons_self).nd
  have h2 := (h r List.mem_cons_self).p2
  have h1 := numB_10 (n := r.page.toNat) (by omega)
  have h3 : (nodesB r.nodes).length = 4 := by
   rw [hb]
   show (numB 1 ++ ([(true, [b])].flatMap nodeB)).length = 4
   simp [nodeB, numB_lo]
  rw [List.flatMap_cons, List.length_append, List.length_append, List.length_cons, h3]; omega
theorem wf_of {rs : List Pr} (h1 : 1 ≤ rs.length) (h8 : rs.length ≤ 8) (hs : ∀ r ∈ rs, Sm r) (hn : (pgs rs).Nodup) : Wf rs := by
 refine ⟨⟨h1, h8, fun i hi => ⟨fun k hk he => ?_, (hs _ (List.getElem_mem hi)).pv, .inr (hs _ (List.getElem_mem hi)).may⟩⟩, fun r hr => ?_, ?_, fun r hr y hy => ?_⟩
 ·have hq := List.pairwise_iff_getElem.1 hn k i (by unfold pgs; rw [List.length_map]; omega) (by unfold pgs; rw [List.length_map]; exact hi) hk
  exact hq (by simpa [pgs] using he)
 ·obtain ⟨b, hb⟩ := (hs r hr).nd; rw [hb]; exact Nat.one_pos
 ·have h3 := grp_len hs
  have h4 := numB_10 (n := rs.length) (by omega)
  unfold groupB
  rw [List.length_append]; omega
 ·obtain ⟨b, hb⟩ := (hs r hr).nd
  rw [hb] at hy
  cases List.mem_singleton.1 hy
  show 1 ≤ _; decide
theorem RNodes.sl {J : Imm} {v : Value} {l : List (Bool × List UInt8)} (h : RNodes J v l) : ∃ A c, v = .slice A l.length c := by
 obtain ⟨nv, ⟨A, c, e, _⟩, _⟩ := h.ex; exact ⟨A, c, e⟩
def twoP (p q : Int) (a b : UInt8) : List Pr := [⟨p, 0, [(true, [a])]⟩, ⟨q, 0, [(true, [b])]⟩]
def twoV (p q : Int) (a b : UInt8) (v w : Value) : List (Pr × Value) := [(⟨p, 0, [(true, [a])]⟩, v), (⟨q, 0, [(true, [b])]⟩, w)]
theorem wf_two {p q : Int} {a b : UInt8} (hp : 1 ≤ p ∧ p ≤ 512) (hq : 1 ≤ q ∧ q ≤ 512) (h : p ≠ q) : Wf (twoP p q a b) :=
 wf_of (by show 1 ≤ 2; decide) (by show 2 ≤ 8; decide) (fun r hr => by
  rcases List.mem_cons.1 hr with rfl | hr
  ·exact ⟨hp.1, hp.2, rfl, a, rfl⟩
  ·cases List.mem_singleton.1 hr; exact ⟨hq.1, hq.2, rfl, b, rfl⟩) (by simpa [pgs, twoP] using h)
theorem two_el {J : Imm} {p q : Int} {a b : UInt8} {v w : Value} (hv : RNodes J v [(true, [a])]) (hw : RNodes J w [(true, [b])]) : ∀ x ∈ twoV p q a b v w, RNodes J x.2 x.1.nodes := fun x hx => by
 rcases List.mem_cons.1 hx with rfl | hx
 ·exact hv
 ·cases List.mem_singleton.1 hx; exact hw
theorem two_sz {p q : Int} {a b : UInt8} {v w : Value} : (∀ x ∈ twoV p q a b v w, x.1.nodes.length ≤ 4398046510976) ∧ ∀ x ∈ twoV p q a b v w, ∀ y ∈ x.1.nodes, y.2.length ≤ 140737488351232 := by
 constructor
 ·intro x hx
  rcases List.mem_cons.1 hx with rfl | hx
  ·show 1 ≤ _; decide
  ·cases List.mem_singleton.1 hx; show 1 ≤ _; decide
 ·intro x hx y hy
  rcases List.mem_cons.1 hx with rfl | hx
  ·cases List.mem_singleton.1 hy; show 1 ≤ _; decide
  ·cases List.mem_singleton.1 hx; cases List.mem_singleton.1 hy; show 1 ≤ _; decide
/-- The pages from one up to m are in use. -/
def Tb.upto (x : Tb) (m : Nat) : Prop := ∀ k : Int, (x.get k).isSome = true ↔ 1 ≤ k ∧ k ≤ (m : Int)
theorem Tb.ent_get {x : Tb} {p : Int} {e : Ent} (h : x.ent p = some e) : ∃ b, x.get p = some (b, e) := by
 unfold Tb.ent at h
 cases hg : x.get p with
 | none => rw [hg] at h; cases h
 | some y => rw [hg] at h; cases h; exact ⟨y.1, rfl⟩
theorem Evo.start {rs : List Pr} {T : Nat} {x : Lg} {tb : Tb} {ps : List (Pr × Value)} (hps : prs ps = rs) (he : ∃ e, tb.ent (leadOf rs) = some e ∧ e.tok = T) : Ph rs T x tb ⟨0, cm0, T, ps, [], 0, []⟩ ∧ PhC rs T ⟨0, cm0, T, ps, [], 0, []⟩ :=
 ⟨.c0 rfl he, ⟨hps, rfl, fun y hy => by cases hy⟩⟩
/-- The number and the place of a group that is alone in its log. -/
def alone (x : Lg) (z : Gp) : Prop := x.rs.length = z.V ∧ (2 ≤ z.at_ → z.c.txn = 1 ∧ z.place = 8)
theorem alone.went {rs : List Pr} {T : Nat} {x x2 : Lg} {tb tb2 : Tb} {z z2 : Gp} {b : Bool} (h : alone x z) (hl : LgB x) (k : Went rs T x tb z b z2 x2 tb2) : alone x2 z2 := by
 obtain ⟨h1, h2⟩ := h
 have h3 := k.len
 refine ⟨by omega, fun q => ?_⟩
 rcases k.txn with ⟨k1, k2, k3⟩ | ⟨k0, k1, k2, k3⟩
 ·rw [k1, k2]; exact h2 (k3 q)
 ·have hV : z.V = 0 := by unfold Gp.V; rw [if_pos (by omega)]
  have e1 := hl.no; have e2 := hl.pl
  rw [k1, k2]; constructor <;> omega

theorem tabT_AllocN {I : Imm} {t : Nat} {x : Tb} {L : Chunks} (hT : IsT I t x L) (htk : x.tok + 1 < 18446744073709551616) {m : Nat} (hm : m < 512) (ha : x.upto m) : Spec Tryz.prog 11 [.pointer (some ⟨t, 0, none⟩)] I L (fun v J L' => ∃ x', v = .tuple #[.int .i64 ((m + 1 : Nat) : Int), .int .i64 0] ∧ x.Used x' ((m + 1 : Nat) : Int) zeroEnt ∧ x'.upto (m + 1) ∧ IsT J t x' L') :=
 (tabT_Alloc hT htk).mono (by
  rintro v J L' _ ⟨p, hp1, hp2, hp3, hor⟩
  have h1 : p = ((m + 1 : Nat) : Int) := by
   have h3 : ¬ (1 ≤ p ∧ p ≤ (m : Int)) := fun q => by have := (ha p).2 q; rw [hp3] at this; cases this
   have h2 : ¬ ((m + 1 : Nat) : Int) < p := fun q => by
    have := (ha _).1 (hp2 ((m + 1 : Nat) : Int) (by omega) q); omega
   omega
  subst h1
  rcases hor with ⟨h, _⟩ | ⟨_, rfl, x', hu, hT'⟩
  ·omega
  ·obtain ⟨b, hg⟩ := hu.get
   refine ⟨x', rfl, hu, fun k => ?_, hT'⟩
   rw [hg]
   split
   ·rename_i e; constructor
    ·intro _; omega
    ·intro _; rfl
   ·rename_i e; rw [ha]; omega)
theorem tabT_LoadE {I : Imm} {t : Nat} {x : Tb} {L : Chunks} (hT : IsT I t x L) {p : Int} {e : Ent} (hg : x.ent p = some e) : Spec Tryz.prog 12 [.pointer (some ⟨t, 0, none⟩), .int .i64 p] I L (fun v J L' => ∃ cs, v = .tuple #[.agg cs.toArray, .int .i64 0] ∧ REnt J e cs ∧ IsT J t x L') := by
 obtain ⟨b, hb⟩ := Tb.ent_get hg
 exact tabT_Load1 hT hb

end Go.Hp
