import Derived.Test.YtgcbhbcmohcdpaaGreatChkE
import Derived.Test.YtgcbhbcmohcdpaaGreatLogI
import Derived.Test.YtgcbhbcmohcdpaaGreatTabK
import Derived.Test.YtgcbhbcmohcdpaaGreatSupE
set_option linter.unusedVariables false
set_option linter.unusedSimpArgs false
namespace Go.Hp
open Go Go.Proofs

structure QX where
 i : Nat
 ps : List Value
 vp : Value
 Lp : Chunks
structure QX.ok (n : Nat) (t : QX) : Prop where
 le : t.i ≤ n
 op : Own 25 1 t.vp t.ps t.i t.Lp
theorem ref3_New {I : Imm} {n : Nat} (h1 : 1 ≤ n) (h2 : n ≤ 8192) : Spec Tryz.prog 38 [.int .i64 (n : Int)] I [] (fun v J L => I = J ∧ ∃ r A c Lp, v = .tuple #[.pointer (some ⟨r, 0, none⟩), .int .i64 0] ∧ L = (r, row 119 [.slice A n c, .slice none 0 0, .int .i64 (-1), .bool false, .int .i64 0, .int .i64 0]) :: Lp) := by
 refine Spec.of Tryz.func38 rfl Tryz.ntmps38 (Nat.le_of_ble_eq_true rfl) (fun F => ?_)
 try simp only [nf]
 dsimp only [argsEnv]
 refine WP.seq ?_; refine WP.region [0, 1] rfl ?_; iterate 2 refine WP.mv rfl rfl ?_
 refine WP.nil (WP.next (WP.seq (WP.seq ?_)))
 refine WP.region [0, 1, 2, 3, 4, 5] rfl ?_; refine WP.mv rfl rfl ?_; refine WP.vl rfl (Yld.lss rfl rfl rfl false (decide_eq_false (by omega))) ?_; refine WP.mv rfl rfl ?_; refine WP.valG rfl rfl rfl rfl rfl rfl rfl (Yld.move rfl rfl) ?_; refine WP.valG rfl rfl rfl rfl rfl rfl rfl (Yld.gtr rfl rfl rfl false (decide_eq_false (by omega))) ?_; refine WP.vl rfl (Yld.pickF rfl rfl rfl) ?_; refine WP.nil ?_; refine WP.sub [(0, _), (2, _), (3, _), (12, _)] ?_ ⟨rfl, rfl, rfl, rfl, trivial⟩
 refine WP.next ?_; refine WP.condF rfl ?_; refine WP.skip (WP.next (WP.seq ?_))
 refine WP.region [0, 1, 2] rfl ?_; refine WP.vl rfl (Yld.buildS (pl := [(2, 2, 1)]) rfl ty_zr_119 ty_zd_119 zK rfl (vs := [_]) rfl (segs := [(2, [_])]) rfl rfl zS) ?_; refine WP.loud rfl rfl ?_; refine Op.box rfl rfl rfl rfl rfl (fun r => ?_)
 refine WP.mv rfl rfl ?_; refine WP.nil ?_; refine WP.sub [(0, _), (2, _), (3, _), (4, _), (12, _)] ?_ ⟨rfl, rfl, rfl, rfl, rfl, trivial⟩
 refine WP.next (WP.seq (WP.seq ?_))
 refine WP.region [0] rfl ?_; refine WP.mv rfl rfl ?_; refine WP.nil (WP.next (WP.block ?_))
 refine WP.loop (X := QX) (fun t : QX => [(0, .int .i64 (n : Int)), (4, .pointer (some ⟨r, 0, none⟩)), (5, .int .i64 (t.i : Int))]) (fun _ => I) (fun t : QX => (r, row 119 [t.vp, .slice none 0 0, .int .i64 (-1), .bool false, .int .i64 0, .int .i64 0]) :: (t.Lp ++ F)) (fun t => t.ok n) (fun t => n - t.i) ⟨0, [], .slice none 0 0, []⟩ ⟨Nat.zero_le _, .none0⟩ ⟨rfl, rfl, rfl, trivial⟩ rfl zP ?_; rintro ⟨i, ps, vp, Lp⟩ ⟨hle, hop⟩; dsimp only at hle hop; obtain ⟨Ap, cp, rfl, hcp⟩ := hop.slice
 try dsimp only
 try simp only [nf]
 refine WP.seq (WP.seq ?_)
 refine WP.region [0, 1, 2] rfl ?_; iterate 2 refine WP.mv rfl rfl ?_
 refine WP.split rfl rfl rfl rfl (Yld.lss rfl rfl rfl) (fun hlt => ?_) (fun hlt => ?_)
 ·refine WP.nil ?_
  refine WP.sub [(0, _), (4, _), (5, _), (17, _)] ?_ ⟨rfl, rfl, rfl, rfl, trivial⟩
  refine WP.next ?_; refine WP.condT rfl ?_; refine WP.skip (WP.next (WP.seq (WP.block (WP.seq ?_))))
  refine WP.region [0, 1] rfl ?_; refine WP.loud rfl rfl ?_; refine Op.make (l := 64) (c := 64) rfl ty_sl_25 ty_el_25 rfl rfl rfl rfl rfl (Nat.le_refl _) (by decide) (by decide) (fun bs => ?_)
  refine WP.mv rfl rfl ?_; refine WP.nil ?_; refine WP.sub [(0, _), (4, _), (5, _), (6, _), (17, _)] ?_ ⟨rfl, rfl, rfl, rfl, rfl, trivial⟩
  refine WP.next ?_; refine WP.region [0, 1, 2, 3, 4, 5, 6, 7, 8, 9, 10] rfl ?_; iterate 2 refine WP.mv rfl rfl ?_
  refine WP.vl rfl (Yld.nilCheck rfl rfl) ?_; refine WP.vl rfl (Yld.fieldAddr rfl ty_fd_119_0 rfl) ?_; refine WP.vl rfl (Yld.ld rfl ty_sc_116 rfl rfl) ?_; refine WP.mv rfl rfl ?_; refine WP.loud rfl rfl ?_; refine Op.buildSlice rfl ty_sl_116 ty_el2_116 rfl rfl rfl rfl (vs := [_]) rfl (segs := [(0, [_])]) (cs := [.slice (some ⟨bs, 0, none⟩) 64 64]) rfl rfl zS (fun bz => ?_)
  refine WP.loud rfl rfl ?_; refine Op.append (m := 1) rfl ty_sl_116 ty_el_116 rfl rfl rfl rfl rfl hop (SlRd.lit zM rfl (Nat.le_refl _)) zT rfl (by omega) (by omega) (fun vq Lq hq => ?_)
  try simp only [nf]
  obtain ⟨Aq, cq, rfl, hcq⟩ := hq.slice
  refine WP.vl rfl (Yld.nilCheck rfl rfl) ?_; refine WP.vl rfl (Yld.fieldAddr rfl ty_fd_119_0 rfl) ?_; refine WP.loud rfl rfl ?_; refine Op.s1 rfl rfl ty_sz_116 rfl rfl rfl ?_; refine WP.nil ?_; refine WP.sub [(0, _), (4, _), (5, _), (6, _), (17, _)] ?_ ⟨rfl, rfl, rfl, rfl, rfl, trivial⟩
  refine WP.leave (WP.next ?_)
  refine WP.region [0, 1, 2] rfl ?_; refine WP.mv rfl rfl ?_; refine WP.vl rfl (Yld.add64 rfl rfl rfl (by omega)) ?_; refine WP.mv rfl rfl ?_; refine WP.nil ?_; refine WP.sub [(0, _), (4, _), (5, _), (6, _), (17, _)] ?_ ⟨rfl, rfl, rfl, rfl, rfl, trivial⟩
  exact WP.ag ⟨i + 1, ps ++ [.slice (some ⟨bs, 0, none⟩) 64 64], .slice Aq (i + 1) cq, Lq⟩ ⟨(show i + 1 ≤ n by omega), hq⟩ (show n - (i + 1) < n - i by omega) ⟨rfl, rfl, rfl, trivial⟩ rfl
 ·obtain rfl : i = n := by omega
  refine WP.nil ?_; refine WP.sub [(0, _), (4, _), (5, _), (17, _)] ?_ ⟨rfl, rfl, rfl, rfl, trivial⟩
  refine WP.next ?_; refine WP.condF rfl ?_; refine WP.exit (WP.thenE (WP.thenE (WP.hit (WP.next (WP.seq ?_)))))
  refine WP.region [0, 1, 2] rfl ?_; iterate 3 refine WP.mv rfl rfl ?_
  refine WP.nil ?_; refine WP.sub [(0, _), (2, _), (3, _), (4, _), (5, _), (17, _)] ?_ ⟨rfl, rfl, rfl, rfl, rfl, rfl, trivial⟩
  refine WP.next (WP.ret ?_)
  refine WP.fn .ret (.inr rfl) (res2 rfl rfl rfl) ((r, row 119 [.slice Ap i cp, .slice none 0 0, .int .i64 (-1), .bool false, .int .i64 0, .int .i64 0]) :: (Lp ++ [])) (Imm.le_refl _) ?_; exact ⟨rfl, r, Ap, cp, _, rfl, rfl⟩

theorem ref7_Slots {I : Imm} {r n c : Nat} {A : Option Addr} (h1 : 136 ≤ n) (h2 : n ≤ 8192) : Spec Tryz.prog 50 [.pointer (some ⟨r, 0, none⟩)] I [(r, row 119 [.slice A n c, .slice none 0 0, .int .i64 (-1), .bool false, .int .i64 0, .int .i64 0])] (fun v J L => v = .int .i64 (((n - 8) / 32 : Nat) : Int) ∧ I = J ∧ L = [(r, row 119 [.slice A n c, .slice none 0 0, .int .i64 (-1), .bool false, .int .i64 0, .int .i64 0])]) := by
 refine Spec.of Tryz.func50 rfl Tryz.ntmps50 (Nat.le_of_ble_eq_true rfl) (fun F => ?_)
 try simp only [nf]
 dsimp only [argsEnv]
 refine WP.seq ?_; refine WP.region [0] rfl ?_; refine WP.mv rfl rfl ?_; refine WP.nil (WP.next (WP.seq ?_))
 refine WP.region [0, 1, 2, 3, 4, 5, 6] rfl ?_; refine WP.mv rfl rfl ?_; refine WP.vl rfl (Yld.nilCheck rfl rfl) ?_; refine WP.vl rfl (Yld.fieldAddr rfl ty_fd_119_0 rfl) ?_; refine WP.vl rfl (Yld.ld rfl ty_sc_116 rfl rfl) ?_; refine WP.vl rfl (Yld.len rfl ty_sl_116 rfl) ?_; refine WP.vl rfl (Yld.sub64 rfl rfl rfl (by omega)) ?_; refine WP.mv rfl rfl ?_; refine WP.nil ?_; refine WP.sub [(0, _), (2, _), (3, _)] ?_ ⟨rfl, rfl, rfl, trivial⟩
 refine WP.next (WP.seq (WP.seq ?_))
 refine WP.region [0, 1] rfl ?_; refine WP.mv rfl rfl ?_; refine WP.vl rfl (Yld.lss rfl rfl rfl false (decide_eq_false (by omega))) ?_; refine WP.nil ?_; refine WP.sub [(0, _), (2, _), (3, _), (11, _)] ?_ ⟨rfl, rfl, rfl, rfl, trivial⟩
 refine WP.next ?_; refine WP.condF rfl ?_; refine WP.skip (WP.next (WP.seq ?_))
 refine WP.region [0, 1, 2] rfl ?_; refine WP.mv rfl rfl ?_; refine WP.vl rfl (Yld.quo64 rfl rfl rfl (by omega)) ?_; rw [show ((n : Int) - 8) / 32 = (((n - 8) / 32 : Nat) : Int) by omega]
 refine WP.mv rfl rfl ?_; refine WP.nil ?_; refine WP.sub [(0, _), (2, _), (3, _), (11, _)] ?_ ⟨rfl, rfl, rfl, rfl, trivial⟩
 refine WP.next (WP.ret ?_)
 refine WP.fn .ret (.inr rfl) (res1 rfl rfl) [(r, row 119 [.slice A n c, .slice none 0 0, .int .i64 (-1), .bool false, .int .i64 0, .int .i64 0])] (Imm.le_refl _) ?_; exact ⟨rfl, rfl, rfl⟩

theorem ref7_New {I : Imm} {r n c : Nat} {A : Option Addr} (h1 : 136 ≤ n) (h2 : n ≤ 8192) {f e : Nat} (h3 : f ≤ e) (h4 : e ≤ 68719476736) (h5 : e - f ≤ (n - 8) / 32) : Spec Tryz.prog 40 [.pointer (some ⟨r, 0, none⟩), .int .i64 (f : Int), .int .i64 (e : Int)] I [(r, row 119 [.slice A n c, .slice none 0 0, .int .i64 (-1), .bool false, .int .i64 0, .int .i64 0])] (fun v J L => I = J ∧ ∃ t, v = .tuple #[.pointer (some ⟨t, 0, none⟩), .int .i64 0] ∧ L = (t, row 125 [.pointer (some ⟨r, 0, none⟩), .int .i64 (f : Int), .int .i64 (e : Int)]) :: [(r, row 119 [.slice A n c, .slice none 0 0, .int .i64 (-1), .bool false, .int .i64 0, .int .i64 0])]) := by
 refine Spec.of Tryz.func40 rfl Tryz.ntmps40 (Nat.le_of_ble_eq_true rfl) (fun F => ?_)
 try simp only [nf]
 dsimp only [argsEnv]
 refine WP.seq ?_; refine WP.region [0, 1] rfl ?_; iterate 2 refine WP.mv rfl rfl ?_
 refine WP.nil (WP.next (WP.seq (WP.seq ?_)))
 refine WP.region [0, 1, 2, 3, 4, 5, 6, 7, 8, 9, 10, 11, 12, 13, 14, 15, 16, 17, 18, 19, 20, 21, 22, 23] rfl ?_; refine WP.mv rfl rfl ?_; refine WP.loud rfl rfl ?_; refine Op.cl (ref7_Slots (A := A) (c := c) h1 h2) rfl Tryz.func50 rfl rfl rfl rfl ?_; rintro v J L1 - ⟨rfl, rfl, rfl⟩
 try simp only [nf]
 refine WP.vl rfl (Yld.lss rfl rfl rfl false (decide_eq_false (by omega))) ?_; refine WP.mv rfl rfl ?_; refine WP.valG rfl rfl rfl rfl rfl rfl rfl (Yld.move rfl rfl) ?_; refine WP.valG rfl rfl rfl rfl rfl rfl rfl (Yld.lss rfl rfl rfl false (decide_eq_false (by omega))) ?_; refine WP.vl rfl (Yld.pickF rfl rfl rfl) ?_; refine WP.mv rfl rfl ?_; iterate 2 refine WP.valG rfl rfl rfl rfl rfl rfl rfl (Yld.move rfl rfl) ?_
 refine WP.valG rfl rfl rfl rfl rfl rfl rfl (Yld.lss rfl rfl rfl false (decide_eq_false (by omega))) ?_; refine WP.vl rfl (Yld.pickF rfl rfl rfl) ?_; refine WP.mv rfl rfl ?_; refine WP.valG rfl rfl rfl rfl rfl rfl rfl (Yld.move rfl rfl) ?_; refine WP.valG rfl rfl rfl rfl rfl rfl rfl (Yld.gtr rfl rfl rfl false (decide_eq_false (by omega))) ?_; refine WP.vl rfl (Yld.pickF rfl rfl rfl) ?_; refine WP.mv rfl rfl ?_; iterate 2 refine WP.valG rfl rfl rfl rfl rfl rfl rfl (Yld.move rfl rfl) ?_
 refine WP.valG rfl rfl rfl rfl rfl rfl rfl (Yld.sub64 rfl rfl rfl (by omega)) ?_; refine WP.valG rfl rfl rfl rfl rfl rfl rfl (Yld.move rfl rfl) ?_; refine WP.loudG rfl rfl rfl rfl rfl ?_; refine Op.cl (ref7_Slots (A := A) (c := c) h1 h2) rfl Tryz.func50 rfl rfl rfl rfl ?_; rintro v J L1 - ⟨rfl, rfl, rfl⟩
 try simp only [nf]
 refine WP.valG rfl rfl rfl rfl rfl rfl rfl (Yld.gtr rfl rfl rfl false (decide_eq_false (by omega))) ?_; refine WP.vl rfl (Yld.pickF rfl rfl rfl) ?_; refine WP.nil ?_; refine WP.sub [(0, _), (1, _), (2, _), (6, _), (7, _), (31, _)] ?_ ⟨rfl, rfl, rfl, rfl, rfl, rfl, trivial⟩
 refine WP.next ?_; refine WP.condF rfl ?_; refine WP.skip (WP.next (WP.seq ?_))
 refine WP.region [0, 1, 2, 3, 4, 5, 6] rfl ?_; iterate 3 refine WP.mv rfl rfl ?_
 refine WP.vl rfl (Yld.buildS (pl := [(0, 0, 1), (1, 1, 1), (2, 2, 1)]) rfl ty_zr_125 ty_zd_125 zK rfl (vs := [_, _, _]) rfl (segs := [(0, [_]), (1, [_]), (2, [_])]) rfl rfl zS) ?_; refine WP.loud rfl rfl ?_; refine Op.box rfl rfl rfl rfl rfl (fun t => ?_)
 iterate 2 refine WP.mv rfl rfl ?_
 refine WP.nil ?_; refine WP.sub [(0, _), (1, _), (2, _), (6, _), (7, _), (31, _)] ?_ ⟨rfl, rfl, rfl, rfl, rfl, rfl, trivial⟩
 refine WP.next (WP.ret ?_)
 refine WP.fn .ret (.inr rfl) (res2 rfl rfl rfl) ((t, row 125 [.pointer (some ⟨r, 0, none⟩), .int .i64 (f : Int), .int .i64 (e : Int)]) :: [(r, row 119 [.slice A n c, .slice none 0 0, .int .i64 (-1), .bool false, .int .i64 0, .int .i64 0])]) (Imm.le_refl _) ?_; exact ⟨rfl, t, rfl, rfl⟩

theorem ref8_Open {I : Imm} {r t n c : Nat} {A : Option Addr} (h1 : 136 ≤ n) (h2 : n ≤ 8192) {f e hn hp : Nat} {era : Int} (h3 : hn ≤ 1099511627776) (h4 : f * 8 ≤ hp) (h5 : hp ≤ (f + (n - 8) / 32) * 8) (h6 : f ≤ 68719476736) (he : 1 ≤ era ∧ era ≤ 4294967295) : Spec Tryz.prog 42 [.pointer (some ⟨t, 0, none⟩), .agg #[.int .i64 (hn : Int), .int .i64 (hp : Int)], .int .i64 era] I ((t, row 125 [.pointer (some ⟨r, 0, none⟩), .int .i64 (f : Int), .int .i64 (e : Int)]) :: [(r, row 119 [.slice A n c, .slice none 0 0, .int .i64 (-1), .bool false, .int .i64 0, .int .i64 0])]) (fun v J L => I = J ∧ ∃ m, v = .tuple #[.pointer (some ⟨m, 0, none⟩), .int .i64 0] ∧ L = []) := by
 refine Spec.of Tryz.func42 rfl Tryz.ntmps42 (Nat.le_of_ble_eq_true rfl) (fun F => ?_)
 try simp only [nf]
 dsimp only [argsEnv]
 refine WP.seq ?_; refine WP.region [0, 1, 2] rfl ?_; refine WP.loud rfl rfl ?_; refine Op.box rfl rfl rfl rfl rfl (fun b4 => ?_)
 iterate 2 refine WP.mv rfl rfl ?_
 refine WP.nil (WP.next (WP.seq (WP.seq ?_)))
 refine WQ.startAll Tryzmixed zK _ rfl ?_; refine WQ.val rfl rfl rfl (Yld.fieldAddr rfl ty_fd_80_0 rfl) ?_; refine WQ.val rfl rfl rfl (Yld.ld (v := .int .i64 (hn : Int)) rfl ty_sc_3 rfl rfl) ?_; refine WQ.val rfl rfl rfl (Yld.lss rfl rfl rfl false (decide_eq_false (by omega))) ?_; refine WQ.val rfl rfl rfl (Yld.move rfl rfl) ?_; refine WQ.valG rfl rfl rfl rfl rfl rfl (Yld.fieldAddr rfl ty_fd_80_0 rfl) ?_; refine WQ.valG rfl rfl rfl rfl rfl rfl (Yld.ld (v := .int .i64 (hn : Int)) rfl ty_sc_3 rfl rfl) ?_; refine WQ.valG rfl rfl rfl rfl rfl rfl (Yld.gtr rfl rfl rfl false (decide_eq_false (by omega))) ?_; refine WQ.val rfl rfl rfl (Yld.pickF rfl rfl rfl) ?_; refine WQ.val rfl rfl rfl (Yld.move rfl rfl) ?_; refine WQ.valG rfl rfl rfl rfl rfl rfl (Yld.fieldAddr rfl ty_fd_80_1 rfl) ?_; refine WQ.valG rfl rfl rfl rfl rfl rfl (Yld.ld (v := .int .i64 (hp : Int)) rfl ty_sc_3 rfl rfl) ?_; refine WQ.valG rfl rfl rfl rfl rfl rfl (Yld.move rfl rfl) ?_; refine WQ.valG rfl rfl rfl rfl rfl rfl (Yld.nilCheck rfl rfl) ?_; refine WQ.valG rfl rfl rfl rfl rfl rfl (Yld.fieldAddr rfl ty_fd_125_1 rfl) ?_; refine WQ.valG rfl rfl rfl rfl rfl rfl (Yld.ld (v := .int .i64 (f : Int)) rfl ty_sc_3 rfl rfl) ?_; refine WQ.valG rfl rfl rfl rfl rfl rfl (Yld.mul64 rfl rfl rfl (by omega)) ?_; refine WQ.valG rfl rfl rfl rfl rfl rfl (Yld.lss rfl rfl rfl false (decide_eq_false (by omega))) ?_; refine WQ.val rfl rfl rfl (Yld.pickF rfl rfl rfl) ?_; refine WQ.val rfl rfl rfl (Yld.move rfl rfl) ?_; refine WQ.valG rfl rfl rfl rfl rfl rfl (Yld.fieldAddr rfl ty_fd_80_1 rfl) ?_
 refine WQ.valG rfl rfl rfl rfl rfl rfl (Yld.ld (v := .int .i64 (hp : Int)) rfl ty_sc_3 rfl rfl) ?_; refine WQ.valG rfl rfl rfl rfl rfl rfl (Yld.move rfl rfl) ?_; refine WQ.valG rfl rfl rfl rfl rfl rfl (Yld.nilCheck rfl rfl) ?_; refine WQ.valG rfl rfl rfl rfl rfl rfl (Yld.fieldAddr rfl ty_fd_125_1 rfl) ?_; refine WQ.valG rfl rfl rfl rfl rfl rfl (Yld.ld (v := .int .i64 (f : Int)) rfl ty_sc_3 rfl rfl) ?_; refine WQ.valG rfl rfl rfl rfl rfl rfl (Yld.move rfl rfl) ?_; refine WQ.valG rfl rfl rfl rfl rfl rfl (Yld.nilCheck rfl rfl) ?_; refine WQ.valG rfl rfl rfl rfl rfl rfl (Yld.fieldAddr rfl ty_fd_125_0 rfl) ?_; refine WQ.valG rfl rfl rfl rfl rfl rfl (Yld.ld (v := .pointer (some ⟨r, 0, none⟩)) rfl ty_sc_44 rfl rfl) ?_; refine WQ.callG (ref7_Slots (A := A) (c := c) h1 h2) (by rintro v' J L1 ⟨rfl, rfl, rfl⟩; exact ⟨rfl, rfl, rfl⟩) rfl Tryz.func50 rfl rfl rfl rfl rfl rfl rfl rfl zT ?_; refine WQ.valG rfl rfl rfl rfl rfl rfl (Yld.add64 rfl rfl rfl (by omega)) ?_; refine WQ.valG rfl rfl rfl rfl rfl rfl (Yld.mul64 rfl rfl rfl (by omega)) ?_; refine WQ.valG rfl rfl rfl rfl rfl rfl (Yld.gtr rfl rfl rfl false (decide_eq_false (by omega))) ?_; refine WQ.val rfl rfl rfl (Yld.pickF rfl rfl rfl) ?_; refine WQ.val rfl rfl rfl (Yld.move rfl rfl) ?_; refine WQ.valG rfl rfl rfl rfl rfl rfl (Yld.move rfl rfl) ?_; refine WQ.valG rfl rfl rfl rfl rfl rfl (Yld.lss rfl rfl rfl false (decide_eq_false (by omega))) ?_; refine WQ.val rfl rfl rfl (Yld.pickF rfl rfl rfl) ?_; refine WQ.val rfl rfl rfl (Yld.move rfl rfl) ?_
 refine WQ.valG rfl rfl rfl rfl rfl rfl (Yld.move rfl rfl) ?_; refine WQ.valG rfl rfl rfl rfl rfl rfl (Yld.gtr rfl rfl rfl false (decide_eq_false (by omega))) ?_; refine WQ.val rfl rfl rfl (Yld.pickF rfl rfl rfl) ?_; refine WQ.nil ?_; refine WP.sub [(0, _), (1, _), (2, _), (4, _), (6, _), (7, _), (49, _)] ?_ ⟨rfl, rfl, rfl, rfl, rfl, rfl, rfl, trivial⟩
 refine WP.next ?_; refine WP.condF rfl ?_; refine WP.skip (WP.next (WP.seq ?_))
 refine WP.region [0, 1, 2, 3, 4, 5, 6, 7, 8, 9, 10, 11, 12, 13] rfl ?_; iterate 2 refine WP.mv rfl rfl ?_
 refine WP.vl rfl (Yld.fieldAddr rfl ty_fd_80_0 rfl) ?_; refine WP.vl rfl (Yld.ld (v := .int .i64 (hn : Int)) rfl ty_sc_3 rfl rfl) ?_; iterate 2 refine WP.vl rfl (Yld.ldg (vs := [.int .i64 (hn : Int), .int .i64 (hp : Int)]) rfl ty_ag_80 rfl rfl rfl) ?_
 refine WP.vl rfl (Yld.fieldAddr rfl ty_fd_80_0 rfl) ?_; refine WP.vl rfl (Yld.ld (v := .int .i64 (hn : Int)) rfl ty_sc_3 rfl rfl) ?_; refine WP.vl rfl (Yld.fieldAddr rfl ty_fd_80_1 rfl) ?_; refine WP.vl rfl (Yld.ld (v := .int .i64 (hp : Int)) rfl ty_sc_3 rfl rfl) ?_; refine WP.vl rfl (Yld.buildS (pl := [(0, 0, 1), (1, 1, 1), (2, 2, 1), (4, 4, 2), (5, 6, 2), (6, 8, 1), (7, 9, 1)]) rfl ty_zr_131 ty_zd_131 zK rfl (vs := [_, _, _, _, _, _, _]) rfl (segs := [(0, [_]), (1, [_]), (2, [_]), (4, [_, _]), (6, [_, _]), (8, [_]), (9, [_])]) rfl rfl (.one .zero (.one (.succ .zero) (.one (.succ (.succ .zero)) (.seg (Nat.le_of_ble_eq_true rfl) rfl (.seg (Nat.le_of_ble_eq_true rfl) rfl (.one (.succ (.succ (.succ (.succ (.succ (.succ (.succ (.succ .zero)))))))) (.one (.succ (.succ (.succ (.succ (.succ (.succ (.succ (.succ (.succ .zero))))))))) .nil)))))))) ?_; refine WP.loud rfl rfl ?_; refine Op.box rfl rfl rfl rfl rfl (fun m => ?_)
 iterate 2 refine WP.mv rfl rfl ?_
 refine WP.nil ?_; refine WP.sub [(0, _), (1, _), (2, _), (4, _), (6, _), (7, _), (49, _)] ?_ ⟨rfl, rfl, rfl, rfl, rfl, rfl, rfl, trivial⟩
 refine WP.next (WP.ret ?_)
 refine WP.fn .ret (.inr rfl) (res2 rfl rfl rfl) [] (Imm.le_refl _) ?_; exact ⟨rfl, m, rfl, rfl⟩


def bigTy (P : Program) (t n : Nat) : Bool := match P.info? t with
 | some i => (match i.zero with | some z => Nat.beq z.cells.size n | none => false)
 | none => false
theorem bigTy_ok {P : Program} {t n : Nat} (h : bigTy P t n = true) : ∃ zs, zeroTy P t zs ∧ zs.length = n := by
 unfold bigTy at h
 cases hi : P.info? t with
 | none => rw [hi] at h; cases h
 | some i =>
  rw [hi] at h
  dsimp only at h
  cases hz : i.zero with
  | none => rw [hz] at h; cases h
  | some z =>
   rw [hz] at h
   exact ⟨z.cells.toList, ⟨i, z, hi, hz, by simp⟩, by simpa using h⟩
set_option maxRecDepth 100000 in
theorem big_r9 : bigTy Tryz.prog 156 5138 = true := by kernel_rfl
theorem set_two {zs : List Value} (h : zs.length = 5138) (u v : Value) : ∃ cs, SetSeg zs [(5130, [u]), (5131, [v])] cs := by
 have h1 : (zs.take 5130 ++ [u] ++ zs.drop (5130 + 1)).length = 5138 := by simp [h]
 exact ⟨_, .seg (by rw [h]; exact (by decide : 5131 ≤ 5138)) rfl (.seg (Nat.le_trans (by exact (by decide : 5132 ≤ 5138)) (Nat.le_of_eq h1.symm)) rfl .nil)⟩
theorem ref9_New {I : Imm} : Spec Tryz.prog 44 [] I [] (fun v J L => I = J ∧ ∃ r, v = .pointer (some ⟨r, 0, none⟩) ∧ L = []) := by
 obtain ⟨zs, hzs, hzl⟩ := bigTy_ok big_r9
 obtain ⟨cs, hseg⟩ := set_two hzl (.int .i64 1) (.int .i64 16)
 refine Spec.of Tryz.func44 rfl Tryz.ntmps44 (Nat.le_of_ble_eq_true rfl) (fun F => ?_)
 try simp only [nf]
 dsimp only [argsEnv]
 refine WP.seq ?_; refine WP.region [0] rfl ?_; refine WP.mv rfl rfl ?_; refine WP.nil (WP.next (WP.seq ?_))
 refine WP.region [0, 1, 2] rfl ?_; refine WP.vl rfl (Yld.buildS (pl := [(2, 5130, 1), (3, 5131, 1)]) rfl hzs ty_zd_156 zK rfl (vs := [_, _]) rfl (segs := [(5130, [_]), (5131, [_])]) rfl rfl hseg) ?_; refine WP.loud rfl rfl ?_; refine Op.box rfl rfl rfl rfl rfl (fun r => ?_)
 refine WP.mv rfl rfl ?_; refine WP.nil ?_; refine WP.sub [(0, _)] ?_ ⟨rfl, trivial⟩
 refine WP.next (WP.ret ?_)
 refine WP.fn .ret (.inr rfl) (res1 rfl rfl) [] (Imm.le_refl _) ?_; exact ⟨rfl, r, rfl, rfl⟩

theorem txn_Begun {I : Imm} {m : Nat} (hm : 4 ≤ m) (hm2 : m ≤ 60) : Spec Tryz.prog 28 [.int .i64 (m : Int)] I [] (fun v J L => I = J ∧ ∃ x d s l t q rt rm r9 tb Ll Lt, v = .pointer (some ⟨x, 0, none⟩) ∧ L = (x, row 49 [.pointer (some ⟨d, 0, none⟩), .pointer (some ⟨s, 0, none⟩), .pointer (some ⟨l, 0, none⟩), .pointer (some ⟨t, 0, none⟩), .pointer (some ⟨q, 0, none⟩), .pointer (some ⟨rt, 0, none⟩), .pointer (some ⟨rm, 0, none⟩), .pointer (some ⟨r9, 0, none⟩)]) :: (Ll ++ Lt) ∧ IsLog J l s d (8 + 32 * m) (⟨1, ⟨m, 1, 1⟩, 0, 8, [], 0, 0, 8⟩ : Lg) (Dk.new (8 + 32 * m)) Ll ∧ IsT J t tb Lt ∧ tb.tok = 0 ∧ tb.next = 1 ∧ tb.size = 16 ∧ ∀ p, tb.get p = none) := by
 refine Spec.of Tryz.func28 rfl Tryz.ntmps28 (Nat.le_of_ble_eq_true rfl) (fun F => ?_)
 try simp only [nf]
 dsimp only [argsEnv]
 refine WP.seq ?_; refine WP.region [0] rfl ?_; refine WP.mv rfl rfl ?_; refine WP.nil (WP.next (WP.seq (WP.seq ?_)))
 refine WP.region [0, 1, 2, 3, 4, 5] rfl ?_; refine WP.mv rfl rfl ?_; refine WP.vl rfl (Yld.lss rfl rfl rfl false (decide_eq_false (by omega))) ?_; refine WP.mv rfl rfl ?_; refine WP.valG rfl rfl rfl rfl rfl rfl rfl (Yld.move rfl rfl) ?_; refine WP.valG rfl rfl rfl rfl rfl rfl rfl (Yld.gtr rfl rfl rfl false (decide_eq_false (by omega))) ?_; refine WP.vl rfl (Yld.pickF rfl rfl rfl) ?_; refine WP.nil ?_; refine WP.sub [(0, _), (2, _), (21, _)] ?_ ⟨rfl, rfl, rfl, trivial⟩
 refine WP.next ?_; refine WP.condF rfl ?_; refine WP.skip (WP.next (WP.seq ?_))
 refine WP.region [0, 1, 2, 3, 4, 5, 6, 7, 8] rfl ?_; refine WP.mv rfl rfl ?_; refine WP.vl rfl (Yld.mul64 rfl rfl rfl (by omega)) ?_; refine WP.vl rfl (Yld.add64 rfl rfl rfl (by omega)) ?_; rw [show (8 : Int) + 32 * (m : Int) = ((8 + 32 * m : Nat) : Int) by omega]
 refine WP.loud rfl rfl ?_; refine Op.cl (disk_New (n := 8 + 32 * m) (by omega) (by omega)) rfl Tryz.func37 rfl rfl rfl rfl ?_; rintro v J Ld - ⟨rfl, d, rfl, hd⟩
 try simp only [nf]
 refine WP.mv rfl rfl ?_; iterate 2 refine WP.vl rfl (Yld.extract rfl rfl rfl) ?_
 iterate 2 refine WP.mv rfl rfl ?_
 refine WP.nil ?_; refine WP.sub [(0, _), (2, _), (3, _), (4, _), (21, _)] ?_ ⟨rfl, rfl, rfl, rfl, rfl, trivial⟩
 refine WP.next (WP.seq ?_)
 refine WP.region [0, 1, 2, 3, 4, 5, 6, 7, 8] rfl ?_; refine WP.mv rfl rfl ?_; refine WP.vl rfl (Yld.mul64 rfl rfl rfl (by omega)) ?_; refine WP.vl rfl (Yld.add64 rfl rfl rfl (by omega)) ?_; rw [show (8 : Int) + 32 * (m : Int) = ((8 + 32 * m : Nat) : Int) by omega]
 refine WP.loud rfl rfl ?_; refine Op.cl (ref3_New (n := 8 + 32 * m) (by omega) (by omega)) rfl Tryz.func38 rfl rfl rfl rfl ?_; rintro v J L1 - ⟨rfl, q, A, c, Lq, rfl, rfl⟩
 try simp only [nf]
 refine WP.mv rfl rfl ?_; iterate 2 refine WP.vl rfl (Yld.extract rfl rfl rfl) ?_
 iterate 2 refine WP.mv rfl rfl ?_
 refine WP.nil ?_; refine WP.sub [(0, _), (2, _), (3, _), (4, _), (5, _), (21, _)] ?_ ⟨rfl, rfl, rfl, rfl, rfl, rfl, trivial⟩
 refine WP.next (WP.seq (WP.seq ?_))
 refine WP.region [0, 1, 2, 3, 4, 5] rfl ?_; refine WP.mv rfl rfl ?_; refine WP.vl rfl (Yld.eqlNil rfl ty_pt_40 rfl rfl) ?_; refine WP.mv rfl rfl ?_; refine WP.valG rfl rfl rfl rfl rfl rfl rfl (Yld.move rfl rfl) ?_; refine WP.valG rfl rfl rfl rfl rfl rfl rfl (Yld.neq rfl rfl rfl false (decide_eq_false (by simp))) ?_; refine WP.vl rfl (Yld.pickF rfl rfl rfl) ?_; refine WP.nil ?_; refine WP.sub [(0, _), (2, _), (3, _), (4, _), (5, _), (21, _), (41, _)] ?_ ⟨rfl, rfl, rfl, rfl, rfl, rfl, rfl, trivial⟩
 refine WP.next ?_; refine WP.condF rfl ?_; refine WP.skip (WP.next (WP.seq ?_))
 refine WP.region [0, 1, 2, 3, 4, 5, 6] rfl ?_; refine WP.mv rfl rfl ?_; refine WP.loud rfl rfl ?_; refine Op.cl (seg_New_ok (f := 1) (e := 1) hd (by omega) (Nat.le_refl _) (by omega) (by omega)) rfl Tryz.func39 rfl rfl rfl rfl ?_; rintro v J L1 - ⟨rfl, s, rfl, rfl⟩
 try simp only [nf]
 refine WP.mv rfl rfl ?_; iterate 2 refine WP.vl rfl (Yld.extract rfl rfl rfl) ?_
 iterate 2 refine WP.mv rfl rfl ?_
 refine WP.nil ?_; refine WP.sub [(0, _), (2, _), (3, _), (4, _), (5, _), (7, _), (8, _), (21, _), (41, _)] ?_ ⟨rfl, rfl, rfl, rfl, rfl, rfl, rfl, rfl, rfl, trivial⟩
 refine WP.next (WP.seq ?_)
 refine WP.region [0, 1, 2, 3, 4, 5, 6] rfl ?_; refine WP.mv rfl rfl ?_; refine WP.loud rfl rfl ?_; refine Op.cl (ref7_New (r := q) (n := 8 + 32 * m) (A := A) (c := c) (f := 1) (e := 1) (by omega) (by omega) (Nat.le_refl _) (by omega) (by omega)) rfl Tryz.func40 rfl rfl rfl rfl ?_; rintro v J L1 - ⟨rfl, rt, rfl, rfl⟩
 try simp only [nf]
 refine WP.mv rfl rfl ?_; iterate 2 refine WP.vl rfl (Yld.extract rfl rfl rfl) ?_
 iterate 2 refine WP.mv rfl rfl ?_
 refine WP.nil ?_; refine WP.sub [(0, _), (2, _), (3, _), (4, _), (5, _), (7, _), (8, _), (9, _), (21, _), (41, _)] ?_ ⟨rfl, rfl, rfl, rfl, rfl, rfl, rfl, rfl, rfl, rfl, trivial⟩
 refine WP.next (WP.seq (WP.seq ?_))
 refine WP.region [0, 1, 2, 3, 4, 5] rfl ?_; refine WP.mv rfl rfl ?_; refine WP.vl rfl (Yld.eqlNil rfl ty_pt_41 rfl rfl) ?_; refine WP.mv rfl rfl ?_; refine WP.valG rfl rfl rfl rfl rfl rfl rfl (Yld.move rfl rfl) ?_; refine WP.valG rfl rfl rfl rfl rfl rfl rfl (Yld.neq rfl rfl rfl false (decide_eq_false (by simp))) ?_; refine WP.vl rfl (Yld.pickF rfl rfl rfl) ?_; refine WP.nil ?_; refine WP.sub [(0, _), (2, _), (3, _), (4, _), (5, _), (7, _), (8, _), (9, _), (21, _), (41, _), (57, _)] ?_ ⟨rfl, rfl, rfl, rfl, rfl, rfl, rfl, rfl, rfl, rfl, rfl, trivial⟩
 refine WP.next ?_; refine WP.condF rfl ?_; refine WP.skip (WP.next (WP.seq ?_))
 refine WP.region [0, 1, 2, 3, 4, 5, 6, 7, 8] rfl ?_; iterate 2 refine WP.mv rfl rfl ?_
 refine WP.vl rfl (Yld.buildS (pl := [(1, 1, 1)]) rfl ty_zr_80 ty_zd_80 zK rfl (vs := [_]) rfl (segs := [(1, [_])]) rfl rfl zS) ?_; refine WP.loud rfl rfl ?_; refine Op.cl (log_Open (s := s) (g := ⟨(8 + 32 * m - 8) / 32, 1, 1⟩) (hn := 0) (hp := 8) (era := 1) hd ⟨(show 4 ≤ (8 + 32 * m - 8) / 32 by omega), (show (8 + 32 * m - 8) / 32 * 32 + 8 ≤ 8 + 32 * m by omega), Nat.le_refl _, (show 1 ≤ 1099511627776 by omega)⟩ (by omega) (by show 1 * 8 ≤ 8; decide) (by show 8 ≤ (1 + (8 + 32 * m - 8) / 32) * 8; omega) ⟨by decide, by decide⟩ (by show 1 ≤ 68719476736; decide) (Nat.le_add_right _ _)) rfl Tryz.func41 rfl rfl rfl rfl ?_; rintro v J Ll - ⟨rfl, l, rfl, hl⟩
 try simp only [nf]
 refine WP.mv rfl rfl ?_; iterate 2 refine WP.vl rfl (Yld.extract rfl rfl rfl) ?_
 iterate 2 refine WP.mv rfl rfl ?_
 refine WP.nil ?_; refine WP.sub [(0, _), (2, _), (3, _), (4, _), (5, _), (7, _), (8, _), (9, _), (11, _), (12, _), (21, _), (41, _), (57, _)] ?_ ⟨rfl, rfl, rfl, rfl, rfl, rfl, rfl, rfl, rfl, rfl, rfl, rfl, rfl, trivial⟩
 refine WP.next (WP.seq ?_)
 refine WP.region [0, 1, 2, 3, 4, 5, 6, 7] rfl ?_; refine WP.mv rfl rfl ?_; refine WP.vl rfl (Yld.buildS (pl := [(1, 1, 1)]) rfl ty_zr_80 ty_zd_80 zK rfl (vs := [_]) rfl (segs := [(1, [_])]) rfl rfl zS) ?_; refine WP.loud rfl rfl ?_; refine Op.cl (ref8_Open (r := q) (t := rt) (n := 8 + 32 * m) (A := A) (c := c) (f := 1) (e := 1) (hn := 0) (hp := 8) (era := 1) (by omega) (by omega) (by omega) (by omega) (by omega) (by omega) ⟨by decide, by decide⟩) rfl Tryz.func42 rfl rfl rfl rfl ?_; rintro v J L1 - ⟨rfl, rm, rfl, rfl⟩
 try simp only [nf]
 refine WP.mv rfl rfl ?_; iterate 2 refine WP.vl rfl (Yld.extract rfl rfl rfl) ?_
 iterate 2 refine WP.mv rfl rfl ?_
 refine WP.nil ?_; refine WP.sub [(0, _), (2, _), (3, _), (4, _), (5, _), (7, _), (8, _), (9, _), (11, _), (12, _), (13, _), (21, _), (41, _), (57, _)] ?_ ⟨rfl, rfl, rfl, rfl, rfl, rfl, rfl, rfl, rfl, rfl, rfl, rfl, rfl, rfl, trivial⟩
 refine WP.next (WP.seq ?_)
 refine WP.region [0, 1] rfl ?_; refine WP.loud rfl rfl ?_; refine Op.cl tabT_NewNil rfl Tryz.func43 rfl rfl rfl rfl ?_; rintro v J Lt - ⟨t, tb, rfl, rfl, hT, hk0, hn0, hs0, hg0⟩
 try simp only [nf]
 refine WP.mv rfl rfl ?_; refine WP.nil ?_; refine WP.sub [(0, _), (2, _), (3, _), (4, _), (5, _), (7, _), (8, _), (9, _), (11, _), (12, _), (13, _), (15, _), (21, _), (41, _), (57, _)] ?_ ⟨rfl, rfl, rfl, rfl, rfl, rfl, rfl, rfl, rfl, rfl, rfl, rfl, rfl, rfl, rfl, trivial⟩
 refine WP.next (WP.seq (WP.seq ?_))
 refine WP.region [0, 1, 2, 3, 4, 5, 6, 7, 8, 9] rfl ?_; refine WP.mv rfl rfl ?_; refine WP.vl rfl (Yld.eqlNil rfl ty_pt_42 rfl rfl) ?_; refine WP.mv rfl rfl ?_; refine WP.valG rfl rfl rfl rfl rfl rfl rfl (Yld.move rfl rfl) ?_; refine WP.valG rfl rfl rfl rfl rfl rfl rfl (Yld.eqlNil rfl ty_pt_43 rfl rfl) ?_; refine WP.vl rfl (Yld.pickF rfl rfl rfl) ?_; refine WP.mv rfl rfl ?_; refine WP.valG rfl rfl rfl rfl rfl rfl rfl (Yld.move rfl rfl) ?_; refine WP.valG rfl rfl rfl rfl rfl rfl rfl (Yld.neq rfl rfl rfl false (decide_eq_false (by simp))) ?_; refine WP.vl rfl (Yld.pickF rfl rfl rfl) ?_; refine WP.nil ?_; refine WP.sub [(0, _), (2, _), (3, _), (4, _), (5, _), (7, _), (8, _), (9, _), (11, _), (12, _), (13, _), (15, _), (21, _), (41, _), (57, _), (81, _)] ?_ ⟨rfl, rfl, rfl, rfl, rfl, rfl, rfl, rfl, rfl, rfl, rfl, rfl, rfl, rfl, rfl, rfl, trivial⟩
 refine WP.next ?_; refine WP.condF rfl ?_; refine WP.skip (WP.next (WP.seq ?_))
 refine WP.region [0, 1, 2, 3, 4, 5, 6, 7, 8, 9, 10] rfl ?_; iterate 7 refine WP.mv rfl rfl ?_
 refine WP.loud rfl rfl ?_; refine Op.cl ref9_New rfl Tryz.func44 rfl rfl rfl rfl ?_; rintro v J L1 - ⟨rfl, r9, rfl, rfl⟩
 try simp only [nf]
 refine WP.vl rfl (Yld.buildS (pl := [(0, 0, 1), (1, 1, 1), (2, 2, 1), (3, 3, 1), (4, 4, 1), (5, 5, 1), (6, 6, 1), (7, 7, 1)]) rfl ty_zr_49 ty_zd_49 zK rfl (vs := [_, _, _, _, _, _, _, _]) rfl (segs := [(0, [_]), (1, [_]), (2, [_]), (3, [_]), (4, [_]), (5, [_]), (6, [_]), (7, [_])]) rfl rfl zS) ?_; refine WP.loud rfl rfl ?_; refine Op.box rfl rfl rfl rfl rfl (fun x => ?_)
 refine WP.mv rfl rfl ?_; refine WP.nil ?_; refine WP.sub [(0, _), (2, _), (3, _), (4, _), (5, _), (7, _), (8, _), (9, _), (11, _), (12, _), (13, _), (15, _), (21, _), (41, _), (57, _), (81, _)] ?_ ⟨rfl, rfl, rfl, rfl, rfl, rfl, rfl, rfl, rfl, rfl, rfl, rfl, rfl, rfl, rfl, rfl, trivial⟩
 refine WP.next (WP.ret ?_)
 refine WP.fn .ret (.inr rfl) (res1 rfl rfl) ((x, row 49 [.pointer (some ⟨d, 0, none⟩), .pointer (some ⟨s, 0, none⟩), .pointer (some ⟨l, 0, none⟩), .pointer (some ⟨t, 0, none⟩), .pointer (some ⟨q, 0, none⟩), .pointer (some ⟨rt, 0, none⟩), .pointer (some ⟨rm, 0, none⟩), .pointer (some ⟨r9, 0, none⟩)]) :: (Ll ++ Lt)) (Imm.le_refl _) ?_; rw [show (8 + 32 * m - 8) / 32 = m by omega] at hl
 exact ⟨rfl, x, d, s, l, t, q, rt, rm, r9, tb, Ll, Lt, rfl, rfl, hl, hT, hk0, hn0, hs0, hg0⟩


end Go.Hp
