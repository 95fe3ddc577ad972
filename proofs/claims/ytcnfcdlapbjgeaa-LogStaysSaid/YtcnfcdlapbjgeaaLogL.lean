import Derived.Test.YtcnfcdlapbjgeaaLogK
set_option linter.unusedVariables false
set_option linter.unusedSimpArgs false
namespace Go.Hp
open Go Go.Proofs

structure QX where
 i : Nat
 ps : List Value
 vp : Value
 Lp : Chunks
structure QX.ok (n : Nat) (t : QX) : Prop where
 le : t.i ≤ n
 op : Own 46 1 t.vp t.ps t.i t.Lp
theorem ref3_New {I : Imm} {n : Nat} (h1 : 1 ≤ n) (h2 : n ≤ 8192) : Spec Try.prog 33 [.int .i64 (n : Int)] I [] (fun v J L => I = J ∧ ∃ r A c Lp, v = .tuple #[.pointer (some ⟨r, 0, none⟩), .int .i64 0] ∧ L = (r, row 116 [.slice A n c, .slice none 0 0, .int .i64 (-1), .bool false, .int .i64 0, .int .i64 0]) :: Lp) := by
 refine Spec.of Try.func33 rfl Try.ntmps33 (Nat.le_of_ble_eq_true rfl) (fun F => ?_)
 try simp only [nf]
 dsimp only [argsEnv]
 refine WP.seq ?_
 refine WP.region [0, 1] rfl ?_
 iterate 2 refine WP.mv rfl rfl ?_
 refine WP.nil ?_
 refine WP.next ?_
 refine WP.seq ?_
 refine WP.seq ?_
 refine WP.region [0, 1, 2, 3, 4, 5] rfl ?_
 refine WP.mv rfl rfl ?_
 refine WP.vl rfl (Yld.lss rfl rfl rfl false (decide_eq_false (by omega))) ?_
 refine WP.mv rfl rfl ?_
 refine WP.valG rfl rfl rfl rfl rfl rfl rfl (Yld.move rfl rfl) ?_
 refine WP.valG rfl rfl rfl rfl rfl rfl rfl (Yld.gtr rfl rfl rfl false (decide_eq_false (by omega))) ?_
 refine WP.vl rfl (Yld.pickF rfl rfl rfl) ?_
 refine WP.nil ?_
 refine WP.sub [(0, _), (2, _), (3, _), (12, _)] ?_ ⟨rfl, rfl, rfl, rfl, trivial⟩
 refine WP.next ?_
 refine WP.condF rfl ?_
 refine WP.skip ?_
 refine WP.next ?_
 refine WP.seq ?_
 refine WP.region [0, 1, 2] rfl ?_
 refine WP.vl rfl (Yld.buildS (pl := [(2, 2, 1)]) rfl ty_zr_116 ty_zd_116 (by kernel_rfl) rfl (vs := [_]) rfl (segs := [(2, [_])]) rfl rfl (by repeat (first | exact SetSeg.nil | apply SetSeg.one | exact SetAt.zero | apply SetAt.succ))) ?_
 refine WP.loud rfl rfl ?_
 refine Op.box rfl rfl rfl rfl rfl (fun r => ?_)
 refine WP.mv rfl rfl ?_
 refine WP.nil ?_
 refine WP.sub [(0, _), (2, _), (3, _), (4, _), (12, _)] ?_ ⟨rfl, rfl, rfl, rfl, rfl, trivial⟩
 refine WP.next ?_
 refine WP.seq ?_
 refine WP.seq ?_
 refine WP.region [0] rfl ?_
 refine WP.mv rfl rfl ?_
 refine WP.nil ?_
 refine WP.next ?_
 refine WP.block ?_
 refine WP.loop (X := QX) (fun t : QX => [(0, .int .i64 (n : Int)), (4, .pointer (some ⟨r, 0, none⟩)), (5, .int .i64 (t.i : Int))]) (fun _ => I) (fun t : QX => (r, row 116 [t.vp, .slice none 0 0, .int .i64 (-1), .bool false, .int .i64 0, .int .i64 0]) :: (t.Lp ++ F)) (fun t => t.ok n) (fun t => n - t.i) ⟨0, [], .slice none 0 0, []⟩ ⟨Nat.zero_le _, .none0⟩ ⟨rfl, rfl, rfl, trivial⟩ rfl (by (try dsimp only); repeat (first | exact Rm.chunk | exact Rm.here | exact Rm.nil0 | apply Rm.skip | apply Rm.skipS | apply PX.cons | (apply PX.done; (repeat (first | exact Leave.done | apply Leave.drop | apply Leave.dropS)); done) | apply PX.app)) ?_
 rintro ⟨i, ps, vp, Lp⟩ ⟨hle, hop⟩; dsimp only at hle hop; obtain ⟨Ap, cp, rfl, hcp⟩ := hop.slice
 try dsimp only
 try simp only [nf]
 refine WP.seq ?_
 refine WP.seq ?_
 refine WP.region [0, 1, 2] rfl ?_
 iterate 2 refine WP.mv rfl rfl ?_
 refine WP.split rfl rfl rfl rfl (Yld.lss rfl rfl rfl) (fun hlt => ?_) (fun hlt => ?_)
 ·refine WP.nil ?_
  refine WP.sub [(0, _), (4, _), (5, _), (17, _)] ?_ ⟨rfl, rfl, rfl, rfl, trivial⟩
  refine WP.next ?_
  refine WP.condT rfl ?_
  refine WP.skip ?_
  refine WP.next ?_
  refine WP.seq ?_
  refine WP.block ?_
  refine WP.seq ?_
  refine WP.region [0, 1] rfl ?_
  refine WP.loud rfl rfl ?_
  refine Op.make (l := 64) (c := 64) rfl ty_sl_46 ty_el_46 rfl rfl rfl rfl rfl (Nat.le_refl _) (by decide) (by decide) (fun bs => ?_)
  refine WP.mv rfl rfl ?_
  refine WP.nil ?_
  refine WP.sub [(0, _), (4, _), (5, _), (6, _), (17, _)] ?_ ⟨rfl, rfl, rfl, rfl, rfl, trivial⟩
  refine WP.next ?_
  refine WP.region [0, 1, 2, 3, 4, 5, 6, 7, 8, 9, 10] rfl ?_
  iterate 2 refine WP.mv rfl rfl ?_
  refine WP.vl rfl (Yld.nilCheck rfl rfl) ?_
  refine WP.vl rfl (Yld.fieldAddr rfl ty_fd_116_0 rfl) ?_
  refine WP.vl rfl (Yld.ld rfl ty_sc_22 rfl rfl) ?_
  refine WP.mv rfl rfl ?_
  refine WP.loud rfl rfl ?_
  refine Op.buildSlice rfl ty_sl_22 ty_el2_22 rfl rfl rfl rfl (vs := [_]) rfl (segs := [(0, [_])]) (cs := [.slice (some ⟨bs, 0, none⟩) 64 64]) rfl rfl (by repeat (first | exact SetSeg.nil | apply SetSeg.one | exact SetAt.zero | apply SetAt.succ)) (fun bz => ?_)
  refine WP.loud rfl rfl ?_
  refine Op.append (m := 1) rfl ty_sl_22 ty_el_22 rfl rfl rfl rfl rfl hop (SlRd.lit (by repeat (first | exact There.h | exact There.i (by assumption) | apply There.t | apply There.s)) rfl (Nat.le_refl _)) (by repeat (first | exact Take.nil | with_reducible apply Take.cons | apply Take.app | exact Rm.chunk | exact Rm.here | exact Rm.nil0 | apply Rm.skip | apply Rm.skipS | (focus (apply Take.all; (repeat (first | exact Rm.chunk | exact Rm.here | exact Rm.nil0 | apply Rm.skip | apply Rm.skipS)); done)) | apply Take.cons)) rfl (by omega) (by omega) (fun vq Lq hq => ?_)
  try simp only [nf]
  obtain ⟨Aq, cq, rfl, hcq⟩ := hq.slice
  refine WP.vl rfl (Yld.nilCheck rfl rfl) ?_
  refine WP.vl rfl (Yld.fieldAddr rfl ty_fd_116_0 rfl) ?_
  refine WP.loud rfl rfl ?_
  refine Op.s1 rfl rfl ty_sz_22 rfl rfl rfl ?_
  refine WP.nil ?_
  refine WP.sub [(0, _), (4, _), (5, _), (6, _), (17, _)] ?_ ⟨rfl, rfl, rfl, rfl, rfl, trivial⟩
  refine WP.leave ?_
  refine WP.next ?_
  refine WP.region [0, 1, 2] rfl ?_
  refine WP.mv rfl rfl ?_
  refine WP.vl rfl (Yld.add64 rfl rfl rfl (by omega)) ?_
  refine WP.mv rfl rfl ?_
  refine WP.nil ?_
  refine WP.sub [(0, _), (4, _), (5, _), (6, _), (17, _)] ?_ ⟨rfl, rfl, rfl, rfl, rfl, trivial⟩
  exact WP.ag ⟨i + 1, ps ++ [.slice (some ⟨bs, 0, none⟩) 64 64], .slice Aq (i + 1) cq, Lq⟩ ⟨(show i + 1 ≤ n by omega), hq⟩ (show n - (i + 1) < n - i by omega) ⟨rfl, rfl, rfl, trivial⟩ rfl
 ·obtain rfl : i = n := by omega
  refine WP.nil ?_
  refine WP.sub [(0, _), (4, _), (5, _), (17, _)] ?_ ⟨rfl, rfl, rfl, rfl, trivial⟩
  refine WP.next ?_
  refine WP.condF rfl ?_
  refine WP.exit ?_
  refine WP.thenE ?_
  refine WP.thenE ?_
  refine WP.hit ?_
  refine WP.next ?_
  refine WP.seq ?_
  refine WP.region [0, 1, 2] rfl ?_
  iterate 3 refine WP.mv rfl rfl ?_
  refine WP.nil ?_
  refine WP.sub [(0, _), (2, _), (3, _), (4, _), (5, _), (17, _)] ?_ ⟨rfl, rfl, rfl, rfl, rfl, rfl, trivial⟩
  refine WP.next ?_
  refine WP.ret ?_
  refine WP.fn .ret (.inr rfl) (res2 rfl rfl rfl) ((r, row 116 [.slice Ap i cp, .slice none 0 0, .int .i64 (-1), .bool false, .int .i64 0, .int .i64 0]) :: (Lp ++ [])) (Imm.le_refl _) ?_
  exact ⟨rfl, r, Ap, cp, _, rfl, rfl⟩

theorem ref7_Slots {I : Imm} {r n c : Nat} {A : Option Addr} (h1 : 136 ≤ n) (h2 : n ≤ 8192) : Spec Try.prog 49 [.pointer (some ⟨r, 0, none⟩)] I [(r, row 116 [.slice A n c, .slice none 0 0, .int .i64 (-1), .bool false, .int .i64 0, .int .i64 0])] (fun v J L => v = .int .i64 (((n - 8) / 32 : Nat) : Int) ∧ I = J ∧ L = [(r, row 116 [.slice A n c, .slice none 0 0, .int .i64 (-1), .bool false, .int .i64 0, .int .i64 0])]) := by
 refine Spec.of Try.func49 rfl Try.ntmps49 (Nat.le_of_ble_eq_true rfl) (fun F => ?_)
 try simp only [nf]
 dsimp only [argsEnv]
 refine WP.seq ?_
 refine WP.region [0] rfl ?_
 refine WP.mv rfl rfl ?_
 refine WP.nil ?_
 refine WP.next ?_
 refine WP.seq ?_
 refine WP.region [0, 1, 2, 3, 4, 5, 6] rfl ?_
 refine WP.mv rfl rfl ?_
 refine WP.vl rfl (Yld.nilCheck rfl rfl) ?_
 refine WP.vl rfl (Yld.fieldAddr rfl ty_fd_116_0 rfl) ?_
 refine WP.vl rfl (Yld.ld rfl ty_sc_22 rfl rfl) ?_
 refine WP.vl rfl (Yld.len rfl ty_sl_22 rfl) ?_
 refine WP.vl rfl (Yld.sub64 rfl rfl rfl (by omega)) ?_
 refine WP.mv rfl rfl ?_
 refine WP.nil ?_
 refine WP.sub [(0, _), (2, _), (3, _)] ?_ ⟨rfl, rfl, rfl, trivial⟩
 refine WP.next ?_
 refine WP.seq ?_
 refine WP.seq ?_
 refine WP.region [0, 1] rfl ?_
 refine WP.mv rfl rfl ?_
 refine WP.vl rfl (Yld.lss rfl rfl rfl false (decide_eq_false (by omega))) ?_
 refine WP.nil ?_
 refine WP.sub [(0, _), (2, _), (3, _), (11, _)] ?_ ⟨rfl, rfl, rfl, rfl, trivial⟩
 refine WP.next ?_
 refine WP.condF rfl ?_
 refine WP.skip ?_
 refine WP.next ?_
 refine WP.seq ?_
 refine WP.region [0, 1, 2] rfl ?_
 refine WP.mv rfl rfl ?_
 refine WP.vl rfl (Yld.quo64 rfl rfl rfl (by omega)) ?_
 rw [show ((n : Int) - 8) / 32 = (((n - 8) / 32 : Nat) : Int) by omega]
 refine WP.mv rfl rfl ?_
 refine WP.nil ?_
 refine WP.sub [(0, _), (2, _), (3, _), (11, _)] ?_ ⟨rfl, rfl, rfl, rfl, trivial⟩
 refine WP.next ?_
 refine WP.ret ?_
 refine WP.fn .ret (.inr rfl) (res1 rfl rfl) [(r, row 116 [.slice A n c, .slice none 0 0, .int .i64 (-1), .bool false, .int .i64 0, .int .i64 0])] (Imm.le_refl _) ?_
 exact ⟨rfl, rfl, rfl⟩

theorem ref7_New {I : Imm} {r n c : Nat} {A : Option Addr} (h1 : 136 ≤ n) (h2 : n ≤ 8192) {f e : Nat} (h3 : f ≤ e) (h4 : e ≤ 68719476736) (h5 : e - f ≤ (n - 8) / 32) : Spec Try.prog 34 [.pointer (some ⟨r, 0, none⟩), .int .i64 (f : Int), .int .i64 (e : Int)] I [(r, row 116 [.slice A n c, .slice none 0 0, .int .i64 (-1), .bool false, .int .i64 0, .int .i64 0])] (fun v J L => I = J ∧ ∃ t, v = .tuple #[.pointer (some ⟨t, 0, none⟩), .int .i64 0] ∧ L = (t, row 119 [.pointer (some ⟨r, 0, none⟩), .int .i64 (f : Int), .int .i64 (e : Int)]) :: [(r, row 116 [.slice A n c, .slice none 0 0, .int .i64 (-1), .bool false, .int .i64 0, .int .i64 0])]) := by
 refine Spec.of Try.func34 rfl Try.ntmps34 (Nat.le_of_ble_eq_true rfl) (fun F => ?_)
 try simp only [nf]
 dsimp only [argsEnv]
 refine WP.seq ?_
 refine WP.region [0, 1] rfl ?_
 iterate 2 refine WP.mv rfl rfl ?_
 refine WP.nil ?_
 refine WP.next ?_
 refine WP.seq ?_
 refine WP.seq ?_
 refine WP.region [0, 1, 2, 3, 4, 5, 6, 7, 8, 9, 10, 11, 12, 13, 14, 15, 16, 17, 18, 19, 20, 21, 22, 23] rfl ?_
 refine WP.mv rfl rfl ?_
 refine WP.loud rfl rfl ?_
 refine Op.cl (ref7_Slots (A := A) (c := c) h1 h2) rfl Try.func49 rfl rfl rfl rfl ?_
 rintro v J L1 - ⟨rfl, rfl, rfl⟩
 try simp only [nf]
 refine WP.vl rfl (Yld.lss rfl rfl rfl false (decide_eq_false (by omega))) ?_
 refine WP.mv rfl rfl ?_
 refine WP.valG rfl rfl rfl rfl rfl rfl rfl (Yld.move rfl rfl) ?_
 refine WP.valG rfl rfl rfl rfl rfl rfl rfl (Yld.lss rfl rfl rfl false (decide_eq_false (by omega))) ?_
 refine WP.vl rfl (Yld.pickF rfl rfl rfl) ?_
 refine WP.mv rfl rfl ?_
 refine WP.valG rfl rfl rfl rfl rfl rfl rfl (Yld.move rfl rfl) ?_
 refine WP.valG rfl rfl rfl rfl rfl rfl rfl (Yld.move rfl rfl) ?_
 refine WP.valG rfl rfl rfl rfl rfl rfl rfl (Yld.lss rfl rfl rfl false (decide_eq_false (by omega))) ?_
 refine WP.vl rfl (Yld.pickF rfl rfl rfl) ?_
 refine WP.mv rfl rfl ?_
 refine WP.valG rfl rfl rfl rfl rfl rfl rfl (Yld.move rfl rfl) ?_
 refine WP.valG rfl rfl rfl rfl rfl rfl rfl (Yld.gtr rfl rfl rfl false (decide_eq_false (by omega))) ?_
 refine WP.vl rfl (Yld.pickF rfl rfl rfl) ?_
 refine WP.mv rfl rfl ?_
 refine WP.valG rfl rfl rfl rfl rfl rfl rfl (Yld.move rfl rfl) ?_
 refine WP.valG rfl rfl rfl rfl rfl rfl rfl (Yld.move rfl rfl) ?_
 refine WP.valG rfl rfl rfl rfl rfl rfl rfl (Yld.sub64 rfl rfl rfl (by omega)) ?_
 refine WP.valG rfl rfl rfl rfl rfl rfl rfl (Yld.move rfl rfl) ?_
 refine WP.loudG rfl rfl rfl rfl rfl ?_
 refine Op.cl (ref7_Slots (A := A) (c := c) h1 h2) rfl Try.func49 rfl rfl rfl rfl ?_
 rintro v J L1 - ⟨rfl, rfl, rfl⟩
 try simp only [nf]
 refine WP.valG rfl rfl rfl rfl rfl rfl rfl (Yld.gtr rfl rfl rfl false (decide_eq_false (by omega))) ?_
 refine WP.vl rfl (Yld.pickF rfl rfl rfl) ?_
 refine WP.nil ?_
 refine WP.sub [(0, _), (1, _), (2, _), (6, _), (7, _), (31, _)] ?_ ⟨rfl, rfl, rfl, rfl, rfl, rfl, trivial⟩
 refine WP.next ?_
 refine WP.condF rfl ?_
 refine WP.skip ?_
 refine WP.next ?_
 refine WP.seq ?_
 refine WP.region [0, 1, 2, 3, 4, 5, 6] rfl ?_
 iterate 3 refine WP.mv rfl rfl ?_
 refine WP.vl rfl (Yld.buildS (pl := [(0, 0, 1), (1, 1, 1), (2, 2, 1)]) rfl ty_zr_119 ty_zd_119 (by kernel_rfl) rfl (vs := [_, _, _]) rfl (segs := [(0, [_]), (1, [_]), (2, [_])]) rfl rfl (by repeat (first | exact SetSeg.nil | apply SetSeg.one | exact SetAt.zero | apply SetAt.succ))) ?_
 refine WP.loud rfl rfl ?_
 refine Op.box rfl rfl rfl rfl rfl (fun t => ?_)
 iterate 2 refine WP.mv rfl rfl ?_
 refine WP.nil ?_
 refine WP.sub [(0, _), (1, _), (2, _), (6, _), (7, _), (31, _)] ?_ ⟨rfl, rfl, rfl, rfl, rfl, rfl, trivial⟩
 refine WP.next ?_
 refine WP.ret ?_
 refine WP.fn .ret (.inr rfl) (res2 rfl rfl rfl) ((t, row 119 [.pointer (some ⟨r, 0, none⟩), .int .i64 (f : Int), .int .i64 (e : Int)]) :: [(r, row 116 [.slice A n c, .slice none 0 0, .int .i64 (-1), .bool false, .int .i64 0, .int .i64 0])]) (Imm.le_refl _) ?_
 exact ⟨rfl, t, rfl, rfl⟩

theorem ref8_Open {I : Imm} {r t n c : Nat} {A : Option Addr} (h1 : 136 ≤ n) (h2 : n ≤ 8192) {f e hn hp : Nat} {era : Int} (h3 : hn ≤ 1099511627776) (h4 : f * 8 ≤ hp) (h5 : hp ≤ (f + (n - 8) / 32) * 8) (h6 : f ≤ 68719476736) (he : 1 ≤ era ∧ era ≤ 4294967295) : Spec Try.prog 35 [.pointer (some ⟨t, 0, none⟩), .agg #[.int .i64 (hn : Int), .int .i64 (hp : Int)], .int .i64 era] I ((t, row 119 [.pointer (some ⟨r, 0, none⟩), .int .i64 (f : Int), .int .i64 (e : Int)]) :: [(r, row 116 [.slice A n c, .slice none 0 0, .int .i64 (-1), .bool false, .int .i64 0, .int .i64 0])]) (fun v J L => I = J ∧ ∃ m, v = .tuple #[.pointer (some ⟨m, 0, none⟩), .int .i64 0] ∧ L = []) := by
 refine Spec.of Try.func35 rfl Try.ntmps35 (Nat.le_of_ble_eq_true rfl) (fun F => ?_)
 try simp only [nf]
 dsimp only [argsEnv]
 refine WP.seq ?_
 refine WP.region [0, 1, 2] rfl ?_
 refine WP.loud rfl rfl ?_
 refine Op.box rfl rfl rfl rfl rfl (fun b4 => ?_)
 iterate 2 refine WP.mv rfl rfl ?_
 refine WP.nil ?_
 refine WP.next ?_
 refine WP.seq ?_
 refine WP.seq ?_
 refine WQ.startAll Trymixed (by kernel_rfl) _ rfl ?_
 refine WQ.val rfl rfl rfl (Yld.fieldAddr rfl ty_fd_29_0 rfl) ?_
 refine WQ.val rfl rfl rfl (Yld.ld (v := .int .i64 (hn : Int)) rfl ty_sc_3 rfl rfl) ?_
 refine WQ.val rfl rfl rfl (Yld.lss rfl rfl rfl false (decide_eq_false (by omega))) ?_
 refine WQ.val rfl rfl rfl (Yld.move rfl rfl) ?_
 refine WQ.valG rfl rfl rfl rfl rfl rfl (Yld.fieldAddr rfl ty_fd_29_0 rfl) ?_
 refine WQ.valG rfl rfl rfl rfl rfl rfl (Yld.ld (v := .int .i64 (hn : Int)) rfl ty_sc_3 rfl rfl) ?_
 refine WQ.valG rfl rfl rfl rfl rfl rfl (Yld.gtr rfl rfl rfl false (decide_eq_false (by omega))) ?_
 refine WQ.val rfl rfl rfl (Yld.pickF rfl rfl rfl) ?_
 refine WQ.val rfl rfl rfl (Yld.move rfl rfl) ?_
 refine WQ.valG rfl rfl rfl rfl rfl rfl (Yld.fieldAddr rfl ty_fd_29_1 rfl) ?_
 refine WQ.valG rfl rfl rfl rfl rfl rfl (Yld.ld (v := .int .i64 (hp : Int)) rfl ty_sc_3 rfl rfl) ?_
 refine WQ.valG rfl rfl rfl rfl rfl rfl (Yld.move rfl rfl) ?_
 refine WQ.valG rfl rfl rfl rfl rfl rfl (Yld.nilCheck rfl rfl) ?_
 refine WQ.valG rfl rfl rfl rfl rfl rfl (Yld.fieldAddr rfl ty_fd_119_1 rfl) ?_
 refine WQ.valG rfl rfl rfl rfl rfl rfl (Yld.ld (v := .int .i64 (f : Int)) rfl ty_sc_3 rfl rfl) ?_
 refine WQ.valG rfl rfl rfl rfl rfl rfl (Yld.mul64 rfl rfl rfl (by omega)) ?_
 refine WQ.valG rfl rfl rfl rfl rfl rfl (Yld.lss rfl rfl rfl false (decide_eq_false (by omega))) ?_
 refine WQ.val rfl rfl rfl (Yld.pickF rfl rfl rfl) ?_
 refine WQ.val rfl rfl rfl (Yld.move rfl rfl) ?_
 refine WQ.valG rfl rfl rfl rfl rfl rfl (Yld.fieldAddr rfl ty_fd_29_1 rfl) ?_
 refine WQ.valG rfl rfl rfl rfl rfl rfl (Yld.ld (v := .int .i64 (hp : Int)) rfl ty_sc_3 rfl rfl) ?_
 refine WQ.valG rfl rfl rfl rfl rfl rfl (Yld.move rfl rfl) ?_
 refine WQ.valG rfl rfl rfl rfl rfl rfl (Yld.nilCheck rfl rfl) ?_
 refine WQ.valG rfl rfl rfl rfl rfl rfl (Yld.fieldAddr rfl ty_fd_119_1 rfl) ?_
 refine WQ.valG rfl rfl rfl rfl rfl rfl (Yld.ld (v := .int .i64 (f : Int)) rfl ty_sc_3 rfl rfl) ?_
 refine WQ.valG rfl rfl rfl rfl rfl rfl (Yld.move rfl rfl) ?_
 refine WQ.valG rfl rfl rfl rfl rfl rfl (Yld.nilCheck rfl rfl) ?_
 refine WQ.valG rfl rfl rfl rfl rfl rfl (Yld.fieldAddr rfl ty_fd_119_0 rfl) ?_
 refine WQ.valG rfl rfl rfl rfl rfl rfl (Yld.ld (v := .pointer (some ⟨r, 0, none⟩)) rfl ty_sc_35 rfl rfl) ?_
 refine WQ.callG (ref7_Slots (A := A) (c := c) h1 h2) (by rintro v' J L1 ⟨rfl, rfl, rfl⟩; exact ⟨rfl, rfl, rfl⟩) rfl Try.func49 rfl rfl rfl rfl rfl rfl rfl rfl (by repeat (first | exact Take.nil | with_reducible apply Take.cons | apply Take.app | exact Rm.chunk | exact Rm.here | exact Rm.nil0 | apply Rm.skip | apply Rm.skipS | (focus (apply Take.all; (repeat (first | exact Rm.chunk | exact Rm.here | exact Rm.nil0 | apply Rm.skip | apply Rm.skipS)); done)) | apply Take.cons)) ?_
 refine WQ.valG rfl rfl rfl rfl rfl rfl (Yld.add64 rfl rfl rfl (by omega)) ?_
 refine WQ.valG rfl rfl rfl rfl rfl rfl (Yld.mul64 rfl rfl rfl (by omega)) ?_
 refine WQ.valG rfl rfl rfl rfl rfl rfl (Yld.gtr rfl rfl rfl false (decide_eq_false (by omega))) ?_
 refine WQ.val rfl rfl rfl (Yld.pickF rfl rfl rfl) ?_
 refine WQ.val rfl rfl rfl (Yld.move rfl rfl) ?_
 refine WQ.valG rfl rfl rfl rfl rfl rfl (Yld.move rfl rfl) ?_
 refine WQ.valG rfl rfl rfl rfl rfl rfl (Yld.lss rfl rfl rfl false (decide_eq_false (by omega))) ?_
 refine WQ.val rfl rfl rfl (Yld.pickF rfl rfl rfl) ?_
 refine WQ.val rfl rfl rfl (Yld.move rfl rfl) ?_
 refine WQ.valG rfl rfl rfl rfl rfl rfl (Yld.move rfl rfl) ?_
 refine WQ.valG rfl rfl rfl rfl rfl rfl (Yld.gtr rfl rfl rfl false (decide_eq_false (by omega))) ?_
 refine WQ.val rfl rfl rfl (Yld.pickF rfl rfl rfl) ?_
 refine WQ.nil ?_
 refine WP.sub [(0, _), (1, _), (2, _), (4, _), (6, _), (7, _), (49, _)] ?_ ⟨rfl, rfl, rfl, rfl, rfl, rfl, rfl, trivial⟩
 refine WP.next ?_
 refine WP.condF rfl ?_
 refine WP.skip ?_
 refine WP.next ?_
 refine WP.seq ?_
 refine WP.region [0, 1, 2, 3, 4, 5, 6, 7, 8, 9, 10, 11, 12, 13] rfl ?_
 iterate 2 refine WP.mv rfl rfl ?_
 refine WP.vl rfl (Yld.fieldAddr rfl ty_fd_29_0 rfl) ?_
 refine WP.vl rfl (Yld.ld (v := .int .i64 (hn : Int)) rfl ty_sc_3 rfl rfl) ?_
 refine WP.vl rfl (Yld.ldg (vs := [.int .i64 (hn : Int), .int .i64 (hp : Int)]) rfl ty_ag_29 rfl rfl rfl) ?_
 refine WP.vl rfl (Yld.ldg (vs := [.int .i64 (hn : Int), .int .i64 (hp : Int)]) rfl ty_ag_29 rfl rfl rfl) ?_
 refine WP.vl rfl (Yld.fieldAddr rfl ty_fd_29_0 rfl) ?_
 refine WP.vl rfl (Yld.ld (v := .int .i64 (hn : Int)) rfl ty_sc_3 rfl rfl) ?_
 refine WP.vl rfl (Yld.fieldAddr rfl ty_fd_29_1 rfl) ?_
 refine WP.vl rfl (Yld.ld (v := .int .i64 (hp : Int)) rfl ty_sc_3 rfl rfl) ?_
 refine WP.vl rfl (Yld.buildS (pl := [(0, 0, 1), (1, 1, 1), (2, 2, 1), (4, 4, 2), (5, 6, 2), (6, 8, 1), (7, 9, 1)]) rfl ty_zr_122 ty_zd_122 (by kernel_rfl) rfl (vs := [_, _, _, _, _, _, _]) rfl (segs := [(0, [_]), (1, [_]), (2, [_]), (4, [_, _]), (6, [_, _]), (8, [_]), (9, [_])]) rfl rfl (.one .zero (.one (.succ .zero) (.one (.succ (.succ .zero)) (.seg (Nat.le_of_ble_eq_true rfl) rfl (.seg (Nat.le_of_ble_eq_true rfl) rfl (.one (.succ (.succ (.succ (.succ (.succ (.succ (.succ (.succ .zero)))))))) (.one (.succ (.succ (.succ (.succ (.succ (.succ (.succ (.succ (.succ .zero))))))))) .nil)))))))) ?_
 refine WP.loud rfl rfl ?_
 refine Op.box rfl rfl rfl rfl rfl (fun m => ?_)
 iterate 2 refine WP.mv rfl rfl ?_
 refine WP.nil ?_
 refine WP.sub [(0, _), (1, _), (2, _), (4, _), (6, _), (7, _), (49, _)] ?_ ⟨rfl, rfl, rfl, rfl, rfl, rfl, rfl, trivial⟩
 refine WP.next ?_
 refine WP.ret ?_
 refine WP.fn .ret (.inr rfl) (res2 rfl rfl rfl) [] (Imm.le_refl _) ?_
 exact ⟨rfl, m, rfl, rfl⟩

theorem log_begun {I : Imm} {n f hn hp : Nat} {era : Int} (h1 : 136 ≤ n) (h2 : n ≤ 8192) (h3 : hn ≤ 1099511627776) (h4 : f * 8 ≤ hp) (h5 : hp ≤ (f + (n - 8) / 32) * 8) (h6 : f ≤ 68719476736) (he : 1 ≤ era ∧ era ≤ 4294967295) : Spec Try.prog 9 [.int .i64 (n : Int), .int .i64 (f : Int), .agg #[.int .i64 (hn : Int), .int .i64 (hp : Int)], .int .i64 era] I [] (fun v J L => I = J ∧ ∃ x d s l q rt rm Ll, v = .tuple #[.pointer (some ⟨x, 0, none⟩), .bool true, .bool true] ∧ L = (x, row 43 [.pointer (some ⟨d, 0, none⟩), .pointer (some ⟨s, 0, none⟩), .pointer (some ⟨l, 0, none⟩), .pointer (some ⟨q, 0, none⟩), .pointer (some ⟨rt, 0, none⟩), .pointer (some ⟨rm, 0, none⟩), .slice none 0 0, .slice none 0 0, .slice none 0 0, .slice none 0 0]) :: Ll ∧ IsLog J l s d n (⟨era, ⟨(n - 8) / 32, f, f⟩, hn, hp, [], hn, hn, hp⟩ : Lg) (Dk.new n) Ll) := by
 refine Spec.of Try.func9 rfl Try.ntmps9 (Nat.le_of_ble_eq_true rfl) (fun F => ?_)
 try simp only [nf]
 dsimp only [argsEnv]
 refine WP.seq ?_
 refine WP.region [0, 1, 2, 3] rfl ?_
 refine WP.loud rfl rfl ?_
 refine Op.box rfl rfl rfl rfl rfl (fun b6 => ?_)
 iterate 3 refine WP.mv rfl rfl ?_
 refine WP.nil ?_
 refine WP.next ?_
 refine WP.seq ?_
 refine WP.region [0, 1, 2] rfl ?_
 refine WP.vl rfl (Yld.buildS (pl := []) rfl ty_zr_43 ty_zd_43 (by kernel_rfl) rfl (vs := []) rfl (segs := []) rfl rfl (by repeat (first | exact SetSeg.nil | apply SetSeg.one | exact SetAt.zero | apply SetAt.succ))) ?_
 refine WP.loud rfl rfl ?_
 refine Op.box rfl rfl rfl rfl rfl (fun x => ?_)
 refine WP.mv rfl rfl ?_
 refine WP.nil ?_
 refine WP.sub [(0, _), (1, _), (2, _), (3, _), (6, _), (8, _), (9, _), (10, _), (11, _)] ?_ ⟨rfl, rfl, rfl, rfl, rfl, rfl, rfl, rfl, rfl, trivial⟩
 refine WP.next ?_
 refine WP.seq ?_
 refine WP.region [0, 1, 2, 3, 4, 5, 6] rfl ?_
 refine WP.mv rfl rfl ?_
 refine WP.loud rfl rfl ?_
 refine Op.cl (disk_New (n := n) (by omega) h2) rfl Try.func32 rfl rfl rfl rfl ?_
 rintro v J Ld - ⟨rfl, d, rfl, hd⟩
 try simp only [nf]
 refine WP.mv rfl rfl ?_
 refine WP.vl rfl (Yld.extract rfl rfl rfl) ?_
 refine WP.vl rfl (Yld.extract rfl rfl rfl) ?_
 iterate 2 refine WP.mv rfl rfl ?_
 refine WP.nil ?_
 refine WP.sub [(0, _), (1, _), (2, _), (3, _), (6, _), (8, _), (9, _), (10, _), (11, _), (12, _), (13, _)] ?_ ⟨rfl, rfl, rfl, rfl, rfl, rfl, rfl, rfl, rfl, rfl, rfl, trivial⟩
 refine WP.next ?_
 refine WP.seq ?_
 refine WP.region [0, 1, 2, 3, 4, 5, 6] rfl ?_
 refine WP.mv rfl rfl ?_
 refine WP.loud rfl rfl ?_
 refine Op.cl (ref3_New (n := n) (by omega) h2) rfl Try.func33 rfl rfl rfl rfl ?_
 rintro v J L1 - ⟨rfl, q, A, c, Lq, rfl, rfl⟩
 try simp only [nf]
 refine WP.mv rfl rfl ?_
 refine WP.vl rfl (Yld.extract rfl rfl rfl) ?_
 refine WP.vl rfl (Yld.extract rfl rfl rfl) ?_
 iterate 2 refine WP.mv rfl rfl ?_
 refine WP.nil ?_
 refine WP.sub [(0, _), (1, _), (2, _), (3, _), (6, _), (8, _), (9, _), (10, _), (11, _), (12, _), (13, _), (14, _), (15, _)] ?_ ⟨rfl, rfl, rfl, rfl, rfl, rfl, rfl, rfl, rfl, rfl, rfl, rfl, rfl, trivial⟩
 refine WP.next ?_
 refine WP.seq ?_
 refine WP.seq ?_
 refine WP.region [0, 1, 2, 3, 4, 5, 6, 7, 8, 9, 10] rfl ?_
 iterate 2 refine WP.mv rfl rfl ?_
 refine WP.vl rfl (Yld.neq rfl rfl rfl false (decide_eq_false (by simp))) ?_
 refine WP.mv rfl rfl ?_
 refine WP.valG rfl rfl rfl rfl rfl rfl rfl (Yld.move rfl rfl) ?_
 refine WP.valG rfl rfl rfl rfl rfl rfl rfl (Yld.eqlNil rfl ty_pt_32 rfl rfl) ?_
 refine WP.vl rfl (Yld.pickF rfl rfl rfl) ?_
 refine WP.mv rfl rfl ?_
 refine WP.valG rfl rfl rfl rfl rfl rfl rfl (Yld.move rfl rfl) ?_
 refine WP.valG rfl rfl rfl rfl rfl rfl rfl (Yld.eqlNil rfl ty_pt_35 rfl rfl) ?_
 refine WP.vl rfl (Yld.pickF rfl rfl rfl) ?_
 refine WP.nil ?_
 refine WP.sub [(0, _), (1, _), (2, _), (3, _), (6, _), (8, _), (9, _), (10, _), (11, _), (12, _), (13, _), (14, _), (15, _), (46, _)] ?_ ⟨rfl, rfl, rfl, rfl, rfl, rfl, rfl, rfl, rfl, rfl, rfl, rfl, rfl, rfl, trivial⟩
 refine WP.next ?_
 refine WP.condF rfl ?_
 refine WP.skip ?_
 refine WP.next ?_
 refine WP.seq ?_
 refine WP.region [0, 1, 2, 3, 4] rfl ?_
 iterate 2 refine WP.mv rfl rfl ?_
 refine WP.vl rfl (Yld.nilCheck rfl rfl) ?_
 refine WP.vl rfl (Yld.fieldAddr rfl ty_fd_43_0 rfl) ?_
 refine WP.loud rfl rfl ?_
 refine Op.s1 rfl rfl ty_sz_32 rfl rfl rfl ?_
 refine WP.nil ?_
 refine WP.sub [(0, _), (1, _), (2, _), (3, _), (6, _), (8, _), (9, _), (10, _), (11, _), (12, _), (13, _), (14, _), (15, _), (46, _)] ?_ ⟨rfl, rfl, rfl, rfl, rfl, rfl, rfl, rfl, rfl, rfl, rfl, rfl, rfl, rfl, trivial⟩
 refine WP.next ?_
 refine WP.seq ?_
 refine WP.region [0, 1, 2, 3, 4] rfl ?_
 iterate 2 refine WP.mv rfl rfl ?_
 refine WP.vl rfl (Yld.nilCheck rfl rfl) ?_
 refine WP.vl rfl (Yld.fieldAddr rfl ty_fd_43_3 rfl) ?_
 refine WP.loud rfl rfl ?_
 refine Op.s1 rfl rfl ty_sz_35 rfl rfl rfl ?_
 refine WP.nil ?_
 refine WP.sub [(0, _), (1, _), (2, _), (3, _), (6, _), (8, _), (9, _), (10, _), (11, _), (12, _), (13, _), (14, _), (15, _), (46, _)] ?_ ⟨rfl, rfl, rfl, rfl, rfl, rfl, rfl, rfl, rfl, rfl, rfl, rfl, rfl, rfl, trivial⟩
 refine WP.next ?_
 refine WP.seq ?_
 refine WP.region [0, 1, 2, 3, 4, 5, 6, 7, 8] rfl ?_
 iterate 3 refine WP.mv rfl rfl ?_
 refine WP.loud rfl rfl ?_
 refine Op.cl (seg_New_ok (f := f) (e := f) hd h1 (Nat.le_refl _) h6 (by omega)) rfl Try.func22 rfl rfl rfl rfl ?_
 rintro v J L1 - ⟨rfl, s, rfl, rfl⟩
 try simp only [nf]
 refine WP.mv rfl rfl ?_
 refine WP.vl rfl (Yld.extract rfl rfl rfl) ?_
 refine WP.vl rfl (Yld.extract rfl rfl rfl) ?_
 iterate 2 refine WP.mv rfl rfl ?_
 refine WP.nil ?_
 refine WP.sub [(0, _), (1, _), (2, _), (3, _), (6, _), (8, _), (9, _), (10, _), (11, _), (12, _), (13, _), (14, _), (15, _), (16, _), (17, _), (46, _)] ?_ ⟨rfl, rfl, rfl, rfl, rfl, rfl, rfl, rfl, rfl, rfl, rfl, rfl, rfl, rfl, rfl, rfl, trivial⟩
 refine WP.next ?_
 refine WP.seq ?_
 refine WP.region [0, 1, 2, 3, 4, 5, 6, 7, 8] rfl ?_
 iterate 3 refine WP.mv rfl rfl ?_
 refine WP.loud rfl rfl ?_
 refine Op.cl (ref7_New (A := A) (c := c) (f := f) (e := f) h1 h2 (Nat.le_refl _) h6 (by omega)) rfl Try.func34 rfl rfl rfl rfl ?_
 rintro v J L1 - ⟨rfl, rt, rfl, rfl⟩
 try simp only [nf]
 refine WP.mv rfl rfl ?_
 refine WP.vl rfl (Yld.extract rfl rfl rfl) ?_
 refine WP.vl rfl (Yld.extract rfl rfl rfl) ?_
 iterate 2 refine WP.mv rfl rfl ?_
 refine WP.nil ?_
 refine WP.sub [(0, _), (1, _), (2, _), (3, _), (6, _), (8, _), (9, _), (10, _), (11, _), (12, _), (13, _), (14, _), (15, _), (16, _), (17, _), (18, _), (19, _), (46, _)] ?_ ⟨rfl, rfl, rfl, rfl, rfl, rfl, rfl, rfl, rfl, rfl, rfl, rfl, rfl, rfl, rfl, rfl, rfl, rfl, trivial⟩
 refine WP.next ?_
 refine WP.seq ?_
 refine WP.seq ?_
 refine WP.region [0, 1, 2, 3, 4, 5, 6, 7, 8, 9, 10] rfl ?_
 iterate 2 refine WP.mv rfl rfl ?_
 refine WP.vl rfl (Yld.neq rfl rfl rfl false (decide_eq_false (by simp))) ?_
 refine WP.mv rfl rfl ?_
 refine WP.valG rfl rfl rfl rfl rfl rfl rfl (Yld.move rfl rfl) ?_
 refine WP.valG rfl rfl rfl rfl rfl rfl rfl (Yld.eqlNil rfl ty_pt_33 rfl rfl) ?_
 refine WP.vl rfl (Yld.pickF rfl rfl rfl) ?_
 refine WP.mv rfl rfl ?_
 refine WP.valG rfl rfl rfl rfl rfl rfl rfl (Yld.move rfl rfl) ?_
 refine WP.valG rfl rfl rfl rfl rfl rfl rfl (Yld.eqlNil rfl ty_pt_36 rfl rfl) ?_
 refine WP.vl rfl (Yld.pickF rfl rfl rfl) ?_
 refine WP.nil ?_
 refine WP.sub [(0, _), (1, _), (2, _), (3, _), (6, _), (8, _), (9, _), (10, _), (11, _), (12, _), (13, _), (14, _), (15, _), (16, _), (17, _), (18, _), (19, _), (46, _), (87, _)] ?_ ⟨rfl, rfl, rfl, rfl, rfl, rfl, rfl, rfl, rfl, rfl, rfl, rfl, rfl, rfl, rfl, rfl, rfl, rfl, rfl, trivial⟩
 refine WP.next ?_
 refine WP.condF rfl ?_
 refine WP.skip ?_
 refine WP.next ?_
 refine WP.seq ?_
 refine WP.region [0, 1, 2, 3, 4] rfl ?_
 iterate 2 refine WP.mv rfl rfl ?_
 refine WP.vl rfl (Yld.nilCheck rfl rfl) ?_
 refine WP.vl rfl (Yld.fieldAddr rfl ty_fd_43_1 rfl) ?_
 refine WP.loud rfl rfl ?_
 refine Op.s1 rfl rfl ty_sz_33 rfl rfl rfl ?_
 refine WP.nil ?_
 refine WP.sub [(0, _), (1, _), (2, _), (3, _), (6, _), (8, _), (9, _), (10, _), (11, _), (12, _), (13, _), (14, _), (15, _), (16, _), (17, _), (18, _), (19, _), (46, _), (87, _)] ?_ ⟨rfl, rfl, rfl, rfl, rfl, rfl, rfl, rfl, rfl, rfl, rfl, rfl, rfl, rfl, rfl, rfl, rfl, rfl, rfl, trivial⟩
 refine WP.next ?_
 refine WP.seq ?_
 refine WP.region [0, 1, 2, 3, 4] rfl ?_
 iterate 2 refine WP.mv rfl rfl ?_
 refine WP.vl rfl (Yld.nilCheck rfl rfl) ?_
 refine WP.vl rfl (Yld.fieldAddr rfl ty_fd_43_4 rfl) ?_
 refine WP.loud rfl rfl ?_
 refine Op.s1 rfl rfl ty_sz_36 rfl rfl rfl ?_
 refine WP.nil ?_
 refine WP.sub [(0, _), (1, _), (2, _), (3, _), (6, _), (8, _), (9, _), (10, _), (11, _), (12, _), (13, _), (14, _), (15, _), (16, _), (17, _), (18, _), (19, _), (46, _), (87, _)] ?_ ⟨rfl, rfl, rfl, rfl, rfl, rfl, rfl, rfl, rfl, rfl, rfl, rfl, rfl, rfl, rfl, rfl, rfl, rfl, rfl, trivial⟩
 refine WP.next ?_
 refine WP.seq ?_
 refine WP.region [0, 1, 2, 3, 4, 5, 6, 7, 8, 9] rfl ?_
 iterate 2 refine WP.mv rfl rfl ?_
 refine WP.vl rfl (Yld.ldg (vs := [.int .i64 (hn : Int), .int .i64 (hp : Int)]) rfl ty_ag_29 rfl rfl rfl) ?_
 refine WP.mv rfl rfl ?_
 refine WP.loud rfl rfl ?_
 refine Op.cl (log_Open (s := s) (g := ⟨(n - 8) / 32, f, f⟩) (hn := hn) (hp := hp) hd ⟨(show 4 ≤ (n - 8) / 32 by omega), (show (n - 8) / 32 * 32 + 8 ≤ n by omega), Nat.le_refl _, (show f ≤ 1099511627776 by omega)⟩ h3 h4 h5 he h6 (Nat.le_add_right _ _)) rfl Try.func24 rfl rfl rfl rfl ?_
 rintro v J Ll - ⟨rfl, l, rfl, hl⟩
 try simp only [nf]
 refine WP.mv rfl rfl ?_
 refine WP.vl rfl (Yld.extract rfl rfl rfl) ?_
 refine WP.vl rfl (Yld.extract rfl rfl rfl) ?_
 iterate 2 refine WP.mv rfl rfl ?_
 refine WP.nil ?_
 refine WP.sub [(0, _), (1, _), (2, _), (3, _), (6, _), (8, _), (9, _), (10, _), (11, _), (12, _), (13, _), (14, _), (15, _), (16, _), (17, _), (18, _), (19, _), (20, _), (21, _), (46, _), (87, _)] ?_ ⟨rfl, rfl, rfl, rfl, rfl, rfl, rfl, rfl, rfl, rfl, rfl, rfl, rfl, rfl, rfl, rfl, rfl, rfl, rfl, rfl, rfl, trivial⟩
 refine WP.next ?_
 refine WP.seq ?_
 refine WP.region [0, 1, 2, 3, 4, 5, 6, 7, 8] rfl ?_
 refine WP.mv rfl rfl ?_
 refine WP.vl rfl (Yld.ldg (vs := [.int .i64 (hn : Int), .int .i64 (hp : Int)]) rfl ty_ag_29 rfl rfl rfl) ?_
 refine WP.mv rfl rfl ?_
 refine WP.loud rfl rfl ?_
 refine Op.cl (ref8_Open (A := A) (c := c) (f := f) (e := f) h1 h2 h3 h4 h5 h6 he) rfl Try.func35 rfl rfl rfl rfl ?_
 rintro v J L1 - ⟨rfl, rm, rfl, rfl⟩
 try simp only [nf]
 refine WP.mv rfl rfl ?_
 refine WP.vl rfl (Yld.extract rfl rfl rfl) ?_
 refine WP.vl rfl (Yld.extract rfl rfl rfl) ?_
 iterate 2 refine WP.mv rfl rfl ?_
 refine WP.nil ?_
 refine WP.sub [(0, _), (1, _), (2, _), (3, _), (6, _), (8, _), (9, _), (10, _), (11, _), (12, _), (13, _), (14, _), (15, _), (16, _), (17, _), (18, _), (19, _), (20, _), (21, _), (22, _), (23, _), (46, _), (87, _)] ?_ ⟨rfl, rfl, rfl, rfl, rfl, rfl, rfl, rfl, rfl, rfl, rfl, rfl, rfl, rfl, rfl, rfl, rfl, rfl, rfl, rfl, rfl, rfl, rfl, trivial⟩
 refine WP.next ?_
 refine WP.seq ?_
 refine WP.region [0, 1, 2, 3, 4] rfl ?_
 iterate 2 refine WP.mv rfl rfl ?_
 refine WP.vl rfl (Yld.nilCheck rfl rfl) ?_
 refine WP.vl rfl (Yld.fieldAddr rfl ty_fd_43_2 rfl) ?_
 refine WP.loud rfl rfl ?_
 refine Op.s1 rfl rfl ty_sz_34 rfl rfl rfl ?_
 refine WP.nil ?_
 refine WP.sub [(0, _), (1, _), (2, _), (3, _), (6, _), (8, _), (9, _), (10, _), (11, _), (12, _), (13, _), (14, _), (15, _), (16, _), (17, _), (18, _), (19, _), (20, _), (21, _), (22, _), (23, _), (46, _), (87, _)] ?_ ⟨rfl, rfl, rfl, rfl, rfl, rfl, rfl, rfl, rfl, rfl, rfl, rfl, rfl, rfl, rfl, rfl, rfl, rfl, rfl, rfl, rfl, rfl, rfl, trivial⟩
 refine WP.next ?_
 refine WP.seq ?_
 refine WP.region [0, 1, 2, 3, 4] rfl ?_
 iterate 2 refine WP.mv rfl rfl ?_
 refine WP.vl rfl (Yld.nilCheck rfl rfl) ?_
 refine WP.vl rfl (Yld.fieldAddr rfl ty_fd_43_5 rfl) ?_
 refine WP.loud rfl rfl ?_
 refine Op.s1 rfl rfl ty_sz_37 rfl rfl rfl ?_
 refine WP.nil ?_
 refine WP.sub [(0, _), (1, _), (2, _), (3, _), (6, _), (8, _), (9, _), (10, _), (11, _), (12, _), (13, _), (14, _), (15, _), (16, _), (17, _), (18, _), (19, _), (20, _), (21, _), (22, _), (23, _), (46, _), (87, _)] ?_ ⟨rfl, rfl, rfl, rfl, rfl, rfl, rfl, rfl, rfl, rfl, rfl, rfl, rfl, rfl, rfl, rfl, rfl, rfl, rfl, rfl, rfl, rfl, rfl, trivial⟩
 refine WP.next ?_
 refine WP.seq ?_
 refine WP.seq ?_
 refine WP.region [0, 1, 2, 3, 4, 5, 6, 7, 8, 9] rfl ?_
 iterate 2 refine WP.mv rfl rfl ?_
 refine WP.vl rfl (Yld.neq rfl rfl rfl false (decide_eq_false (by simp))) ?_
 refine WP.mv rfl rfl ?_
 refine WP.valG rfl rfl rfl rfl rfl rfl rfl (Yld.move rfl rfl) ?_
 refine WP.valG rfl rfl rfl rfl rfl rfl rfl (Yld.eqlNil rfl ty_pt_34 rfl rfl) ?_
 refine WP.valG rfl rfl rfl rfl rfl rfl rfl (Yld.move rfl rfl) ?_
 refine WP.valG rfl rfl rfl rfl rfl rfl rfl (Yld.neq rfl rfl rfl false (decide_eq_false (by simp))) ?_
 refine WP.valG rfl rfl rfl rfl rfl rfl rfl (Yld.neqBool rfl (by kernel_rfl) rfl rfl false (by simp)) ?_
 refine WP.vl rfl (Yld.pickF rfl rfl rfl) ?_
 refine WP.nil ?_
 refine WP.sub [(0, _), (1, _), (2, _), (3, _), (6, _), (8, _), (9, _), (10, _), (11, _), (12, _), (13, _), (14, _), (15, _), (16, _), (17, _), (18, _), (19, _), (20, _), (21, _), (22, _), (23, _), (46, _), (87, _), (136, _)] ?_ ⟨rfl, rfl, rfl, rfl, rfl, rfl, rfl, rfl, rfl, rfl, rfl, rfl, rfl, rfl, rfl, rfl, rfl, rfl, rfl, rfl, rfl, rfl, rfl, rfl, trivial⟩
 refine WP.next ?_
 refine WP.condF rfl ?_
 refine WP.skip ?_
 refine WP.next ?_
 refine WP.seq ?_
 refine WP.region [0, 1, 2, 3, 4, 5] rfl ?_
 iterate 2 refine WP.mv rfl rfl ?_
 refine WP.vl rfl (Yld.eql rfl rfl rfl true (decide_eq_true (by rfl))) ?_
 iterate 3 refine WP.mv rfl rfl ?_
 refine WP.nil ?_
 refine WP.sub [(0, _), (1, _), (2, _), (3, _), (6, _), (8, _), (9, _), (10, _), (11, _), (12, _), (13, _), (14, _), (15, _), (16, _), (17, _), (18, _), (19, _), (20, _), (21, _), (22, _), (23, _), (46, _), (87, _), (136, _)] ?_ ⟨rfl, rfl, rfl, rfl, rfl, rfl, rfl, rfl, rfl, rfl, rfl, rfl, rfl, rfl, rfl, rfl, rfl, rfl, rfl, rfl, rfl, rfl, rfl, rfl, trivial⟩
 refine WP.next ?_
 refine WP.ret ?_
 refine WP.fn .ret (.inr rfl) (res3 rfl rfl rfl rfl) ((x, row 43 [.pointer (some ⟨d, 0, none⟩), .pointer (some ⟨s, 0, none⟩), .pointer (some ⟨l, 0, none⟩), .pointer (some ⟨q, 0, none⟩), .pointer (some ⟨rt, 0, none⟩), .pointer (some ⟨rm, 0, none⟩), .slice none 0 0, .slice none 0 0, .slice none 0 0, .slice none 0 0]) :: Ll) (Imm.le_refl _) ?_
 exact ⟨rfl, x, d, s, l, q, rt, rm, Ll, rfl, rfl, hl⟩


end Go.Hp
