import Derived.Test.YtgcbhbcmohcdpaaGreatChkJ
set_option linter.unusedVariables false
set_option linter.unusedSimpArgs false
namespace Go.Hp
open Go Go.Proofs

theorem pages_nil {x : Tb} (h : ∀ p, x.get p = none) : x.pages = [] := by
 unfold Tb.pages Tb.pagesTo
 rw [List.filter_eq_nil_iff.2 (fun k _ => by simp [h])]; rfl
theorem KpI.fin {J : Imm} {k d s l t c : Nat} {L : Chunks} (h : KpI J k d s l t c (11 + 1) L) : ∃ Lx A ca, L = (k, row 82 [.pointer (some ⟨d, 0, none⟩), .pointer (some ⟨s, 0, none⟩), .pointer (some ⟨l, 0, none⟩), .pointer (some ⟨t, 0, none⟩), .pointer (some ⟨c, 0, none⟩), .int .i64 1, .int .i64 0, .int .i64 0, .int .i64 1, .int .i64 0, .nilFunc, .int .i64 0, .int .i64 8, (.slice A 0 ca), .int .i64 1, .int .i64 8, .int .i64 0, .int .i64 1, .slice none 0 0, .int .i64 0, .int .i64 8, .int .i64 2, .int .i64 8, .int .i64 1, .int .i64 1, .int .i64 0, .int .i64 0]) :: Lx := by
 cases h with
 | pf hl hw => exact absurd hw.s (by omega)
 | @p12 Lx A ca => exact ⟨Lx, A, ca, rfl⟩
structure AwX where
 i : Nat
 J : Imm
 L : Chunks
theorem chk_CacheNew {I : Imm} {t l : Nat} : Spec Tryz.prog 29 [.pointer (some ⟨t, 0, none⟩), .pointer (some ⟨l, 0, none⟩)] I [] (fun v J L => ∃ c, v = .pointer (some ⟨c, 0, none⟩) ∧ I = J ∧ L = [(c, row 109 [.pointer (some ⟨t, 0, none⟩), .pointer (some ⟨l, 0, none⟩)])]) := by
 refine Spec.of Tryz.func29 rfl Tryz.ntmps29 (Nat.le_of_ble_eq_true rfl) (fun F => ?_)
 try simp only [nf]
 dsimp only [argsEnv]
 refine WP.seq ?_; refine WP.region [0] rfl ?_; refine WP.mv rfl rfl ?_; refine WP.nil (WP.next (WP.seq ?_))
 refine WP.region [0, 1, 2, 3, 4] rfl ?_; iterate 2 refine WP.mv rfl rfl ?_
 refine WP.vl rfl (Yld.buildS (pl := [(0, 0, 1), (1, 1, 1)]) rfl ty_zr_109 ty_zd_109 zK rfl (vs := [_, _]) rfl (segs := [(0, [_]), (1, [_])]) rfl rfl zS) ?_; refine WP.loud rfl rfl ?_; refine Op.box rfl rfl rfl rfl rfl (fun c => ?_)
 refine WP.mv rfl rfl ?_; refine WP.nil ?_; refine WP.sub [(0, _), (1, _), (4, _)] ?_ ⟨rfl, rfl, rfl, trivial⟩
 refine WP.next (WP.ret ?_)
 refine WP.fn .ret (.inr rfl) (res1 rfl rfl) [(c, row 109 [.pointer (some ⟨t, 0, none⟩), .pointer (some ⟨l, 0, none⟩)])] (Imm.le_refl _) ?_; exact ⟨c, rfl, rfl, rfl⟩

theorem chk_Begun {I : Imm} : Spec Tryz.prog 10 [.int .i64 20, .agg #[.int .i64 1, .int .i64 0, .int .i64 0, .int .i64 1, .int .i64 0], .int .i64 0] I [] (fun v J L => I = J ∧ ∃ wl x d s l t c q rt rm r9 tb Ll Lt, v = .pointer (some ⟨wl, 0, none⟩) ∧ L = (wl, row 54 [.pointer (some ⟨x, 0, none⟩), .pointer (some ⟨c, 0, none⟩), .slice none 0 0, .int .i64 1, .int .i64 0, .int .i64 0, .int .i64 1, .int .i64 0, .int .i64 0]) :: (x, row 49 [.pointer (some ⟨d, 0, none⟩), .pointer (some ⟨s, 0, none⟩), .pointer (some ⟨l, 0, none⟩), .pointer (some ⟨t, 0, none⟩), .pointer (some ⟨q, 0, none⟩), .pointer (some ⟨rt, 0, none⟩), .pointer (some ⟨rm, 0, none⟩), .pointer (some ⟨r9, 0, none⟩)]) :: (Ll ++ Lt) ∧ IsLog J l s d 648 kx0 (Dk.new 648) Ll ∧ IsT J t tb Lt ∧ tb.pages = [] ∧ tb.next = 1) := by
 refine Spec.of Tryz.func10 rfl Tryz.ntmps10 (Nat.le_of_ble_eq_true rfl) (fun F => ?_)
 try simp only [nf]
 dsimp only [argsEnv]
 refine WP.seq ?_; refine WP.region [0, 1] rfl ?_; refine WP.loud rfl rfl ?_; refine Op.box rfl rfl rfl rfl rfl (fun b4 => ?_)
 refine WP.mv rfl rfl ?_; refine WP.nil (WP.next (WP.seq ?_))
 refine WP.region [0, 1, 2] rfl ?_; refine WP.mv rfl rfl ?_; refine WP.loud rfl rfl ?_; refine Op.cl (txn_Begun (m := 20) (by decide) (by decide)) rfl Tryz.func28 rfl rfl rfl rfl ?_; rintro v J L1 - ⟨rfl, x, d, s, l, t, q, rt, rm, r9, tb, Ll, Lt, rfl, rfl, hl, hT, hk0, hn0, hs0, hg0⟩
 try simp only [nf]
 refine WP.mv rfl rfl ?_; refine WP.nil ?_; refine WP.sub [(0, _), (1, _), (2, _), (4, _), (6, _), (7, _)] ?_ ⟨rfl, rfl, rfl, rfl, rfl, rfl, trivial⟩
 refine WP.next (WP.seq (WP.seq ?_))
 refine WP.region [0, 1] rfl ?_; refine WP.mv rfl rfl ?_; refine WP.vl rfl (Yld.eqlNil rfl ty_pt_50 rfl rfl) ?_; refine WP.nil ?_; refine WP.sub [(0, _), (1, _), (2, _), (4, _), (6, _), (7, _), (12, _)] ?_ ⟨rfl, rfl, rfl, rfl, rfl, rfl, rfl, trivial⟩
 refine WP.next ?_; refine WP.condF rfl ?_; refine WP.skip (WP.next (WP.seq ?_))
 refine WQ.start Tryzmixed 8 zK _ rfl [8, 9] rfl ?_; refine WQ.val rfl rfl rfl (Yld.move rfl rfl) ?_; refine WQ.val rfl rfl rfl (Yld.nilCheck rfl rfl) ?_; refine WQ.val rfl rfl rfl (Yld.fieldAddr rfl ty_fd_49_3 rfl) ?_; refine WQ.val rfl rfl rfl (Yld.ld (v := .pointer (some ⟨t, 0, none⟩)) rfl ty_sc_43 rfl rfl) ?_; refine WQ.val rfl rfl rfl (Yld.move rfl rfl) ?_; refine WQ.val rfl rfl rfl (Yld.nilCheck rfl rfl) ?_; refine WQ.val rfl rfl rfl (Yld.fieldAddr rfl ty_fd_49_2 rfl) ?_; refine WQ.val rfl rfl rfl (Yld.ld (v := .pointer (some ⟨l, 0, none⟩)) rfl ty_sc_42 rfl rfl) ?_; refine WQ.nil ?_; refine WP.loud rfl rfl ?_; refine Op.cl chk_CacheNew rfl Tryz.func29 rfl rfl rfl rfl ?_; rintro v J L4 - ⟨c, rfl, rfl, rfl⟩
 try simp only [nf]
 refine WP.mv rfl rfl ?_; refine WP.nil ?_; refine WP.sub [(0, _), (1, _), (2, _), (4, _), (6, _), (7, _), (8, _), (12, _)] ?_ ⟨rfl, rfl, rfl, rfl, rfl, rfl, rfl, rfl, trivial⟩
 refine WP.next (WP.seq (WP.seq ?_))
 refine WP.region [0, 1] rfl ?_; refine WP.mv rfl rfl ?_; refine WP.vl rfl (Yld.eqlNil rfl ty_pt_51 rfl rfl) ?_; refine WP.nil ?_; refine WP.sub [(0, _), (1, _), (2, _), (4, _), (6, _), (7, _), (8, _), (12, _), (23, _)] ?_ ⟨rfl, rfl, rfl, rfl, rfl, rfl, rfl, rfl, rfl, trivial⟩
 refine WP.next ?_; refine WP.condF rfl ?_; refine WP.skip (WP.next (WP.seq ?_))
 refine WP.region [0, 1, 2, 3, 4, 5, 6] rfl ?_; iterate 2 refine WP.mv rfl rfl ?_
 refine WP.vl rfl (Yld.ldg (vs := [.int .i64 1, .int .i64 0, .int .i64 0, .int .i64 1, .int .i64 0]) rfl ty_ag_37 rfl rfl rfl) ?_; refine WP.mv rfl rfl ?_; refine WP.vl rfl (Yld.buildS (pl := [(0, 0, 1), (1, 1, 1), (3, 3, 5), (4, 8, 1)]) rfl ty_zr_54 ty_zd_54 zK rfl (vs := [_, _, _, _]) rfl (segs := [(0, [_]), (1, [_]), (3, [_, _, _, _, _]), (8, [_])]) rfl rfl (.one (by repeat (first | exact SetAt.zero | apply SetAt.succ)) (.one (by repeat (first | exact SetAt.zero | apply SetAt.succ)) (.seg (Nat.le_of_ble_eq_true rfl) (show [.pointer (some ⟨x, 0, none⟩), .pointer (some ⟨c, 0, none⟩), .slice none 0 0, .int .i64 1, .int .i64 0, .int .i64 0, .int .i64 1, .int .i64 0, .int .i64 0] = _ from rfl) (.one (by repeat (first | exact SetAt.zero | apply SetAt.succ)) .nil))))) ?_; refine WP.loud rfl rfl ?_; refine Op.box rfl rfl rfl rfl rfl (fun wl => ?_)
 refine WP.mv rfl rfl ?_; refine WP.nil ?_; refine WP.sub [(0, _), (1, _), (2, _), (4, _), (6, _), (7, _), (8, _), (12, _), (23, _)] ?_ ⟨rfl, rfl, rfl, rfl, rfl, rfl, rfl, rfl, rfl, trivial⟩
 refine WP.next (WP.ret ?_)
 refine WP.fn .ret (.inr rfl) (res1 rfl rfl) ((wl, row 54 [.pointer (some ⟨x, 0, none⟩), .pointer (some ⟨c, 0, none⟩), .slice none 0 0, .int .i64 1, .int .i64 0, .int .i64 0, .int .i64 1, .int .i64 0, .int .i64 0]) :: (x, row 49 [.pointer (some ⟨d, 0, none⟩), .pointer (some ⟨s, 0, none⟩), .pointer (some ⟨l, 0, none⟩), .pointer (some ⟨t, 0, none⟩), .pointer (some ⟨q, 0, none⟩), .pointer (some ⟨rt, 0, none⟩), .pointer (some ⟨rm, 0, none⟩), .pointer (some ⟨r9, 0, none⟩)]) :: (Ll ++ Lt)) (Imm.le_refl _) ?_; exact ⟨rfl, wl, x, d, s, l, t, c, q, rt, rm, r9, tb, Ll, Lt, rfl, rfl, hl, hT, pages_nil hg0, hn0⟩

set_option maxHeartbeats 2000000 in
theorem chk_awake {I : Imm} : Spec Tryz.prog 4 [] I [] (fun v J L => v = .bool true ∧ L = []) := by
 refine Spec.of Tryz.func4 rfl Tryz.ntmps4 (Nat.le_of_ble_eq_true rfl) (fun F => ?_)
 try simp only [nf]
 dsimp only [argsEnv]
 refine WP.seq ?_; refine WP.region [0] rfl ?_; refine WP.mv rfl rfl ?_; refine WP.nil (WP.next (WP.seq ?_))
 refine WP.region [0, 1, 2] rfl ?_; refine WP.vl rfl (Yld.buildS (pl := [(0, 0, 1), (3, 3, 1)]) rfl ty_zr_37 ty_zd_37 zK rfl (vs := [_, _]) rfl (segs := [(0, [_]), (3, [_])]) rfl rfl zS) ?_; refine WP.loud rfl rfl ?_; refine Op.cl chk_Begun rfl Tryz.func10 rfl rfl rfl rfl ?_; rintro v J L1 - ⟨rfl, wl, x, d, s, l, t, c, q, rt, rm, r9, tb, Ll, Lt, rfl, rfl, hl, hT, hp, hx⟩
 try simp only [nf]
 refine WP.mv rfl rfl ?_; refine WP.nil ?_; refine WP.sub [(0, _), (1, _)] ?_ ⟨rfl, rfl, trivial⟩
 refine WP.next (WP.seq (WP.seq ?_))
 refine WP.region [0, 1] rfl ?_; refine WP.mv rfl rfl ?_; refine WP.vl rfl (Yld.eqlNil rfl ty_pt_34 rfl rfl) ?_; refine WP.nil ?_; refine WP.sub [(0, _), (1, _), (11, _)] ?_ ⟨rfl, rfl, rfl, trivial⟩
 refine WP.next ?_; refine WP.condF rfl ?_; refine WP.skip (WP.next (WP.seq ?_))
 refine WQ.start Tryzmixed 36 zK _ rfl [36, 37] rfl ?_; refine WQ.val rfl rfl rfl (Yld.move rfl rfl) ?_; refine WQ.val rfl rfl rfl (Yld.nilCheck rfl rfl) ?_; refine WQ.val rfl rfl rfl (Yld.fieldAddr rfl ty_fd_54_0 rfl) ?_; refine WQ.val rfl rfl rfl (Yld.ld (v := .pointer (some ⟨x, 0, none⟩)) rfl ty_sc_50 rfl rfl) ?_; refine WQ.val rfl rfl rfl (Yld.nilCheck rfl rfl) ?_; refine WQ.val rfl rfl rfl (Yld.fieldAddr rfl ty_fd_49_0 rfl) ?_; refine WQ.val rfl rfl rfl (Yld.ld (v := .pointer (some ⟨d, 0, none⟩)) rfl ty_sc_40 rfl rfl) ?_; refine WQ.val rfl rfl rfl (Yld.move rfl rfl) ?_; refine WQ.val rfl rfl rfl (Yld.nilCheck rfl rfl) ?_; refine WQ.val rfl rfl rfl (Yld.fieldAddr rfl ty_fd_54_0 rfl) ?_; refine WQ.val rfl rfl rfl (Yld.ld (v := .pointer (some ⟨x, 0, none⟩)) rfl ty_sc_50 rfl rfl) ?_; refine WQ.val rfl rfl rfl (Yld.nilCheck rfl rfl) ?_; refine WQ.val rfl rfl rfl (Yld.fieldAddr rfl ty_fd_49_1 rfl) ?_; refine WQ.val rfl rfl rfl (Yld.ld (v := .pointer (some ⟨s, 0, none⟩)) rfl ty_sc_41 rfl rfl) ?_; refine WQ.val rfl rfl rfl (Yld.move rfl rfl) ?_; refine WQ.val rfl rfl rfl (Yld.nilCheck rfl rfl) ?_; refine WQ.val rfl rfl rfl (Yld.fieldAddr rfl ty_fd_54_0 rfl) ?_; refine WQ.val rfl rfl rfl (Yld.ld (v := .pointer (some ⟨x, 0, none⟩)) rfl ty_sc_50 rfl rfl) ?_; refine WQ.val rfl rfl rfl (Yld.nilCheck rfl rfl) ?_; refine WQ.val rfl rfl rfl (Yld.fieldAddr rfl ty_fd_49_2 rfl) ?_; refine WQ.val rfl rfl rfl (Yld.ld (v := .pointer (some ⟨l, 0, none⟩)) rfl ty_sc_42 rfl rfl) ?_; refine WQ.val rfl rfl rfl (Yld.move rfl rfl) ?_
 refine WQ.val rfl rfl rfl (Yld.nilCheck rfl rfl) ?_; refine WQ.val rfl rfl rfl (Yld.fieldAddr rfl ty_fd_54_0 rfl) ?_; refine WQ.val rfl rfl rfl (Yld.ld (v := .pointer (some ⟨x, 0, none⟩)) rfl ty_sc_50 rfl rfl) ?_; refine WQ.val rfl rfl rfl (Yld.nilCheck rfl rfl) ?_; refine WQ.val rfl rfl rfl (Yld.fieldAddr rfl ty_fd_49_3 rfl) ?_; refine WQ.val rfl rfl rfl (Yld.ld (v := .pointer (some ⟨t, 0, none⟩)) rfl ty_sc_43 rfl rfl) ?_; refine WQ.val rfl rfl rfl (Yld.move rfl rfl) ?_; refine WQ.val rfl rfl rfl (Yld.nilCheck rfl rfl) ?_; refine WQ.val rfl rfl rfl (Yld.fieldAddr rfl ty_fd_54_1 rfl) ?_; refine WQ.val rfl rfl rfl (Yld.ld (v := .pointer (some ⟨c, 0, none⟩)) rfl ty_sc_51 rfl rfl) ?_; refine WQ.val rfl rfl rfl (Yld.move rfl rfl) ?_; refine WQ.val rfl rfl rfl (Yld.nilCheck rfl rfl) ?_; refine WQ.val rfl rfl rfl (Yld.fieldAddr rfl ty_fd_54_3 rfl) ?_; refine WQ.val rfl rfl rfl (Yld.ldg (vs := [.int .i64 1, .int .i64 0, .int .i64 0, .int .i64 1, .int .i64 0]) rfl ty_ag_37 rfl rfl rfl) ?_; refine WQ.nil ?_; refine WP.loud rfl rfl ?_; refine Op.cl kp_New rfl Tryz.func11 rfl rfl rfl rfl ?_; rintro v J L4 - ⟨rfl, k, rfl, rfl⟩
 try simp only [nf]
 refine WP.mv rfl rfl ?_; refine WP.nil ?_; refine WP.sub [(0, _), (1, _), (2, _), (11, _)] ?_ ⟨rfl, rfl, rfl, rfl, trivial⟩
 refine WP.next (WP.seq (WP.seq ?_))
 refine WP.region [0, 1] rfl ?_; refine WP.mv rfl rfl ?_; refine WP.vl rfl (Yld.eqlNil rfl ty_pt_38 rfl rfl) ?_; refine WP.nil ?_; refine WP.sub [(0, _), (1, _), (2, _), (11, _), (50, _)] ?_ ⟨rfl, rfl, rfl, rfl, rfl, trivial⟩
 refine WP.next ?_; refine WP.condF rfl ?_; refine WP.skip (WP.next (WP.seq ?_))
 refine WP.region [0] rfl ?_; refine WP.mv rfl rfl ?_; refine WP.nil (WP.next (WP.seq (WP.block ?_)))
 refine WP.loop (X := AwX) (fun u : AwX => [(2, .pointer (some ⟨k, 0, none⟩)), (3, .int .i64 ((u.i + 1 : Nat) : Int))]) (fun u => u.J) (fun u : AwX => u.L ++ F) (fun u : AwX => I.le u.J ∧ u.i ≤ 11 ∧ KpI u.J k d s l t c u.i u.L) (fun u => 11 - u.i) ⟨0, I, (k, row 82 [.pointer (some ⟨d, 0, none⟩), .pointer (some ⟨s, 0, none⟩), .pointer (some ⟨l, 0, none⟩), .pointer (some ⟨t, 0, none⟩), .pointer (some ⟨c, 0, none⟩), .int .i64 1, .int .i64 0, .int .i64 0, .int .i64 1, .int .i64 0, .func (.func 30) #[.pointer (some ⟨k, 0, none⟩)] #[], .int .i64 0, .int .i64 0, .slice none 0 0, .int .i64 0, .int .i64 0, .int .i64 0, .int .i64 0, .slice none 0 0, .int .i64 0, .int .i64 0, .int .i64 0, .int .i64 0, .int .i64 0, .int .i64 0, .int .i64 0, .int .i64 1]) :: (Ll ++ Lt)⟩ ⟨Imm.le_refl _, Nat.zero_le _, .p0 hl hT hp hx⟩ ⟨rfl, rfl, trivial⟩ rfl zA ?_; rintro ⟨i, J, L⟩ ⟨hJ, hi, hk⟩; dsimp only at hJ hi hk
 try dsimp only
 try simp only [nf]
 refine WP.seq (WP.seq ?_)
 refine WP.region [0, 1, 2, 3, 4, 5, 6] rfl ?_; refine WP.mv rfl rfl ?_; refine WP.vl rfl (Yld.lss rfl rfl rfl true (decide_eq_true (by omega))) ?_; refine WP.mv rfl rfl ?_; refine WP.valG rfl rfl rfl rfl rfl rfl rfl (Yld.move rfl rfl) ?_; refine WP.loudG rfl rfl rfl rfl rfl ?_; refine Op.cl (kp_Step hk hi) rfl Tryz.func12 rfl rfl rfl rfl ?_; rintro v J2 L2 hJ2 ⟨rfl, hk2⟩
 try simp only [nf]
 by_cases hd : (decide (i = 11)) = true
 ·try rw [hd]
  refine WP.valG rfl rfl rfl rfl rfl rfl rfl (Yld.not rfl rfl) ?_; refine WP.vl rfl (Yld.pickT rfl rfl rfl) ?_; refine WP.nil ?_; refine WP.sub [(2, _), (3, _), (57, _)] ?_ ⟨rfl, rfl, rfl, trivial⟩
  refine WP.next ?_; refine WP.condF rfl ?_; refine WP.exit (WP.thenE (WP.thenE (WP.hit (WP.next (WP.seq ?_)))))
  obtain rfl : i = 11 := of_decide_eq_true hd
  obtain ⟨Lx, A, ca, rfl⟩ := hk2.fin
  refine WP.region [0, 1, 2, 3, 4, 5, 6, 7] rfl ?_; refine WP.mv rfl rfl ?_; refine WP.loud rfl rfl ?_; refine Op.cl kp_Got rfl Tryz.func13 rfl rfl rfl rfl ?_; rintro v J L10 - ⟨rfl, rfl, rfl⟩
  try simp only [nf]
  refine WP.mv rfl rfl ?_; iterate 2 refine WP.vl rfl (Yld.extract rfl rfl rfl) ?_
  refine WP.loud rfl rfl ?_; refine Op.alloc rfl rfl rfl ty_zr_37 (fun b4 => ?_)
  refine WP.loud rfl rfl ?_; refine Op.sA rfl rfl ty_sz_37 rfl rfl rfl rfl rfl ?_; refine WP.mv rfl rfl ?_; refine WP.nil ?_; refine WP.sub [(2, _), (3, _), (4, _), (5, _), (57, _)] ?_ ⟨rfl, rfl, rfl, rfl, rfl, trivial⟩
  refine WP.next (WP.seq ?_)
  refine WP.region [0, 1, 2, 3, 4, 5, 6] rfl ?_; refine WP.vl rfl (Yld.buildS (pl := [(0, 0, 1), (1, 1, 1), (3, 3, 1)]) rfl ty_zr_24 ty_zd_24 zK rfl (vs := [_, _, _]) rfl (segs := [(0, [_]), (1, [_]), (3, [_])]) rfl rfl zS) ?_; refine WP.loud rfl rfl ?_; refine Op.cl (chk_Encode (c := ck0) SlRd.nil0) rfl Tryz.func5 rfl rfl rfl rfl ?_; rintro v J11 L11 hJ11 ⟨vb, xs, e, rfl, hen, ho⟩
  try simp only [nf]
  obtain ⟨rfl, rfl⟩ := ck0_enc hen
  obtain ⟨Ab, cb, rfl, _⟩ := ho.slice
  refine WP.mv rfl rfl ?_; iterate 2 refine WP.vl rfl (Yld.extract rfl rfl rfl) ?_
  iterate 2 refine WP.mv rfl rfl ?_
  refine WP.nil ?_; refine WP.sub [(2, _), (3, _), (4, _), (5, _), (6, _), (7, _), (57, _)] ?_ ⟨rfl, rfl, rfl, rfl, rfl, rfl, rfl, trivial⟩
  refine WP.next (WP.seq ?_)
  refine WP.region [0, 1, 2, 3, 4, 5, 6, 7, 8, 9, 10, 11, 12, 13, 14, 15, 16, 17, 18, 19, 20] rfl ?_; refine WP.mv rfl rfl ?_; refine WP.vl rfl (Yld.eql rfl rfl rfl true (decide_eq_true (by rfl))) ?_; refine WP.mv rfl rfl ?_; refine WP.valG rfl rfl rfl rfl rfl rfl rfl (Yld.move rfl rfl) ?_; refine WP.valG rfl rfl rfl rfl rfl rfl rfl (Yld.eql rfl rfl rfl true (decide_eq_true (by rfl))) ?_; refine WP.vl rfl (Yld.pickT rfl rfl rfl) ?_; refine WP.mv rfl rfl ?_; refine WP.valG rfl rfl rfl rfl rfl rfl rfl (Yld.ldg (vs := [2, 8, 1, 1, 0].map (Value.int .i64)) rfl ty_ag_37 rfl rfl rfl) ?_; refine WP.valG rfl rfl rfl rfl rfl rfl rfl (Yld.buildS (pl := [(0, 0, 1), (1, 1, 1), (2, 2, 1), (3, 3, 1)]) rfl ty_zr_37 ty_zd_37 zK rfl (vs := [_, _, _, _]) rfl (segs := [(0, [_]), (1, [_]), (2, [_]), (3, [_])]) rfl rfl zS) ?_; refine WP.valG rfl rfl rfl rfl rfl rfl rfl (Yld.eqlInts (m := 5) (us := [2, 8, 1, 1, 0]) (vs := [2, 8, 1, 1, 0]) rfl zK rfl rfl rfl rfl true (by simp)) ?_; refine WP.vl rfl (Yld.pickT rfl rfl rfl) ?_; refine WP.mv rfl rfl ?_; refine WP.valG rfl rfl rfl rfl rfl rfl rfl (Yld.move rfl rfl) ?_; refine WP.valG rfl rfl rfl rfl rfl rfl rfl (Yld.eql rfl rfl rfl true (decide_eq_true (by rfl))) ?_; refine WP.vl rfl (Yld.pickT rfl rfl rfl) ?_; refine WP.mv rfl rfl ?_; refine WP.valG rfl rfl rfl rfl rfl rfl rfl (Yld.move rfl rfl) ?_; refine WP.valG rfl rfl rfl rfl rfl rfl rfl (Yld.str (e := 5) rfl zK zK zK rfl (ho.rd (by intro p hp; simp [hp]))) ?_; refine WP.valG rfl rfl rfl rfl rfl rfl rfl (Yld.eqlStr rfl rfl rfl true (by first | rfl | simp)) ?_
  refine WP.vl rfl (Yld.pickT rfl rfl rfl) ?_; refine WP.mv rfl rfl ?_; refine WP.nil ?_; refine WP.sub [(0, _), (2, _), (3, _), (4, _), (5, _), (6, _), (7, _), (57, _)] ?_ ⟨rfl, rfl, rfl, rfl, rfl, rfl, rfl, rfl, trivial⟩
  refine WP.next (WP.ret ?_)
  refine WP.fn .ret (.inr rfl) (res1 rfl rfl) [] (Imm.le_trans hJ (Imm.le_trans hJ2 hJ11)) ?_; exact ⟨rfl, rfl⟩
 ·have hd : (decide (i = 11)) = false := eq_false_of_ne_true hd
  try rw [hd]
  refine WP.valG rfl rfl rfl rfl rfl rfl rfl (Yld.not rfl rfl) ?_; refine WP.vl rfl (Yld.pickT rfl rfl rfl) ?_; refine WP.nil ?_; refine WP.sub [(2, _), (3, _), (57, _)] ?_ ⟨rfl, rfl, rfl, trivial⟩
  refine WP.next ?_; refine WP.condT rfl ?_; refine WP.skip (WP.next (WP.block ?_))
  have hd1 : i ≠ 11 := of_decide_eq_false hd
  refine WP.region [0, 1, 2] rfl ?_; refine WP.mv rfl rfl ?_; refine WP.vl rfl (Yld.add64 rfl rfl rfl (by omega)) ?_; refine WP.mv rfl rfl ?_; refine WP.nil ?_; refine WP.sub [(2, _), (3, _), (57, _)] ?_ ⟨rfl, rfl, rfl, trivial⟩
  refine WP.leave ?_; exact WP.again ⟨i + 1, J2, L2⟩ ⟨Imm.le_trans hJ hJ2, (show i + 1 ≤ 11 by omega), hk2⟩ (show 11 - (i + 1) < 11 - i by omega) ⟨rfl, rfl, trivial⟩ rfl zA


end Go.Hp
