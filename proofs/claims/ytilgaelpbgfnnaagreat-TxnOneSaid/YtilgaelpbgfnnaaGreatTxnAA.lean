import Derived.Test.YtilgaelpbgfnnaaGreatTxnZ
set_option linter.unusedVariables false
set_option linter.unusedSimpArgs false
namespace Go.Hp
open Go Go.Proofs

structure AwX where
 g : Nat
 ps : List (Pr × Value)
 J : Imm
 L : Chunks
structure AlX where
 i : Nat
 z : Gp
 x : Lg
 tb : Tb
 J : Imm
 Lg : Chunks
 Lt : Chunks
 Ll : Chunks
theorem txn_awake {I : Imm} : Spec Tryz.prog 9 [] I [] (fun v J L => v = .bool true ∧ L = []) := by
 refine Spec.of Tryz.func9 rfl Tryz.ntmps9 (Nat.le_of_ble_eq_true rfl) (fun F => ?_)
 try simp only [nf]
 dsimp only [argsEnv]
 refine WP.seq ?_; refine WP.region [0] rfl ?_; refine WP.mv rfl rfl ?_; refine WP.nil (WP.next (WP.seq ?_))
 refine WP.region [0, 1] rfl ?_; refine WP.loud rfl rfl ?_; refine Op.cl (txn_Begun (m := 20) (by decide) (by decide)) rfl Tryz.func10 rfl rfl rfl rfl ?_; rintro v J Lb - ⟨rfl, x, d, s, l, t, q, rt, rm, r9, tb, Ll, Lt, rfl, rfl, hl, hT, hk0, hn0, hs0, hg0⟩
 try simp only [nf]
 refine WP.mv rfl rfl ?_; refine WP.nil ?_; refine WP.sub [(0, _), (1, _)] ?_ ⟨rfl, rfl, trivial⟩
 refine WP.next (WP.seq (WP.seq ?_))
 refine WP.region [0, 1] rfl ?_; refine WP.mv rfl rfl ?_; refine WP.vl rfl (Yld.eqlNil rfl ty_pt_24 rfl rfl) ?_; refine WP.nil ?_; refine WP.sub [(0, _), (1, _), (18, _)] ?_ ⟨rfl, rfl, rfl, trivial⟩
 refine WP.next ?_; refine WP.condF rfl ?_; refine WP.skip (WP.next (WP.seq ?_))
 have hup0 : tb.upto 0 := fun k => by rw [hg0]; constructor; (intro h; cases h); (intro h; omega)
 refine WP.region [0, 1, 2, 3, 4, 5, 6, 7, 8, 9] rfl ?_; refine WP.mv rfl rfl ?_; refine WP.vl rfl (Yld.nilCheck rfl rfl) ?_; refine WP.vl rfl (Yld.fieldAddr rfl ty_fd_38_3 rfl) ?_; refine WP.vl rfl (Yld.ld (v := .pointer (some ⟨t, 0, none⟩)) rfl ty_sc_32 rfl rfl) ?_; refine WP.loud rfl rfl ?_; refine Op.cl (tabT_AllocN hT (by omega) (m := 0) (by decide) hup0) rfl Tryz.func11 rfl rfl rfl rfl ?_; rintro v J1 L1 hJ1 ⟨x1, rfl, hu1, hup1, hT1⟩
 try simp only [nf]
 have hk1 := hu1.tok
 refine WP.mv rfl rfl ?_; iterate 2 refine WP.vl rfl (Yld.extract rfl rfl rfl) ?_
 iterate 2 refine WP.mv rfl rfl ?_
 refine WP.nil ?_; refine WP.sub [(0, _), (1, _), (2, _), (3, _), (18, _)] ?_ ⟨rfl, rfl, rfl, rfl, rfl, trivial⟩
 refine WP.next (WP.seq ?_)
 refine WP.region [0, 1, 2, 3, 4, 5, 6, 7, 8, 9] rfl ?_; refine WP.mv rfl rfl ?_; refine WP.vl rfl (Yld.nilCheck rfl rfl) ?_; refine WP.vl rfl (Yld.fieldAddr rfl ty_fd_38_3 rfl) ?_; refine WP.vl rfl (Yld.ld (v := .pointer (some ⟨t, 0, none⟩)) rfl ty_sc_32 rfl rfl) ?_; refine WP.loud rfl rfl ?_; refine Op.cl (tabT_AllocN hT1 (by omega) (m := 1) (by decide) hup1) rfl Tryz.func11 rfl rfl rfl rfl ?_; rintro v J2 L2 hJ2 ⟨x2, rfl, hu2, hup2, hT2⟩
 try simp only [nf]
 have hk2 := hu2.tok
 refine WP.mv rfl rfl ?_; iterate 2 refine WP.vl rfl (Yld.extract rfl rfl rfl) ?_
 iterate 2 refine WP.mv rfl rfl ?_
 refine WP.nil ?_; refine WP.sub [(0, _), (1, _), (2, _), (3, _), (4, _), (5, _), (18, _)] ?_ ⟨rfl, rfl, rfl, rfl, rfl, rfl, rfl, trivial⟩
 have hIb := Imm.le_trans hJ1 hJ2
 have hlg := hl.mono hIb
 have hI0 := Imm.le_refl J2
 refine WP.next ?_; refine WP.cut (X := AwX) (fun u : AwX => [(0, .bool false), (1, .pointer (some ⟨x, 0, none⟩)), (2, .int .i64 1), (3, .int .i64 0), (4, .int .i64 2), (5, .int .i64 0), (6, .pointer (some ⟨u.g, 0, none⟩))]) (fun u => u.J) (fun u : AwX => (x, row 38 [.pointer (some ⟨d, 0, none⟩), .pointer (some ⟨s, 0, none⟩), .pointer (some ⟨l, 0, none⟩), .pointer (some ⟨t, 0, none⟩), .pointer (some ⟨q, 0, none⟩), .pointer (some ⟨rt, 0, none⟩), .pointer (some ⟨rm, 0, none⟩), .pointer (some ⟨r9, 0, none⟩)]) :: (u.L ++ (L2 ++ (Ll ++ F)))) (fun u : AwX => J2.le u.J ∧ prs u.ps = twoP 1 2 108 114 ∧ IsGr u.J u.g l t ⟨0, cm0, 1, u.ps, [], 0, []⟩ u.L) ?_ ?_
 ·skip
  refine WD.start Tryzmixed 17 (fun c o => c = x ∧ o = row 38 [.pointer (some ⟨d, 0, none⟩), .pointer (some ⟨s, 0, none⟩), .pointer (some ⟨l, 0, none⟩), .pointer (some ⟨t, 0, none⟩), .pointer (some ⟨q, 0, none⟩), .pointer (some ⟨rt, 0, none⟩), .pointer (some ⟨rm, 0, none⟩), .pointer (some ⟨r9, 0, none⟩)]) (fun _ _ => False) (by rintro _ _ ⟨rfl, rfl⟩; exact zM) (fun _ _ h => h.elim) 19 [false, false, false, false, false, false, false, false, false, false, false, false, false, false, false, false, false, false, false] rfl rfl ?_; refine WD.vl (i := 0) rfl (Yld.move rfl rfl) ?_; refine WD.vl (i := 1) rfl (Yld.nilCheck rfl rfl) ?_; refine WD.vl (i := 2) rfl (Yld.fieldAddr rfl ty_fd_38_2 rfl) ?_; refine WD.val1 (i := 3) rfl rfl rfl rfl zK rfl zK (Yld.load (v := .pointer (some ⟨l, 0, none⟩)) rfl ty_sc_31 rfl (.inl ⟨rfl, rfl⟩) rfl) ?_; refine WD.vl (i := 4) rfl (Yld.move rfl rfl) ?_; refine WD.vl (i := 5) rfl (Yld.nilCheck rfl rfl) ?_; refine WD.vl (i := 6) rfl (Yld.fieldAddr rfl ty_fd_38_3 rfl) ?_; refine WD.val1 (i := 7) rfl rfl rfl rfl zK rfl zK (Yld.load (v := .pointer (some ⟨t, 0, none⟩)) rfl ty_sc_32 rfl (.inl ⟨rfl, rfl⟩) rfl) ?_; refine WD.both (i := 8) (j := 12) zK rfl rfl ?_ ?_
  ·refine WP.oper rfl rfl ?_
   refine Op.buildSlice rfl ty_sl_49 ty_el2_49 rfl rfl rfl rfl (vs := [_]) rfl (segs := [(0, [_])]) (cs := bytesV [108]) rfl rfl zS (fun bl => ?_)
   refine WD.gR ?_; refine WD.both (i := 9) (j := 12) zK rfl rfl ?_ ?_
   ·refine WP.oper rfl rfl ?_
    refine Op.mark (cs := bytesV [108]) rfl Tryz.underlying49 zK rfl rfl rfl (by repeat (first | exact Rm.chunk | exact Rm.here | exact Rm.nil0 | apply Rm.skip | apply Rm.skipS)) (fun J9 hJ9 hmJ9 => ?_)
    have hsJ9 := Im_lit' (c := 1) hmJ9 (Nat.le_refl _)
    have hIJ9 : J2.le J9 := (by first | exact Imm.le_trans hI0 hJ9 | exact Imm.le_trans hIJ13 hJ9)
    refine WD.gR ?_; refine WD.both (i := 10) (j := 12) zK rfl rfl ?_ ?_
    ·refine WP.oper rfl rfl ?_
     refine Op.cl (txn_Page (d := [108]) (by first | exact hsJ9 | exact hsJ9.mono (fun b o q => hJ13.2 b o q))) rfl Tryz.func14 rfl rfl rfl rfl ?_; rintro v J10 L10 hJ10 ⟨rfl, hr10⟩
     try simp only [nf]
     have hI10 : J2.le J10 := (by first | exact Imm.le_trans hIJ9 hJ10 | exact Imm.le_trans hIJ13 hJ10)
     obtain ⟨A10, c10, rfl⟩ := hr10.sl
     refine WD.gR ?_; refine WD.vl (i := 11) rfl (Yld.buildS (pl := [(0, 0, 1), (2, 2, 1)]) rfl ty_zr_51 ty_zd_51 zK rfl (vs := [_, _]) rfl (segs := [(0, [_]), (2, [_])]) rfl rfl zS) ?_; refine WD.loud (i := 12) zK rfl rfl rfl ?_; refine Op.buildSlice rfl ty_sl_49 ty_el2_49 rfl rfl rfl rfl (vs := [_]) rfl (segs := [(0, [_])]) (cs := bytesV [114]) rfl rfl zS (fun br => ?_)
     refine WD.gR ?_; refine WD.loud (i := 13) zK rfl rfl rfl ?_; refine Op.mark (cs := bytesV [114]) rfl Tryz.underlying49 zK rfl rfl rfl (by repeat (first | exact Rm.chunk | exact Rm.here | exact Rm.nil0 | apply Rm.skip | apply Rm.skipS)) (fun J13 hJ13 hmJ13 => ?_)
     have hsJ13 := Im_lit' (c := 1) hmJ13 (Nat.le_refl _)
     have hIJ13 : J2.le J13 := (by first | exact Imm.le_trans hI0 hJ13 | exact Imm.le_trans hIJ9 hJ13 | exact Imm.le_trans hI10 hJ13)
     refine WD.gR ?_; refine WD.loud (i := 14) zK rfl rfl rfl ?_; refine Op.cl (txn_Page (d := [114]) (by first | exact hsJ13 | exact hsJ13.mono (fun b o q => hJ10.2 b o q) | exact hsJ13.mono (fun b o q => (Imm.le_trans hJ9 hJ10).2 b o q))) rfl Tryz.func14 rfl rfl rfl rfl ?_; rintro v J14 L14 hJ14 ⟨rfl, hr14⟩
     try simp only [nf]
     have hI14 : J2.le J14 := (by first | exact Imm.le_trans hI10 hJ14 | exact Imm.le_trans hIJ13 hJ14)
     obtain ⟨A14, c14, rfl⟩ := hr14.sl
     have hr10' := hr10.mono (by first | exact hJ14 | exact (Imm.le_trans hJ13 hJ14))
     refine WD.gR ?_; refine WD.vl (i := 15) rfl (Yld.buildS (pl := [(0, 0, 1), (2, 2, 1)]) rfl ty_zr_51 ty_zd_51 zK rfl (vs := [_, _]) rfl (segs := [(0, [_]), (2, [_])]) rfl rfl zS) ?_; refine WD.loud (i := 16) zK rfl rfl rfl ?_; refine Op.buildSlice rfl ty_sl_52 ty_el2_52 rfl rfl rfl rfl (vs := [_, _]) rfl (segs := [(0, [.int .i64 1, .int .i64 0, .slice A10 1 c10]), (3, [.int .i64 2, .int .i64 0, .slice A14 1 c14])]) (cs := prC (twoV 1 2 108 114 (.slice A10 1 c10) (.slice A14 1 c14))) rfl rfl (.seg (Nat.le_of_ble_eq_true rfl) rfl (.seg (Nat.le_of_ble_eq_true rfl) rfl .nil)) (fun bp => ?_)
     refine WD.gR ?_; refine WD.loud (i := 17) zK rfl rfl rfl ?_; refine Op.cl (txn_NewO (b := bp) (tok := 1) (pages := twoV 1 2 108 114 (.slice A10 1 c10) (.slice A14 1 c14)) (two_el hr10' hr14) (by show 2 ≤ _; decide) two_sz) rfl Tryz.func13 rfl rfl rfl rfl ?_; rintro v J17 Lg0 hJ17 ⟨g, ps, Lg, rfl, hps, rfl, hgr⟩
     try simp only [nf]
     refine WD.go (.inl rfl) (fun _ _ h => h.elim) ?_; refine WD.vl (i := 18) rfl (Yld.assign rfl rfl) ?_; refine WD.done zK ?_; refine WP.sub [(0, _), (1, _), (2, _), (3, _), (4, _), (5, _), (6, _), (18, _)] ?_ ⟨rfl, rfl, rfl, rfl, rfl, rfl, rfl, rfl, trivial⟩
     exact WP.meet (⟨g, ps, J17, _⟩ : AwX) ⟨Imm.le_trans hI14 hJ17, hps, hgr⟩ ⟨rfl, rfl, rfl, rfl, rfl, rfl, rfl, trivial⟩ rfl zA
    ·refine WP.oper rfl rfl ?_
     refine Op.buildSlice rfl ty_sl_49 ty_el2_49 rfl rfl rfl rfl (vs := [_]) rfl (segs := [(0, [_])]) (cs := bytesV [114]) rfl rfl zS (fun br => ?_)
     refine WD.gR ?_; refine WD.both (i := 10) (j := 13) zK rfl rfl ?_ ?_
     ·refine WP.oper rfl rfl ?_
      refine Op.cl (txn_Page (d := [108]) (by first | exact hsJ9 | exact hsJ9.mono (fun b o q => hJ13.2 b o q))) rfl Tryz.func14 rfl rfl rfl rfl ?_; rintro v J10 L10 hJ10 ⟨rfl, hr10⟩
      try simp only [nf]
      have hI10 : J2.le J10 := (by first | exact Imm.le_trans hIJ9 hJ10 | exact Imm.le_trans hIJ13 hJ10)
      obtain ⟨A10, c10, rfl⟩ := hr10.sl
      refine WD.gR ?_; refine WD.vl (i := 11) rfl (Yld.buildS (pl := [(0, 0, 1), (2, 2, 1)]) rfl ty_zr_51 ty_zd_51 zK rfl (vs := [_, _]) rfl (segs := [(0, [_]), (2, [_])]) rfl rfl zS) ?_; refine WD.loud (i := 13) zK rfl rfl rfl ?_; refine Op.mark (cs := bytesV [114]) rfl Tryz.underlying49 zK rfl rfl rfl (by repeat (first | exact Rm.chunk | exact Rm.here | exact Rm.nil0 | apply Rm.skip | apply Rm.skipS)) (fun J13 hJ13 hmJ13 => ?_)
      have hsJ13 := Im_lit' (c := 1) hmJ13 (Nat.le_refl _)
      have hIJ13 : J2.le J13 := (by first | exact Imm.le_trans hI0 hJ13 | exact Imm.le_trans hIJ9 hJ13 | exact Imm.le_trans hI10 hJ13)
      refine WD.gR ?_; refine WD.loud (i := 14) zK rfl rfl rfl ?_; refine Op.cl (txn_Page (d := [114]) (by first | exact hsJ13 | exact hsJ13.mono (fun b o q => hJ10.2 b o q) | exact hsJ13.mono (fun b o q => (Imm.le_trans hJ9 hJ10).2 b o q))) rfl Tryz.func14 rfl rfl rfl rfl ?_; rintro v J14 L14 hJ14 ⟨rfl, hr14⟩
      try simp only [nf]
      have hI14 : J2.le J14 := (by first | exact Imm.le_trans hI10 hJ14 | exact Imm.le_trans hIJ13 hJ14)
      obtain ⟨A14, c14, rfl⟩ := hr14.sl
      have hr10' := hr10.mono (by first | exact hJ14 | exact (Imm.le_trans hJ13 hJ14))
      refine WD.gR ?_; refine WD.vl (i := 15) rfl (Yld.buildS (pl := [(0, 0, 1), (2, 2, 1)]) rfl ty_zr_51 ty_zd_51 zK rfl (vs := [_, _]) rfl (segs := [(0, [_]), (2, [_])]) rfl rfl zS) ?_; refine WD.loud (i := 16) zK rfl rfl rfl ?_; refine Op.buildSlice rfl ty_sl_52 ty_el2_52 rfl rfl rfl rfl (vs := [_, _]) rfl (segs := [(0, [.int .i64 1, .int .i64 0, .slice A10 1 c10]), (3, [.int .i64 2, .int .i64 0, .slice A14 1 c14])]) (cs := prC (twoV 1 2 108 114 (.slice A10 1 c10) (.slice A14 1 c14))) rfl rfl (.seg (Nat.le_of_ble_eq_true rfl) rfl (.seg (Nat.le_of_ble_eq_true rfl) rfl .nil)) (fun bp => ?_)
      refine WD.gR ?_; refine WD.loud (i := 17) zK rfl rfl rfl ?_; refine Op.cl (txn_NewO (b := bp) (tok := 1) (pages := twoV 1 2 108 114 (.slice A10 1 c10) (.slice A14 1 c14)) (two_el hr10' hr14) (by show 2 ≤ _; decide) two_sz) rfl Tryz.func13 rfl rfl rfl rfl ?_; rintro v J17 Lg0 hJ17 ⟨g, ps, Lg, rfl, hps, rfl, hgr⟩
      try simp only [nf]
      refine WD.go (.inl rfl) (fun _ _ h => h.elim) ?_; refine WD.vl (i := 18) rfl (Yld.assign rfl rfl) ?_; refine WD.done zK ?_; refine WP.sub [(0, _), (1, _), (2, _), (3, _), (4, _), (5, _), (6, _), (18, _)] ?_ ⟨rfl, rfl, rfl, rfl, rfl, rfl, rfl, rfl, trivial⟩
      exact WP.meet (⟨g, ps, J17, _⟩ : AwX) ⟨Imm.le_trans hI14 hJ17, hps, hgr⟩ ⟨rfl, rfl, rfl, rfl, rfl, rfl, rfl, trivial⟩ rfl zA
     ·refine WP.oper rfl rfl ?_
      refine Op.mark (cs := bytesV [114]) rfl Tryz.underlying49 zK rfl rfl rfl (by repeat (first | exact Rm.chunk | exact Rm.here | exact Rm.nil0 | apply Rm.skip | apply Rm.skipS)) (fun J13 hJ13 hmJ13 => ?_)
      have hsJ13 := Im_lit' (c := 1) hmJ13 (Nat.le_refl _)
      have hIJ13 : J2.le J13 := (by first | exact Imm.le_trans hI0 hJ13 | exact Imm.le_trans hIJ9 hJ13 | exact Imm.le_trans hI10 hJ13)
      refine WD.gR ?_; refine WD.loud (i := 10) zK rfl rfl rfl ?_; refine Op.cl (txn_Page (d := [108]) (by first | exact hsJ9 | exact hsJ9.mono (fun b o q => hJ13.2 b o q))) rfl Tryz.func14 rfl rfl rfl rfl ?_; rintro v J10 L10 hJ10 ⟨rfl, hr10⟩
      try simp only [nf]
      have hI10 : J2.le J10 := (by first | exact Imm.le_trans hIJ9 hJ10 | exact Imm.le_trans hIJ13 hJ10)
      obtain ⟨A10, c10, rfl⟩ := hr10.sl
      refine WD.gR ?_; refine WD.vl (i := 11) rfl (Yld.buildS (pl := [(0, 0, 1), (2, 2, 1)]) rfl ty_zr_51 ty_zd_51 zK rfl (vs := [_, _]) rfl (segs := [(0, [_]), (2, [_])]) rfl rfl zS) ?_; refine WD.loud (i := 14) zK rfl rfl rfl ?_; refine Op.cl (txn_Page (d := [114]) (by first | exact hsJ13 | exact hsJ13.mono (fun b o q => hJ10.2 b o q) | exact hsJ13.mono (fun b o q => (Imm.le_trans hJ9 hJ10).2 b o q))) rfl Tryz.func14 rfl rfl rfl rfl ?_; rintro v J14 L14 hJ14 ⟨rfl, hr14⟩
      try simp only [nf]
      have hI14 : J2.le J14 := (by first | exact Imm.le_trans hI10 hJ14 | exact Imm.le_trans hIJ13 hJ14)
      obtain ⟨A14, c14, rfl⟩ := hr14.sl
      have hr10' := hr10.mono (by first | exact hJ14 | exact (Imm.le_trans hJ13 hJ14))
      refine WD.gR ?_; refine WD.vl (i := 15) rfl (Yld.buildS (pl := [(0, 0, 1), (2, 2, 1)]) rfl ty_zr_51 ty_zd_51 zK rfl (vs := [_, _]) rfl (segs := [(0, [_]), (2, [_])]) rfl rfl zS) ?_; refine WD.loud (i := 16) zK rfl rfl rfl ?_; refine Op.buildSlice rfl ty_sl_52 ty_el2_52 rfl rfl rfl rfl (vs := [_, _]) rfl (segs := [(0, [.int .i64 1, .int .i64 0, .slice A10 1 c10]), (3, [.int .i64 2, .int .i64 0, .slice A14 1 c14])]) (cs := prC (twoV 1 2 108 114 (.slice A10 1 c10) (.slice A14 1 c14))) rfl rfl (.seg (Nat.le_of_ble_eq_true rfl) rfl (.seg (Nat.le_of_ble_eq_true rfl) rfl .nil)) (fun bp => ?_)
      refine WD.gR ?_; refine WD.loud (i := 17) zK rfl rfl rfl ?_; refine Op.cl (txn_NewO (b := bp) (tok := 1) (pages := twoV 1 2 108 114 (.slice A10 1 c10) (.slice A14 1 c14)) (two_el hr10' hr14) (by show 2 ≤ _; decide) two_sz) rfl Tryz.func13 rfl rfl rfl rfl ?_; rintro v J17 Lg0 hJ17 ⟨g, ps, Lg, rfl, hps, rfl, hgr⟩
      try simp only [nf]
      refine WD.go (.inl rfl) (fun _ _ h => h.elim) ?_; refine WD.vl (i := 18) rfl (Yld.assign rfl rfl) ?_; refine WD.done zK ?_; refine WP.sub [(0, _), (1, _), (2, _), (3, _), (4, _), (5, _), (6, _), (18, _)] ?_ ⟨rfl, rfl, rfl, rfl, rfl, rfl, rfl, rfl, trivial⟩
      exact WP.meet (⟨g, ps, J17, _⟩ : AwX) ⟨Imm.le_trans hI14 hJ17, hps, hgr⟩ ⟨rfl, rfl, rfl, rfl, rfl, rfl, rfl, trivial⟩ rfl zA
   ·refine WP.oper rfl rfl ?_
    refine Op.buildSlice rfl ty_sl_49 ty_el2_49 rfl rfl rfl rfl (vs := [_]) rfl (segs := [(0, [_])]) (cs := bytesV [114]) rfl rfl zS (fun br => ?_)
    refine WD.gR ?_; refine WD.both (i := 9) (j := 13) zK rfl rfl ?_ ?_
    ·refine WP.oper rfl rfl ?_
     refine Op.mark (cs := bytesV [108]) rfl Tryz.underlying49 zK rfl rfl rfl (by repeat (first | exact Rm.chunk | exact Rm.here | exact Rm.nil0 | apply Rm.skip | apply Rm.skipS)) (fun J9 hJ9 hmJ9 => ?_)
     have hsJ9 := Im_lit' (c := 1) hmJ9 (Nat.le_refl _)
     have hIJ9 : J2.le J9 := (by first | exact Imm.le_trans hI0 hJ9 | exact Imm.le_trans hIJ13 hJ9)
     refine WD.gR ?_; refine WD.both (i := 10) (j := 13) zK rfl rfl ?_ ?_
     ·refine WP.oper rfl rfl ?_
      refine Op.cl (txn_Page (d := [108]) (by first | exact hsJ9 | exact hsJ9.mono (fun b o q => hJ13.2 b o q))) rfl Tryz.func14 rfl rfl rfl rfl ?_; rintro v J10 L10 hJ10 ⟨rfl, hr10⟩
      try simp only [nf]
      have hI10 : J2.le J10 := (by first | exact Imm.le_trans hIJ9 hJ10 | exact Imm.le_trans hIJ13 hJ10)
      obtain ⟨A10, c10, rfl⟩ := hr10.sl
      refine WD.gR ?_; refine WD.vl (i := 11) rfl (Yld.buildS (pl := [(0, 0, 1), (2, 2, 1)]) rfl ty_zr_51 ty_zd_51 zK rfl (vs := [_, _]) rfl (segs := [(0, [_]), (2, [_])]) rfl rfl zS) ?_; refine WD.loud (i := 13) zK rfl rfl rfl ?_; refine Op.mark (cs := bytesV [114]) rfl Tryz.underlying49 zK rfl rfl rfl (by repeat (first | exact Rm.chunk | exact Rm.here | exact Rm.nil0 | apply Rm.skip | apply Rm.skipS)) (fun J13 hJ13 hmJ13 => ?_)
      have hsJ13 := Im_lit' (c := 1) hmJ13 (Nat.le_refl _)
      have hIJ13 : J2.le J13 := (by first | exact Imm.le_trans hI0 hJ13 | exact Imm.le_trans hIJ9 hJ13 | exact Imm.le_trans hI10 hJ13)
      refine WD.gR ?_; refine WD.loud (i := 14) zK rfl rfl rfl ?_; refine Op.cl (txn_Page (d := [114]) (by first | exact hsJ13 | exact hsJ13.mono (fun b o q => hJ10.2 b o q) | exact hsJ13.mono (fun b o q => (Imm.le_trans hJ9 hJ10).2 b o q))) rfl Tryz.func14 rfl rfl rfl rfl ?_; rintro v J14 L14 hJ14 ⟨rfl, hr14⟩
      try simp only [nf]
      have hI14 : J2.le J14 := (by first | exact Imm.le_trans hI10 hJ14 | exact Imm.le_trans hIJ13 hJ14)
      obtain ⟨A14, c14, rfl⟩ := hr14.sl
      have hr10' := hr10.mono (by first | exact hJ14 | exact (Imm.le_trans hJ13 hJ14))
      refine WD.gR ?_; refine WD.vl (i := 15) rfl (Yld.buildS (pl := [(0, 0, 1), (2, 2, 1)]) rfl ty_zr_51 ty_zd_51 zK rfl (vs := [_, _]) rfl (segs := [(0, [_]), (2, [_])]) rfl rfl zS) ?_; refine WD.loud (i := 16) zK rfl rfl rfl ?_; refine Op.buildSlice rfl ty_sl_52 ty_el2_52 rfl rfl rfl rfl (vs := [_, _]) rfl (segs := [(0, [.int .i64 1, .int .i64 0, .slice A10 1 c10]), (3, [.int .i64 2, .int .i64 0, .slice A14 1 c14])]) (cs := prC (twoV 1 2 108 114 (.slice A10 1 c10) (.slice A14 1 c14))) rfl rfl (.seg (Nat.le_of_ble_eq_true rfl) rfl (.seg (Nat.le_of_ble_eq_true rfl) rfl .nil)) (fun bp => ?_)
      refine WD.gR ?_; refine WD.loud (i := 17) zK rfl rfl rfl ?_; refine Op.cl (txn_NewO (b := bp) (tok := 1) (pages := twoV 1 2 108 114 (.slice A10 1 c10) (.slice A14 1 c14)) (two_el hr10' hr14) (by show 2 ≤ _; decide) two_sz) rfl Tryz.func13 rfl rfl rfl rfl ?_; rintro v J17 Lg0 hJ17 ⟨g, ps, Lg, rfl, hps, rfl, hgr⟩
      try simp only [nf]
      refine WD.go (.inl rfl) (fun _ _ h => h.elim) ?_; refine WD.vl (i := 18) rfl (Yld.assign rfl rfl) ?_; refine WD.done zK ?_; refine WP.sub [(0, _), (1, _), (2, _), (3, _), (4, _), (5, _), (6, _), (18, _)] ?_ ⟨rfl, rfl, rfl, rfl, rfl, rfl, rfl, rfl, trivial⟩
      exact WP.meet (⟨g, ps, J17, _⟩ : AwX) ⟨Imm.le_trans hI14 hJ17, hps, hgr⟩ ⟨rfl, rfl, rfl, rfl, rfl, rfl, rfl, trivial⟩ rfl zA
     ·refine WP.oper rfl rfl ?_
      refine Op.mark (cs := bytesV [114]) rfl Tryz.underlying49 zK rfl rfl rfl (by repeat (first | exact Rm.chunk | exact Rm.here | exact Rm.nil0 | apply Rm.skip | apply Rm.skipS)) (fun J13 hJ13 hmJ13 => ?_)
      have hsJ13 := Im_lit' (c := 1) hmJ13 (Nat.le_refl _)
      have hIJ13 : J2.le J13 := (by first | exact Imm.le_trans hI0 hJ13 | exact Imm.le_trans hIJ9 hJ13 | exact Imm.le_trans hI10 hJ13)
      refine WD.gR ?_; refine WD.loud (i := 10) zK rfl rfl rfl ?_; refine Op.cl (txn_Page (d := [108]) (by first | exact hsJ9 | exact hsJ9.mono (fun b o q => hJ13.2 b o q))) rfl Tryz.func14 rfl rfl rfl rfl ?_; rintro v J10 L10 hJ10 ⟨rfl, hr10⟩
      try simp only [nf]
      have hI10 : J2.le J10 := (by first | exact Imm.le_trans hIJ9 hJ10 | exact Imm.le_trans hIJ13 hJ10)
      obtain ⟨A10, c10, rfl⟩ := hr10.sl
      refine WD.gR ?_; refine WD.vl (i := 11) rfl (Yld.buildS (pl := [(0, 0, 1), (2, 2, 1)]) rfl ty_zr_51 ty_zd_51 zK rfl (vs := [_, _]) rfl (segs := [(0, [_]), (2, [_])]) rfl rfl zS) ?_; refine WD.loud (i := 14) zK rfl rfl rfl ?_; refine Op.cl (txn_Page (d := [114]) (by first | exact hsJ13 | exact hsJ13.mono (fun b o q => hJ10.2 b o q) | exact hsJ13.mono (fun b o q => (Imm.le_trans hJ9 hJ10).2 b o q))) rfl Tryz.func14 rfl rfl rfl rfl ?_; rintro v J14 L14 hJ14 ⟨rfl, hr14⟩
      try simp only [nf]
      have hI14 : J2.le J14 := (by first | exact Imm.le_trans hI10 hJ14 | exact Imm.le_trans hIJ13 hJ14)
      obtain ⟨A14, c14, rfl⟩ := hr14.sl
      have hr10' := hr10.mono (by first | exact hJ14 | exact (Imm.le_trans hJ13 hJ14))
      refine WD.gR ?_; refine WD.vl (i := 15) rfl (Yld.buildS (pl := [(0, 0, 1), (2, 2, 1)]) rfl ty_zr_51 ty_zd_51 zK rfl (vs := [_, _]) rfl (segs := [(0, [_]), (2, [_])]) rfl rfl zS) ?_; refine WD.loud (i := 16) zK rfl rfl rfl ?_; refine Op.buildSlice rfl ty_sl_52 ty_el2_52 rfl rfl rfl rfl (vs := [_, _]) rfl (segs := [(0, [.int .i64 1, .int .i64 0, .slice A10 1 c10]), (3, [.int .i64 2, .int .i64 0, .slice A14 1 c14])]) (cs := prC (twoV 1 2 108 114 (.slice A10 1 c10) (.slice A14 1 c14))) rfl rfl (.seg (Nat.le_of_ble_eq_true rfl) rfl (.seg (Nat.le_of_ble_eq_true rfl) rfl .nil)) (fun bp => ?_)
      refine WD.gR ?_; refine WD.loud (i := 17) zK rfl rfl rfl ?_; refine Op.cl (txn_NewO (b := bp) (tok := 1) (pages := twoV 1 2 108 114 (.slice A10 1 c10) (.slice A14 1 c14)) (two_el hr10' hr14) (by show 2 ≤ _; decide) two_sz) rfl Tryz.func13 rfl rfl rfl rfl ?_; rintro v J17 Lg0 hJ17 ⟨g, ps, Lg, rfl, hps, rfl, hgr⟩
      try simp only [nf]
      refine WD.go (.inl rfl) (fun _ _ h => h.elim) ?_; refine WD.vl (i := 18) rfl (Yld.assign rfl rfl) ?_; refine WD.done zK ?_; refine WP.sub [(0, _), (1, _), (2, _), (3, _), (4, _), (5, _), (6, _), (18, _)] ?_ ⟨rfl, rfl, rfl, rfl, rfl, rfl, rfl, rfl, trivial⟩
      exact WP.meet (⟨g, ps, J17, _⟩ : AwX) ⟨Imm.le_trans hI14 hJ17, hps, hgr⟩ ⟨rfl, rfl, rfl, rfl, rfl, rfl, rfl, trivial⟩ rfl zA
    ·refine WP.oper rfl rfl ?_
     refine Op.mark (cs := bytesV [114]) rfl Tryz.underlying49 zK rfl rfl rfl (by repeat (first | exact Rm.chunk | exact Rm.here | exact Rm.nil0 | apply Rm.skip | apply Rm.skipS)) (fun J13 hJ13 hmJ13 => ?_)
     have hsJ13 := Im_lit' (c := 1) hmJ13 (Nat.le_refl _)
     have hIJ13 : J2.le J13 := (by first | exact Imm.le_trans hI0 hJ13 | exact Imm.le_trans hIJ9 hJ13 | exact Imm.le_trans hI10 hJ13)
     refine WD.gR ?_; refine WD.loud (i := 9) zK rfl rfl rfl ?_; refine Op.mark (cs := bytesV [108]) rfl Tryz.underlying49 zK rfl rfl rfl (by repeat (first | exact Rm.chunk | exact Rm.here | exact Rm.nil0 | apply Rm.skip | apply Rm.skipS)) (fun J9 hJ9 hmJ9 => ?_)
     have hsJ9 := Im_lit' (c := 1) hmJ9 (Nat.le_refl _)
     have hIJ9 : J2.le J9 := (by first | exact Imm.le_trans hI0 hJ9 | exact Imm.le_trans hIJ13 hJ9)
     refine WD.gR ?_; refine WD.loud (i := 10) zK rfl rfl rfl ?_; refine Op.cl (txn_Page (d := [108]) (by first | exact hsJ9 | exact hsJ9.mono (fun b o q => hJ13.2 b o q))) rfl Tryz.func14 rfl rfl rfl rfl ?_; rintro v J10 L10 hJ10 ⟨rfl, hr10⟩
     try simp only [nf]
     have hI10 : J2.le J10 := (by first | exact Imm.le_trans hIJ9 hJ10 | exact Imm.le_trans hIJ13 hJ10)
     obtain ⟨A10, c10, rfl⟩ := hr10.sl
     refine WD.gR ?_; refine WD.vl (i := 11) rfl (Yld.buildS (pl := [(0, 0, 1), (2, 2, 1)]) rfl ty_zr_51 ty_zd_51 zK rfl (vs := [_, _]) rfl (segs := [(0, [_]), (2, [_])]) rfl rfl zS) ?_; refine WD.loud (i := 14) zK rfl rfl rfl ?_; refine Op.cl (txn_Page (d := [114]) (by first | exact hsJ13 | exact hsJ13.mono (fun b o q => hJ10.2 b o q) | exact hsJ13.mono (fun b o q => (Imm.le_trans hJ9 hJ10).2 b o q))) rfl Tryz.func14 rfl rfl rfl rfl ?_; rintro v J14 L14 hJ14 ⟨rfl, hr14⟩
     try simp only [nf]
     have hI14 : J2.le J14 := (by first | exact Imm.le_trans hI10 hJ14 | exact Imm.le_trans hIJ13 hJ14)
     obtain ⟨A14, c14, rfl⟩ := hr14.sl
     have hr10' := hr10.mono (by first | exact hJ14 | exact (Imm.le_trans hJ13 hJ14))
     refine WD.gR ?_; refine WD.vl (i := 15) rfl (Yld.buildS (pl := [(0, 0, 1), (2, 2, 1)]) rfl ty_zr_51 ty_zd_51 zK rfl (vs := [_, _]) rfl (segs := [(0, [_]), (2, [_])]) rfl rfl zS) ?_; refine WD.loud (i := 16) zK rfl rfl rfl ?_; refine Op.buildSlice rfl ty_sl_52 ty_el2_52 rfl rfl rfl rfl (vs := [_, _]) rfl (segs := [(0, [.int .i64 1, .int .i64 0, .slice A10 1 c10]), (3, [.int .i64 2, .int .i64 0, .slice A14 1 c14])]) (cs := prC (twoV 1 2 108 114 (.slice A10 1 c10) (.slice A14 1 c14))) rfl rfl (.seg (Nat.le_of_ble_eq_true rfl) rfl (.seg (Nat.le_of_ble_eq_true rfl) rfl .nil)) (fun bp => ?_)
     refine WD.gR ?_; refine WD.loud (i := 17) zK rfl rfl rfl ?_; refine Op.cl (txn_NewO (b := bp) (tok := 1) (pages := twoV 1 2 108 114 (.slice A10 1 c10) (.slice A14 1 c14)) (two_el hr10' hr14) (by show 2 ≤ _; decide) two_sz) rfl Tryz.func13 rfl rfl rfl rfl ?_; rintro v J17 Lg0 hJ17 ⟨g, ps, Lg, rfl, hps, rfl, hgr⟩
     try simp only [nf]
     refine WD.go (.inl rfl) (fun _ _ h => h.elim) ?_; refine WD.vl (i := 18) rfl (Yld.assign rfl rfl) ?_; refine WD.done zK ?_; refine WP.sub [(0, _), (1, _), (2, _), (3, _), (4, _), (5, _), (6, _), (18, _)] ?_ ⟨rfl, rfl, rfl, rfl, rfl, rfl, rfl, rfl, trivial⟩
     exact WP.meet (⟨g, ps, J17, _⟩ : AwX) ⟨Imm.le_trans hI14 hJ17, hps, hgr⟩ ⟨rfl, rfl, rfl, rfl, rfl, rfl, rfl, trivial⟩ rfl zA
  ·refine WP.oper rfl rfl ?_
   refine Op.buildSlice rfl ty_sl_49 ty_el2_49 rfl rfl rfl rfl (vs := [_]) rfl (segs := [(0, [_])]) (cs := bytesV [114]) rfl rfl zS (fun br => ?_)
   refine WD.gR ?_; refine WD.both (i := 8) (j := 13) zK rfl rfl ?_ ?_
   ·refine WP.oper rfl rfl ?_
    refine Op.buildSlice rfl ty_sl_49 ty_el2_49 rfl rfl rfl rfl (vs := [_]) rfl (segs := [(0, [_])]) (cs := bytesV [108]) rfl rfl zS (fun bl => ?_)
    refine WD.gR ?_; refine WD.both (i := 9) (j := 13) zK rfl rfl ?_ ?_
    ·refine WP.oper rfl rfl ?_
     refine Op.mark (cs := bytesV [108]) rfl Tryz.underlying49 zK rfl rfl rfl (by repeat (first | exact Rm.chunk | exact Rm.here | exact Rm.nil0 | apply Rm.skip | apply Rm.skipS)) (fun J9 hJ9 hmJ9 => ?_)
     have hsJ9 := Im_lit' (c := 1) hmJ9 (Nat.le_refl _)
     have hIJ9 : J2.le J9 := (by first | exact Imm.le_trans hI0 hJ9 | exact Imm.le_trans hIJ13 hJ9)
     refine WD.gR ?_; refine WD.both (i := 10) (j := 13) zK rfl rfl ?_ ?_
     ·refine WP.oper rfl rfl ?_
      refine Op.cl (txn_Page (d := [108]) (by first | exact hsJ9 | exact hsJ9.mono (fun b o q => hJ13.2 b o q))) rfl Tryz.func14 rfl rfl rfl rfl ?_; rintro v J10 L10 hJ10 ⟨rfl, hr10⟩
      try simp only [nf]
      have hI10 : J2.le J10 := (by first | exact Imm.le_trans hIJ9 hJ10 | exact Imm.le_trans hIJ13 hJ10)
      obtain ⟨A10, c10, rfl⟩ := hr10.sl
      refine WD.gR ?_; refine WD.vl (i := 11) rfl (Yld.buildS (pl := [(0, 0, 1), (2, 2, 1)]) rfl ty_zr_51 ty_zd_51 zK rfl (vs := [_, _]) rfl (segs := [(0, [_]), (2, [_])]) rfl rfl zS) ?_; refine WD.loud (i := 13) zK rfl rfl rfl ?_; refine Op.mark (cs := bytesV [114]) rfl Tryz.underlying49 zK rfl rfl rfl (by repeat (first | exact Rm.chunk | exact Rm.here | exact Rm.nil0 | apply Rm.skip | apply Rm.skipS)) (fun J13 hJ13 hmJ13 => ?_)
      have hsJ13 := Im_lit' (c := 1) hmJ13 (Nat.le_refl _)
      have hIJ13 : J2.le J13 := (by first | exact Imm.le_trans hI0 hJ13 | exact Imm.le_trans hIJ9 hJ13 | exact Imm.le_trans hI10 hJ13)
      refine WD.gR ?_; refine WD.loud (i := 14) zK rfl rfl rfl ?_; refine Op.cl (txn_Page (d := [114]) (by first | exact hsJ13 | exact hsJ13.mono (fun b o q => hJ10.2 b o q) | exact hsJ13.mono (fun b o q => (Imm.le_trans hJ9 hJ10).2 b o q))) rfl Tryz.func14 rfl rfl rfl rfl ?_; rintro v J14 L14 hJ14 ⟨rfl, hr14⟩
      try simp only [nf]
      have hI14 : J2.le J14 := (by first | exact Imm.le_trans hI10 hJ14 | exact Imm.le_trans hIJ13 hJ14)
      obtain ⟨A14, c14, rfl⟩ := hr14.sl
      have hr10' := hr10.mono (by first | exact hJ14 | exact (Imm.le_trans hJ13 hJ14))
      refine WD.gR ?_; refine WD.vl (i := 15) rfl (Yld.buildS (pl := [(0, 0, 1), (2, 2, 1)]) rfl ty_zr_51 ty_zd_51 zK rfl (vs := [_, _]) rfl (segs := [(0, [_]), (2, [_])]) rfl rfl zS) ?_; refine WD.loud (i := 16) zK rfl rfl rfl ?_; refine Op.buildSlice rfl ty_sl_52 ty_el2_52 rfl rfl rfl rfl (vs := [_, _]) rfl (segs := [(0, [.int .i64 1, .int .i64 0, .slice A10 1 c10]), (3, [.int .i64 2, .int .i64 0, .slice A14 1 c14])]) (cs := prC (twoV 1 2 108 114 (.slice A10 1 c10) (.slice A14 1 c14))) rfl rfl (.seg (Nat.le_of_ble_eq_true rfl) rfl (.seg (Nat.le_of_ble_eq_true rfl) rfl .nil)) (fun bp => ?_)
      refine WD.gR ?_; refine WD.loud (i := 17) zK rfl rfl rfl ?_; refine Op.cl (txn_NewO (b := bp) (tok := 1) (pages := twoV 1 2 108 114 (.slice A10 1 c10) (.slice A14 1 c14)) (two_el hr10' hr14) (by show 2 ≤ _; decide) two_sz) rfl Tryz.func13 rfl rfl rfl rfl ?_; rintro v J17 Lg0 hJ17 ⟨g, ps, Lg, rfl, hps, rfl, hgr⟩
      try simp only [nf]
      refine WD.go (.inl rfl) (fun _ _ h => h.elim) ?_; refine WD.vl (i := 18) rfl (Yld.assign rfl rfl) ?_; refine WD.done zK ?_; refine WP.sub [(0, _), (1, _), (2, _), (3, _), (4, _), (5, _), (6, _), (18, _)] ?_ ⟨rfl, rfl, rfl, rfl, rfl, rfl, rfl, rfl, trivial⟩
      exact WP.meet (⟨g, ps, J17, _⟩ : AwX) ⟨Imm.le_trans hI14 hJ17, hps, hgr⟩ ⟨rfl, rfl, rfl, rfl, rfl, rfl, rfl, trivial⟩ rfl zA
     ·refine WP.oper rfl rfl ?_
      refine Op.mark (cs := bytesV [114]) rfl Tryz.underlying49 zK rfl rfl rfl (by repeat (first | exact Rm.chunk | exact Rm.here | exact Rm.nil0 | apply Rm.skip | apply Rm.skipS)) (fun J13 hJ13 hmJ13 => ?_)
      have hsJ13 := Im_lit' (c := 1) hmJ13 (Nat.le_refl _)
      have hIJ13 : J2.le J13 := (by first | exact Imm.le_trans hI0 hJ13 | exact Imm.le_trans hIJ9 hJ13 | exact Imm.le_trans hI10 hJ13)
      refine WD.gR ?_; refine WD.loud (i := 10) zK rfl rfl rfl ?_; refine Op.cl (txn_Page (d := [108]) (by first | exact hsJ9 | exact hsJ9.mono (fun b o q => hJ13.2 b o q))) rfl Tryz.func14 rfl rfl rfl rfl ?_; rintro v J10 L10 hJ10 ⟨rfl, hr10⟩
      try simp only [nf]
      have hI10 : J2.le J10 := (by first | exact Imm.le_trans hIJ9 hJ10 | exact Imm.le_trans hIJ13 hJ10)
      obtain ⟨A10, c10, rfl⟩ := hr10.sl
      refine WD.gR ?_; refine WD.vl (i := 11) rfl (Yld.buildS (pl := [(0, 0, 1), (2, 2, 1)]) rfl ty_zr_51 ty_zd_51 zK rfl (vs := [_, _]) rfl (segs := [(0, [_]), (2, [_])]) rfl rfl zS) ?_; refine WD.loud (i := 14) zK rfl rfl rfl ?_; refine Op.cl (txn_Page (d := [114]) (by first | exact hsJ13 | exact hsJ13.mono (fun b o q => hJ10.2 b o q) | exact hsJ13.mono (fun b o q => (Imm.le_trans hJ9 hJ10).2 b o q))) rfl Tryz.func14 rfl rfl rfl rfl ?_; rintro v J14 L14 hJ14 ⟨rfl, hr14⟩
      try simp only [nf]
      have hI14 : J2.le J14 := (by first | exact Imm.le_trans hI10 hJ14 | exact Imm.le_trans hIJ13 hJ14)
      obtain ⟨A14, c14, rfl⟩ := hr14.sl
      have hr10' := hr10.mono (by first | exact hJ14 | exact (Imm.le_trans hJ13 hJ14))
      refine WD.gR ?_; refine WD.vl (i := 15) rfl (Yld.buildS (pl := [(0, 0, 1), (2, 2, 1)]) rfl ty_zr_51 ty_zd_51 zK rfl (vs := [_, _]) rfl (segs := [(0, [_]), (2, [_])]) rfl rfl zS) ?_; refine WD.loud (i := 16) zK rfl rfl rfl ?_; refine Op.buildSlice rfl ty_sl_52 ty_el2_52 rfl rfl rfl rfl (vs := [_, _]) rfl (segs := [(0, [.int .i64 1, .int .i64 0, .slice A10 1 c10]), (3, [.int .i64 2, .int .i64 0, .slice A14 1 c14])]) (cs := prC (twoV 1 2 108 114 (.slice A10 1 c10) (.slice A14 1 c14))) rfl rfl (.seg (Nat.le_of_ble_eq_true rfl) rfl (.seg (Nat.le_of_ble_eq_true rfl) rfl .nil)) (fun bp => ?_)
      refine WD.gR ?_; refine WD.loud (i := 17) zK rfl rfl rfl ?_; refine Op.cl (txn_NewO (b := bp) (tok := 1) (pages := twoV 1 2 108 114 (.slice A10 1 c10) (.slice A14 1 c14)) (two_el hr10' hr14) (by show 2 ≤ _; decide) two_sz) rfl Tryz.func13 rfl rfl rfl rfl ?_; rintro v J17 Lg0 hJ17 ⟨g, ps, Lg, rfl, hps, rfl, hgr⟩
      try simp only [nf]
      refine WD.go (.inl rfl) (fun _ _ h => h.elim) ?_; refine WD.vl (i := 18) rfl (Yld.assign rfl rfl) ?_; refine WD.done zK ?_; refine WP.sub [(0, _), (1, _), (2, _), (3, _), (4, _), (5, _), (6, _), (18, _)] ?_ ⟨rfl, rfl, rfl, rfl, rfl, rfl, rfl, rfl, trivial⟩
      exact WP.meet (⟨g, ps, J17, _⟩ : AwX) ⟨Imm.le_trans hI14 hJ17, hps, hgr⟩ ⟨rfl, rfl, rfl, rfl, rfl, rfl, rfl, trivial⟩ rfl zA
    ·refine WP.oper rfl rfl ?_
     refine Op.mark (cs := bytesV [114]) rfl Tryz.underlying49 zK rfl rfl rfl (by repeat (first | exact Rm.chunk | exact Rm.here | exact Rm.nil0 | apply Rm.skip | apply Rm.skipS)) (fun J13 hJ13 hmJ13 => ?_)
     have hsJ13 := Im_lit' (c := 1) hmJ13 (Nat.le_refl _)
     have hIJ13 : J2.le J13 := (by first | exact Imm.le_trans hI0 hJ13 | exact Imm.le_trans hIJ9 hJ13 | exact Imm.le_trans hI10 hJ13)
     refine WD.gR ?_; refine WD.loud (i := 9) zK rfl rfl rfl ?_; refine Op.mark (cs := bytesV [108]) rfl Tryz.underlying49 zK rfl rfl rfl (by repeat (first | exact Rm.chunk | exact Rm.here | exact Rm.nil0 | apply Rm.skip | apply Rm.skipS)) (fun J9 hJ9 hmJ9 => ?_)
     have hsJ9 := Im_lit' (c := 1) hmJ9 (Nat.le_refl _)
     have hIJ9 : J2.le J9 := (by first | exact Imm.le_trans hI0 hJ9 | exact Imm.le_trans hIJ13 hJ9)
     refine WD.gR ?_; refine WD.loud (i := 10) zK rfl rfl rfl ?_; refine Op.cl (txn_Page (d := [108]) (by first | exact hsJ9 | exact hsJ9.mono (fun b o q => hJ13.2 b o q))) rfl Tryz.func14 rfl rfl rfl rfl ?_; rintro v J10 L10 hJ10 ⟨rfl, hr10⟩
     try simp only [nf]
     have hI10 : J2.le J10 := (by first | exact Imm.le_trans hIJ9 hJ10 | exact Imm.le_trans hIJ13 hJ10)
     obtain ⟨A10, c10, rfl⟩ := hr10.sl
     refine WD.gR ?_; refine WD.vl (i := 11) rfl (Yld.buildS (pl := [(0, 0, 1), (2, 2, 1)]) rfl ty_zr_51 ty_zd_51 zK rfl (vs := [_, _]) rfl (segs := [(0, [_]), (2, [_])]) rfl rfl zS) ?_; refine WD.loud (i := 14) zK rfl rfl rfl ?_; refine Op.cl (txn_Page (d := [114]) (by first | exact hsJ13 | exact hsJ13.mono (fun b o q => hJ10.2 b o q) | exact hsJ13.mono (fun b o q => (Imm.le_trans hJ9 hJ10).2 b o q))) rfl Tryz.func14 rfl rfl rfl rfl ?_; rintro v J14 L14 hJ14 ⟨rfl, hr14⟩
     try simp only [nf]
     have hI14 : J2.le J14 := (by first | exact Imm.le_trans hI10 hJ14 | exact Imm.le_trans hIJ13 hJ14)
     obtain ⟨A14, c14, rfl⟩ := hr14.sl
     have hr10' := hr10.mono (by first | exact hJ14 | exact (Imm.le_trans hJ13 hJ14))
     refine WD.gR ?_; refine WD.vl (i := 15) rfl (Yld.buildS (pl := [(0, 0, 1), (2, 2, 1)]) rfl ty_zr_51 ty_zd_51 zK rfl (vs := [_, _]) rfl (segs := [(0, [_]), (2, [_])]) rfl rfl zS) ?_; refine WD.loud (i := 16) zK rfl rfl rfl ?_; refine Op.buildSlice rfl ty_sl_52 ty_el2_52 rfl rfl rfl rfl (vs := [_, _]) rfl (segs := [(0, [.int .i64 1, .int .i64 0, .slice A10 1 c10]), (3, [.int .i64 2, .int .i64 0, .slice A14 1 c14])]) (cs := prC (twoV 1 2 108 114 (.slice A10 1 c10) (.slice A14 1 c14))) rfl rfl (.seg (Nat.le_of_ble_eq_true rfl) rfl (.seg (Nat.le_of_ble_eq_true rfl) rfl .nil)) (fun bp => ?_)
     refine WD.gR ?_; refine WD.loud (i := 17) zK rfl rfl rfl ?_; refine Op.cl (txn_NewO (b := bp) (tok := 1) (pages := twoV 1 2 108 114 (.slice A10 1 c10) (.slice A14 1 c14)) (two_el hr10' hr14) (by show 2 ≤ _; decide) two_sz) rfl Tryz.func13 rfl rfl rfl rfl ?_; rintro v J17 Lg0 hJ17 ⟨g, ps, Lg, rfl, hps, rfl, hgr⟩
     try simp only [nf]
     refine WD.go (.inl rfl) (fun _ _ h => h.elim) ?_; refine WD.vl (i := 18) rfl (Yld.assign rfl rfl) ?_; refine WD.done zK ?_; refine WP.sub [(0, _), (1, _), (2, _), (3, _), (4, _), (5, _), (6, _), (18, _)] ?_ ⟨rfl, rfl, rfl, rfl, rfl, rfl, rfl, rfl, trivial⟩
     exact WP.meet (⟨g, ps, J17, _⟩ : AwX) ⟨Imm.le_trans hI14 hJ17, hps, hgr⟩ ⟨rfl, rfl, rfl, rfl, rfl, rfl, rfl, trivial⟩ rfl zA
   ·refine WP.oper rfl rfl ?_
    refine Op.mark (cs := bytesV [114]) rfl Tryz.underlying49 zK rfl rfl rfl (by repeat (first | exact Rm.chunk | exact Rm.here | exact Rm.nil0 | apply Rm.skip | apply Rm.skipS)) (fun J13 hJ13 hmJ13 => ?_)
    have hsJ13 := Im_lit' (c := 1) hmJ13 (Nat.le_refl _)
    have hIJ13 : J2.le J13 := (by first | exact Imm.le_trans hI0 hJ13 | exact Imm.le_trans hIJ9 hJ13 | exact Imm.le_trans hI10 hJ13)
    refine WD.gR ?_; refine WD.loud (i := 8) zK rfl rfl rfl ?_; refine Op.buildSlice rfl ty_sl_49 ty_el2_49 rfl rfl rfl rfl (vs := [_]) rfl (segs := [(0, [_])]) (cs := bytesV [108]) rfl rfl zS (fun bl => ?_)
    refine WD.gR ?_; refine WD.loud (i := 9) zK rfl rfl rfl ?_; refine Op.mark (cs := bytesV [108]) rfl Tryz.underlying49 zK rfl rfl rfl (by repeat (first | exact Rm.chunk | exact Rm.here | exact Rm.nil0 | apply Rm.skip | apply Rm.skipS)) (fun J9 hJ9 hmJ9 => ?_)
    have hsJ9 := Im_lit' (c := 1) hmJ9 (Nat.le_refl _)
    have hIJ9 : J2.le J9 := (by first | exact Imm.le_trans hI0 hJ9 | exact Imm.le_trans hIJ13 hJ9)
    refine WD.gR ?_; refine WD.loud (i := 10) zK rfl rfl rfl ?_; refine Op.cl (txn_Page (d := [108]) (by first | exact hsJ9 | exact hsJ9.mono (fun b o q => hJ13.2 b o q))) rfl Tryz.func14 rfl rfl rfl rfl ?_; rintro v J10 L10 hJ10 ⟨rfl, hr10⟩
    try simp only [nf]
    have hI10 : J2.le J10 := (by first | exact Imm.le_trans hIJ9 hJ10 | exact Imm.le_trans hIJ13 hJ10)
    obtain ⟨A10, c10, rfl⟩ := hr10.sl
    refine WD.gR ?_; refine WD.vl (i := 11) rfl (Yld.buildS (pl := [(0, 0, 1), (2, 2, 1)]) rfl ty_zr_51 ty_zd_51 zK rfl (vs := [_, _]) rfl (segs := [(0, [_]), (2, [_])]) rfl rfl zS) ?_; refine WD.loud (i := 14) zK rfl rfl rfl ?_; refine Op.cl (txn_Page (d := [114]) (by first | exact hsJ13 | exact hsJ13.mono (fun b o q => hJ10.2 b o q) | exact hsJ13.mono (fun b o q => (Imm.le_trans hJ9 hJ10).2 b o q))) rfl Tryz.func14 rfl rfl rfl rfl ?_; rintro v J14 L14 hJ14 ⟨rfl, hr14⟩
    try simp only [nf]
    have hI14 : J2.le J14 := (by first | exact Imm.le_trans hI10 hJ14 | exact Imm.le_trans hIJ13 hJ14)
    obtain ⟨A14, c14, rfl⟩ := hr14.sl
    have hr10' := hr10.mono (by first | exact hJ14 | exact (Imm.le_trans hJ13 hJ14))
    refine WD.gR ?_; refine WD.vl (i := 15) rfl (Yld.buildS (pl := [(0, 0, 1), (2, 2, 1)]) rfl ty_zr_51 ty_zd_51 zK rfl (vs := [_, _]) rfl (segs := [(0, [_]), (2, [_])]) rfl rfl zS) ?_; refine WD.loud (i := 16) zK rfl rfl rfl ?_; refine Op.buildSlice rfl ty_sl_52 ty_el2_52 rfl rfl rfl rfl (vs := [_, _]) rfl (segs := [(0, [.int .i64 1, .int .i64 0, .slice A10 1 c10]), (3, [.int .i64 2, .int .i64 0, .slice A14 1 c14])]) (cs := prC (twoV 1 2 108 114 (.slice A10 1 c10) (.slice A14 1 c14))) rfl rfl (.seg (Nat.le_of_ble_eq_true rfl) rfl (.seg (Nat.le_of_ble_eq_true rfl) rfl .nil)) (fun bp => ?_)
    refine WD.gR ?_; refine WD.loud (i := 17) zK rfl rfl rfl ?_; refine Op.cl (txn_NewO (b := bp) (tok := 1) (pages := twoV 1 2 108 114 (.slice A10 1 c10) (.slice A14 1 c14)) (two_el hr10' hr14) (by show 2 ≤ _; decide) two_sz) rfl Tryz.func13 rfl rfl rfl rfl ?_; rintro v J17 Lg0 hJ17 ⟨g, ps, Lg, rfl, hps, rfl, hgr⟩
    try simp only [nf]
    refine WD.go (.inl rfl) (fun _ _ h => h.elim) ?_; refine WD.vl (i := 18) rfl (Yld.assign rfl rfl) ?_; refine WD.done zK ?_; refine WP.sub [(0, _), (1, _), (2, _), (3, _), (4, _), (5, _), (6, _), (18, _)] ?_ ⟨rfl, rfl, rfl, rfl, rfl, rfl, rfl, rfl, trivial⟩
    exact WP.meet (⟨g, ps, J17, _⟩ : AwX) ⟨Imm.le_trans hI14 hJ17, hps, hgr⟩ ⟨rfl, rfl, rfl, rfl, rfl, rfl, rfl, trivial⟩ rfl zA
 ·rintro ⟨g, ps, Jc, Lgr⟩ ⟨hJc, hps, hgr⟩; dsimp only at hJc hps hgr
  refine WP.seq (WP.seq ?_)
  refine WP.region [0, 1, 2, 3, 4, 5, 6, 7, 8, 9, 10, 11, 12, 13, 14, 15, 16, 17] rfl ?_; refine WP.mv rfl rfl ?_; refine WP.vl rfl (Yld.eqlNil rfl ty_pt_46 rfl rfl) ?_; refine WP.mv rfl rfl ?_; refine WP.valG rfl rfl rfl rfl rfl rfl rfl (Yld.move rfl rfl) ?_; refine WP.valG rfl rfl rfl rfl rfl rfl rfl (Yld.neq rfl rfl rfl false (decide_eq_false (by simp))) ?_; refine WP.vl rfl (Yld.pickF rfl rfl rfl) ?_; refine WP.mv rfl rfl ?_; refine WP.valG rfl rfl rfl rfl rfl rfl rfl (Yld.move rfl rfl) ?_; refine WP.valG rfl rfl rfl rfl rfl rfl rfl (Yld.neq rfl rfl rfl false (decide_eq_false (by simp))) ?_; refine WP.vl rfl (Yld.pickF rfl rfl rfl) ?_; refine WP.mv rfl rfl ?_; refine WP.valG rfl rfl rfl rfl rfl rfl rfl (Yld.move rfl rfl) ?_; refine WP.valG rfl rfl rfl rfl rfl rfl rfl (Yld.neq rfl rfl rfl false (decide_eq_false (by simp))) ?_; refine WP.vl rfl (Yld.pickF rfl rfl rfl) ?_; refine WP.mv rfl rfl ?_; refine WP.valG rfl rfl rfl rfl rfl rfl rfl (Yld.move rfl rfl) ?_; refine WP.valG rfl rfl rfl rfl rfl rfl rfl (Yld.neq rfl rfl rfl false (decide_eq_false (by simp))) ?_; refine WP.vl rfl (Yld.pickF rfl rfl rfl) ?_; refine WP.nil ?_; refine WP.sub [(0, _), (1, _), (2, _), (3, _), (4, _), (5, _), (6, _), (70, _)] ?_ ⟨rfl, rfl, rfl, rfl, rfl, rfl, rfl, rfl, trivial⟩
  refine WP.next ?_; refine WP.condF rfl ?_; refine WP.skip (WP.next (WP.seq ?_))
  have hT2c := hT2.mono hJc
  have hlgc := hlg.mono hJc
  obtain ⟨x0, hx0⟩ : ∃ u, u = (⟨1, ⟨20, 1, 1⟩, 0, 8, [], 0, 0, 8⟩ : Lg) := ⟨_, rfl⟩
  rw [← hx0] at hlgc
  obtain ⟨z0, hz0⟩ : ∃ u, u = (⟨0, cm0, 1, ps, [], 0, []⟩ : Gp) := ⟨_, rfl⟩
  rw [← hz0] at hgr
  have wf : Wf (twoP 1 2 108 114) := wf_two (by decide) (by decide) (by decide)
  have he1 : x2.ent 1 = some { zeroEnt with tok := 1 } := by rw [hu2.ent, if_neg (by decide), hu1.ent, if_pos (by decide), hk0]
  have hlb0 : LgB x0 := by rw [hx0]; exact ⟨rfl, rfl, ⟨20, 1, by decide, rfl⟩, fun r h => by cases h⟩
  obtain ⟨hph0, hpc0⟩ := Evo.start (x := x0) (tb := x2) (T := 1) hps ⟨_, he1, rfl⟩
  rw [← hz0] at hph0 hpc0
  refine WP.region [0] rfl ?_; refine WP.mv rfl rfl ?_; refine WP.nil (WP.next (WP.seq (WP.block ?_)))
  refine WP.loop (X := AlX) (fun u : AlX => [(0, .bool false), (1, .pointer (some ⟨x, 0, none⟩)), (2, .int .i64 1), (3, .int .i64 0), (4, .int .i64 2), (5, .int .i64 0), (6, .pointer (some ⟨g, 0, none⟩)), (7, .int .i64 ((u.i + 1 : Nat) : Int))]) (fun u => u.J) (fun u : AlX => (x, row 38 [.pointer (some ⟨d, 0, none⟩), .pointer (some ⟨s, 0, none⟩), .pointer (some ⟨l, 0, none⟩), .pointer (some ⟨t, 0, none⟩), .pointer (some ⟨q, 0, none⟩), .pointer (some ⟨rt, 0, none⟩), .pointer (some ⟨rm, 0, none⟩), .pointer (some ⟨r9, 0, none⟩)]) :: (u.Lg ++ (u.Lt ++ (u.Ll ++ F)))) (fun u : AlX => Jc.le u.J ∧ IsGr u.J g l t u.z u.Lg ∧ IsT u.J t u.tb u.Lt ∧ IsLog u.J l s d (8 + 32 * 20) u.x (Dk.new (8 + 32 * 20)) u.Ll ∧ Evo (twoP 1 2 108 114) 1 x0 x2 z0 u.z u.x u.tb ∧ alone u.x u.z ∧ u.z.mu 2 u.x + u.i = 10 ∧ ¬ u.z.at_ = 9) (fun u => 30 - u.i) ⟨0, z0, x0, x2, Jc, Lgr, L2, Ll⟩ ⟨Imm.le_refl _, hgr, hT2c, hlgc, Evo.refl hph0 hpc0 hlb0, (by rw [hx0, hz0]; exact ⟨rfl, fun h => absurd (show 2 ≤ 0 from h) (by decide)⟩), (by rw [hx0, hz0]; rfl), (by rw [hz0]; exact (by decide : ¬ 0 = 9))⟩ ⟨rfl, rfl, rfl, rfl, rfl, rfl, rfl, rfl, trivial⟩ rfl zA ?_; rintro ⟨i, u_z, u_x, u_tb, J, L1, L3, L4⟩ ⟨hJ, hg1, hT3, hl1, hev, hal, hmm, h9⟩; dsimp only at hJ hg1 hT3 hl1 hev hal hmm h9
  try dsimp only
  try simp only [nf]
  refine WP.seq (WP.seq ?_)
  refine WP.region [0, 1, 2, 3, 4, 5, 6, 7, 8, 9] rfl ?_; refine WP.mv rfl rfl ?_; refine WP.vl rfl (Yld.lss rfl rfl rfl true (decide_eq_true (by omega))) ?_; refine WP.mv rfl rfl ?_; refine WP.valG rfl rfl rfl rfl rfl rfl rfl (Yld.move rfl rfl) ?_; refine WP.valG rfl rfl rfl rfl rfl rfl rfl (Yld.nilCheck rfl rfl) ?_; refine WP.valG rfl rfl rfl rfl rfl rfl rfl (Yld.fieldAddr rfl ty_fd_60_0 rfl) ?_; refine WP.valG rfl rfl rfl rfl rfl rfl rfl (Yld.fieldAddr rfl ty_fd_58_0 rfl) ?_; refine WP.loudG rfl rfl rfl rfl rfl ?_; refine Op.cl (txn_Step hg1 hT3 hl1 (hev.ph.pre wf hev.c hev.lg (by have := hal.1; have := u_z.V_le; omega) (by have ht1 := hev.tok; have ht2 := u_z.W_le 2; rw [show (twoP 1 2 108 114).length = 2 from rfl] at ht1; omega))) rfl Tryz.func15 rfl rfl rfl rfl ?_; rintro v J9 L9 hJ9 ⟨b, z2, xx2, tb2, Lg2, Lt2, Ll2, hst, rfl, rfl, hg2, hT4, hl2⟩
  try simp only [nf]
  try simp only [nf]
  have hw := hst.went wf hev.c hev.lg (by have := hal.1; have := u_z.V_le; omega) hev.ph
  have hev2 := hev.went hw
  have hb9 := hw.b
  have hal2 := hal.went hev.lg hw
  have hmu2 := hw.mu.resolve_left h9
  rw [show (twoP 1 2 108 114).length = 2 from rfl] at hmu2
  by_cases hb : b = true
  ·try rw [hb]
   refine WP.valG rfl rfl rfl rfl rfl rfl rfl (Yld.not rfl rfl) ?_; refine WP.vl rfl (Yld.pickT rfl rfl rfl) ?_; refine WP.nil ?_; refine WP.sub [(0, _), (1, _), (2, _), (3, _), (4, _), (5, _), (6, _), (7, _), (80, _)] ?_ ⟨rfl, rfl, rfl, rfl, rfl, rfl, rfl, rfl, rfl, trivial⟩
   refine WP.next ?_; refine WP.condF rfl ?_; refine WP.exit (WP.thenE (WP.thenE (WP.hit (WP.next (WP.seq ?_)))))
   have hz9 := hb9.1 hb
   obtain ⟨_, _, hze, hzc⟩ := hev2.ph.i9 (by omega)
   obtain ⟨hzt, hzp⟩ := hal2.2 (by omega)
   have hmz : z2.mu 2 xx2 = 0 := by unfold Gp.mu; simp [hz9]
   obtain rfl : i = 9 := by omega
   have hxl : xx2.rs.length = 2 := by rw [hal2.1]; unfold Gp.V; rw [if_neg (by omega), if_neg (by omega)]
   have hxn : xx2.no = 2 := by rw [hev2.lg.no, hxl]
   obtain ⟨e2, he2, hm2, ht2⟩ := hzc ⟨2, 0, [(true, [114])]⟩ (.tail _ (.head _))
   have hn2 := hm2.no; have hp2 := hm2.place
   rw [hzt] at hn2; rw [hzp] at hp2
   refine WP.region [0, 1, 2, 3, 4, 5, 6] rfl ?_; refine WP.mv rfl rfl ?_; refine WP.loud rfl rfl ?_; refine Op.cl (txn_Got hg2) rfl Tryz.func17 rfl rfl rfl rfl ?_; rintro v J L1 - ⟨rfl, rfl, rfl⟩
   try simp only [nf]
   rw [hze, if_neg (by decide), hzt]
   refine WP.mv rfl rfl ?_; iterate 2 refine WP.vl rfl (Yld.extract rfl rfl rfl) ?_
   iterate 2 refine WP.mv rfl rfl ?_
   refine WP.nil ?_; refine WP.sub [(0, _), (1, _), (2, _), (3, _), (4, _), (5, _), (6, _), (7, _), (8, _), (9, _), (80, _)] ?_ ⟨rfl, rfl, rfl, rfl, rfl, rfl, rfl, rfl, rfl, rfl, rfl, trivial⟩
   refine WP.next (WP.seq ?_)
   refine WP.region [0, 1, 2, 3, 4, 5, 6, 7, 8, 9, 10] rfl ?_; refine WP.mv rfl rfl ?_; refine WP.vl rfl (Yld.nilCheck rfl rfl) ?_; refine WP.vl rfl (Yld.fieldAddr rfl ty_fd_38_3 rfl) ?_; refine WP.vl rfl (Yld.ld (v := .pointer (some ⟨t, 0, none⟩)) rfl ty_sc_32 rfl rfl) ?_; refine WP.loud rfl rfl ?_; refine Op.cl (tabT_LoadE hT4 he2) rfl Tryz.func12 rfl rfl rfl rfl ?_; rintro v J5 Lt5 hJ5 ⟨cs, rfl, hre, hT5⟩
   try simp only [nf]
   obtain ⟨vn2, vw2, nv2, rfl, q1, q2, q3⟩ := id hre.ex
   obtain ⟨An2, cn2, rfl, _⟩ := q1.slice'
   obtain ⟨Aw2, cw2, rfl, _⟩ := q3.slice'
   refine WP.mv rfl rfl ?_; iterate 2 refine WP.vl rfl (Yld.extract rfl rfl rfl) ?_
   refine WP.loud rfl rfl ?_; refine Op.alloc rfl rfl rfl ty_zr_43 (fun b10 => ?_)
   refine WP.loud rfl rfl ?_; refine Op.sA rfl rfl ty_sz_43 rfl rfl rfl rfl rfl ?_; refine WP.mv rfl rfl ?_; refine WP.nil ?_; refine WP.sub [(0, _), (1, _), (2, _), (3, _), (4, _), (5, _), (6, _), (7, _), (8, _), (9, _), (10, _), (11, _), (80, _)] ?_ ⟨rfl, rfl, rfl, rfl, rfl, rfl, rfl, rfl, rfl, rfl, rfl, rfl, rfl, trivial⟩
   refine WP.next (WP.seq ?_)
   refine WP.region [0, 1, 2, 3, 4, 5, 6, 7, 8, 9] rfl ?_; refine WP.loud rfl rfl ?_; refine Op.buildSlice rfl ty_sl_49 ty_el2_49 rfl rfl rfl rfl (vs := [_, _]) rfl (segs := [(0, [_]), (1, [_])]) (cs := bytesV [97, 98]) rfl rfl zS (fun bab => ?_)
   refine WP.loud rfl rfl ?_; refine Op.mark (cs := bytesV [97, 98]) rfl Tryz.underlying49 zK rfl rfl rfl (by repeat (first | exact Rm.chunk | exact Rm.here | exact Rm.nil0 | apply Rm.skip | apply Rm.skipS)) (fun J6 hJ6 hm6 => ?_)
   have hs6 := Im_lit' (c := 2) hm6 (Nat.le_refl _)
   refine WP.loud rfl rfl ?_; refine Op.cl (txn_Page (d := [97, 98]) hs6) rfl Tryz.func14 rfl rfl rfl rfl ?_; rintro v J7 L6 hJ7 ⟨rfl, hr6⟩
   try simp only [nf]
   obtain ⟨A7, c7, rfl⟩ := hr6.sl
   refine WP.vl rfl (Yld.buildS (pl := [(0, 0, 1), (2, 2, 1)]) rfl ty_zr_51 ty_zd_51 zK rfl (vs := [_, _]) rfl (segs := [(0, [_]), (2, [_])]) rfl rfl zS) ?_; refine WP.loud rfl rfl ?_; refine Op.cl (txn_EncodePage (r := ⟨3, 0, [(true, [97, 98])]⟩) hr6 (by show 1 ≤ _; decide) (by show 30 + (nodeB (true, [97, 98]) ++ []).length ≤ _; simp [nodeB, numB_lo])) rfl Tryz.func25 rfl rfl rfl rfl ?_; rintro v J8 L8 hJ8 hen
   try simp only [nf]
   have hmay : Pr.may ⟨3, 0, [(true, [97, 98])]⟩ := ⟨⟨by decide, by decide⟩, by decide, by decide, by show 1 ≤ 1; decide, by show 1 ≤ 64; decide, fun i hi => by obtain rfl : i = 0 := (by have : i < 1 := hi; omega); rfl⟩
   have hpb : pageB ⟨3, 0, [(true, [97, 98])]⟩ = [3, 0, 1, 1, 2, 97, 98] := by show numB 3 ++ (numB 0 ++ (numB 1 ++ (nodeB (true, [97, 98]) ++ []))) = _; simp [nodeB, numB_lo]
   rw [hpb] at hen
   obtain ⟨_, vb, rfl, hob⟩ := (hen.resolve_left (fun h => h.1 hmay)).2.resolve_left (fun h => absurd h.1 (by decide))
   obtain ⟨Avb, cvb, rfl, _⟩ := hob.slice
   refine WP.mv rfl rfl ?_; iterate 2 refine WP.vl rfl (Yld.extract rfl rfl rfl) ?_
   iterate 2 refine WP.mv rfl rfl ?_
   refine WP.nil ?_; refine WP.sub [(0, _), (1, _), (2, _), (3, _), (4, _), (5, _), (6, _), (7, _), (8, _), (9, _), (10, _), (11, _), (12, _), (13, _), (80, _)] ?_ ⟨rfl, rfl, rfl, rfl, rfl, rfl, rfl, rfl, rfl, rfl, rfl, rfl, rfl, rfl, rfl, trivial⟩
   refine WP.next (WP.seq ?_)
   refine WQ.start Tryzmixed 8 zK _ rfl [8, 9] rfl ?_; refine WQ.val rfl rfl rfl (Yld.move rfl rfl) ?_; refine WQ.val rfl rfl rfl (Yld.nilCheck rfl rfl) ?_; refine WQ.val rfl rfl rfl (Yld.fieldAddr rfl ty_fd_38_2 rfl) ?_; refine WQ.val rfl rfl rfl (Yld.ld (v := .pointer (some ⟨l, 0, none⟩)) rfl ty_sc_31 rfl rfl) ?_; refine WQ.val rfl rfl rfl (Yld.move rfl rfl) ?_; refine WQ.val rfl rfl rfl (Yld.nilCheck rfl rfl) ?_; refine WQ.val rfl rfl rfl (Yld.fieldAddr rfl ty_fd_38_3 rfl) ?_; refine WQ.val rfl rfl rfl (Yld.ld (v := .pointer (some ⟨t, 0, none⟩)) rfl ty_sc_32 rfl rfl) ?_; refine WQ.nil ?_; refine WP.loud rfl rfl ?_; refine Op.cl txn_NewSettle rfl Tryz.func19 rfl rfl rfl rfl ?_; rintro v J L1 - ⟨rfl, hh1, rfl, rfl⟩
   try simp only [nf]
   refine WP.mv rfl rfl ?_; refine WP.nil ?_; refine WP.sub [(0, _), (1, _), (2, _), (3, _), (4, _), (5, _), (6, _), (7, _), (8, _), (9, _), (10, _), (11, _), (12, _), (13, _), (14, _), (80, _)] ?_ ⟨rfl, rfl, rfl, rfl, rfl, rfl, rfl, rfl, rfl, rfl, rfl, rfl, rfl, rfl, rfl, rfl, trivial⟩
   refine WP.next (WP.seq ?_)
   refine WQ.start Tryzmixed 8 zK _ rfl [8, 9] rfl ?_; refine WQ.val rfl rfl rfl (Yld.move rfl rfl) ?_; refine WQ.val rfl rfl rfl (Yld.nilCheck rfl rfl) ?_; refine WQ.val rfl rfl rfl (Yld.fieldAddr rfl ty_fd_38_2 rfl) ?_; refine WQ.val rfl rfl rfl (Yld.ld (v := .pointer (some ⟨l, 0, none⟩)) rfl ty_sc_31 rfl rfl) ?_; refine WQ.val rfl rfl rfl (Yld.move rfl rfl) ?_; refine WQ.val rfl rfl rfl (Yld.nilCheck rfl rfl) ?_; refine WQ.val rfl rfl rfl (Yld.fieldAddr rfl ty_fd_38_3 rfl) ?_; refine WQ.val rfl rfl rfl (Yld.ld (v := .pointer (some ⟨t, 0, none⟩)) rfl ty_sc_32 rfl rfl) ?_; refine WQ.nil ?_; refine WP.loud rfl rfl ?_; refine Op.cl txn_NewHelp rfl Tryz.func23 rfl rfl rfl rfl ?_; rintro v J L1 - ⟨rfl, hh2, rfl, rfl⟩
   try simp only [nf]
   refine WP.mv rfl rfl ?_; refine WP.nil ?_; refine WP.sub [(0, _), (1, _), (2, _), (3, _), (4, _), (5, _), (6, _), (7, _), (8, _), (9, _), (10, _), (11, _), (12, _), (13, _), (14, _), (15, _), (80, _)] ?_ ⟨rfl, rfl, rfl, rfl, rfl, rfl, rfl, rfl, rfl, rfl, rfl, rfl, rfl, rfl, rfl, rfl, rfl, trivial⟩
   refine WP.next (WP.seq (WP.seq ?_))
   refine WP.region [0, 1, 2, 3, 4, 5] rfl ?_; refine WP.mv rfl rfl ?_; refine WP.vl rfl (Yld.eqlNil rfl ty_pt_66 rfl rfl) ?_; refine WP.mv rfl rfl ?_; refine WP.valG rfl rfl rfl rfl rfl rfl rfl (Yld.move rfl rfl) ?_; refine WP.valG rfl rfl rfl rfl rfl rfl rfl (Yld.eqlNil rfl ty_pt_76 rfl rfl) ?_; refine WP.vl rfl (Yld.pickF rfl rfl rfl) ?_; refine WP.nil ?_; refine WP.sub [(0, _), (1, _), (2, _), (3, _), (4, _), (5, _), (6, _), (7, _), (8, _), (9, _), (10, _), (11, _), (12, _), (13, _), (14, _), (15, _), (80, _), (127, _)] ?_ ⟨rfl, rfl, rfl, rfl, rfl, rfl, rfl, rfl, rfl, rfl, rfl, rfl, rfl, rfl, rfl, rfl, rfl, rfl, trivial⟩
   refine WP.next ?_; refine WP.condF rfl ?_; refine WP.skip (WP.next (WP.seq ?_))
   refine WP.region [0, 1, 2, 3, 4, 5, 6, 7, 8, 9, 10, 11, 12, 13, 14, 15, 16, 17, 18, 19, 20, 21, 22, 23, 24, 25, 26, 27, 28, 29, 30, 31, 32, 33, 34, 35, 36, 37, 38, 39, 40, 41, 42, 43, 44, 45, 46, 47] rfl ?_; refine WP.mv rfl rfl ?_; refine WP.vl rfl (Yld.eql rfl rfl rfl true (decide_eq_true (by rfl))) ?_; refine WP.mv rfl rfl ?_; refine WP.valG rfl rfl rfl rfl rfl rfl rfl (Yld.move rfl rfl) ?_; refine WP.valG rfl rfl rfl rfl rfl rfl rfl (Yld.eql rfl rfl rfl true (decide_eq_true (by rfl))) ?_; refine WP.vl rfl (Yld.pickT rfl rfl rfl) ?_; refine WP.mv rfl rfl ?_; refine WP.valG rfl rfl rfl rfl rfl rfl rfl (Yld.move rfl rfl) ?_; refine WP.valG rfl rfl rfl rfl rfl rfl rfl (Yld.eql rfl rfl rfl true (decide_eq_true (by rfl))) ?_; refine WP.vl rfl (Yld.pickT rfl rfl rfl) ?_; refine WP.mv rfl rfl ?_; refine WP.valG rfl rfl rfl rfl rfl rfl rfl (Yld.move rfl rfl) ?_; refine WP.valG rfl rfl rfl rfl rfl rfl rfl (Yld.eql rfl rfl rfl true (decide_eq_true (by rfl))) ?_; refine WP.vl rfl (Yld.pickT rfl rfl rfl) ?_; refine WP.mv rfl rfl ?_; refine WP.valG rfl rfl rfl rfl rfl rfl rfl (Yld.fieldAddr rfl ty_fd_43_6 rfl) ?_; refine WP.valG rfl rfl rfl rfl rfl rfl rfl (Yld.ld (v := .int .i64 e2.txn) rfl ty_sc_3 rfl rfl) ?_; refine WP.valG rfl rfl rfl rfl rfl rfl rfl (Yld.eql rfl rfl rfl true (decide_eq_true (by exact ht2))) ?_; refine WP.vl rfl (Yld.pickT rfl rfl rfl) ?_; refine WP.mv rfl rfl ?_; refine WP.valG rfl rfl rfl rfl rfl rfl rfl (Yld.fieldAddr rfl ty_fd_43_3 rfl) ?_; refine WP.valG rfl rfl rfl rfl rfl rfl rfl (Yld.ld (v := .int .i64 e2.no) rfl ty_sc_3 rfl rfl) ?_
   refine WP.valG rfl rfl rfl rfl rfl rfl rfl (Yld.eql rfl rfl rfl true (decide_eq_true (by exact hn2))) ?_; refine WP.vl rfl (Yld.pickT rfl rfl rfl) ?_; refine WP.mv rfl rfl ?_; refine WP.valG rfl rfl rfl rfl rfl rfl rfl (Yld.fieldAddr rfl ty_fd_43_2 rfl) ?_; refine WP.valG rfl rfl rfl rfl rfl rfl rfl (Yld.ld (v := .int .i64 e2.place) rfl ty_sc_3 rfl rfl) ?_; refine WP.valG rfl rfl rfl rfl rfl rfl rfl (Yld.eql rfl rfl rfl true (decide_eq_true (by exact hp2))) ?_; refine WP.vl rfl (Yld.pickT rfl rfl rfl) ?_; refine WP.mv rfl rfl ?_; refine WP.valG rfl rfl rfl rfl rfl rfl rfl (Yld.move rfl rfl) ?_; refine WP.valG rfl rfl rfl rfl rfl rfl rfl (Yld.str (e := 5) rfl zK zK zK rfl (hob.rd (by intro p hp; simp [hp]))) ?_; refine WP.valG rfl rfl rfl rfl rfl rfl rfl (Yld.eqlStr rfl rfl rfl true (by decide)) ?_; refine WP.vl rfl (Yld.pickT rfl rfl rfl) ?_; refine WP.mv rfl rfl ?_; refine WP.valG rfl rfl rfl rfl rfl rfl rfl (Yld.move rfl rfl) ?_; refine WP.valG rfl rfl rfl rfl rfl rfl rfl (Yld.eql rfl rfl rfl true (decide_eq_true (by rfl))) ?_; refine WP.vl rfl (Yld.pickT rfl rfl rfl) ?_; refine WP.mv rfl rfl ?_; refine WP.valG rfl rfl rfl rfl rfl rfl rfl (Yld.move rfl rfl) ?_; refine WP.valG rfl rfl rfl rfl rfl rfl rfl (Yld.nilCheck rfl rfl) ?_; refine WP.valG rfl rfl rfl rfl rfl rfl rfl (Yld.fieldAddr rfl ty_fd_38_2 rfl) ?_; refine WP.valG rfl rfl rfl rfl rfl rfl rfl (Yld.ld (v := .pointer (some ⟨l, 0, none⟩)) rfl ty_sc_31 rfl rfl) ?_; refine WP.loudG rfl rfl rfl rfl rfl ?_; refine Op.cl (log_Head (hl2.mono (Imm.le_trans hJ5 (Imm.le_trans hJ6 (Imm.le_trans hJ7 hJ8))))) rfl Tryz.func18 rfl rfl rfl rfl ?_
   rintro v J L1 - ⟨rfl, rfl, rfl⟩
   try simp only [nf]
   refine WP.valG rfl rfl rfl rfl rfl rfl rfl (Yld.field rfl ty_fl_56_0 ty_sc_3 rfl rfl) ?_; refine WP.valG rfl rfl rfl rfl rfl rfl rfl (Yld.eql rfl rfl rfl true (decide_eq_true (by rw [hxn]; rfl))) ?_; refine WP.vl rfl (Yld.pickT rfl rfl rfl) ?_; refine WP.mv rfl rfl ?_; refine WP.nil ?_; refine WP.sub [(0, _), (1, _), (2, _), (3, _), (4, _), (5, _), (6, _), (7, _), (8, _), (9, _), (10, _), (11, _), (12, _), (13, _), (14, _), (15, _), (80, _), (127, _)] ?_ ⟨rfl, rfl, rfl, rfl, rfl, rfl, rfl, rfl, rfl, rfl, rfl, rfl, rfl, rfl, rfl, rfl, rfl, rfl, trivial⟩
   refine WP.next (WP.ret ?_)
   refine WP.fn .ret (.inr rfl) (res1 rfl rfl) [] (Imm.le_trans hIb (Imm.le_trans hJc (Imm.le_trans hJ (Imm.le_trans hJ9 (Imm.le_trans hJ5 (Imm.le_trans hJ6 (Imm.le_trans hJ7 hJ8))))))) ?_; exact ⟨rfl, rfl⟩
  ·have hb : b = false := eq_false_of_ne_true hb
   try rw [hb]
   refine WP.valG rfl rfl rfl rfl rfl rfl rfl (Yld.not rfl rfl) ?_; refine WP.vl rfl (Yld.pickT rfl rfl rfl) ?_; refine WP.nil ?_; refine WP.sub [(0, _), (1, _), (2, _), (3, _), (4, _), (5, _), (6, _), (7, _), (80, _)] ?_ ⟨rfl, rfl, rfl, rfl, rfl, rfl, rfl, rfl, rfl, trivial⟩
   refine WP.next ?_; refine WP.condT rfl ?_; refine WP.skip (WP.next (WP.block ?_))
   refine WP.region [0, 1, 2] rfl ?_; refine WP.mv rfl rfl ?_; refine WP.vl rfl (Yld.add64 rfl rfl rfl (by omega)) ?_; refine WP.mv rfl rfl ?_; refine WP.nil ?_; refine WP.sub [(0, _), (1, _), (2, _), (3, _), (4, _), (5, _), (6, _), (7, _), (80, _)] ?_ ⟨rfl, rfl, rfl, rfl, rfl, rfl, rfl, rfl, rfl, trivial⟩
   refine WP.leave ?_; exact WP.again ⟨i + 1, z2, xx2, tb2, J9, Lg2, Lt2, Ll2⟩ ⟨Imm.le_trans hJ hJ9, hg2, hT4, hl2, hev2, hal2, (by show z2.mu 2 xx2 + (i + 1) = 10; omega), (fun q => by have := hb9.2 q; rw [hb] at this; cases this)⟩ (show 30 - (i + 1) < 30 - i by omega) ⟨rfl, rfl, rfl, rfl, rfl, rfl, rfl, rfl, trivial⟩ rfl zA


end Go.Hp
