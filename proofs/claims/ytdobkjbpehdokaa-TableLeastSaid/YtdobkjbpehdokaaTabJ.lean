import Derived.Test.YtdobkjbpehdokaaTabI
set_option linter.unusedVariables false
set_option linter.unusedSimpArgs false
namespace Go.Hp
open Go Go.Proofs
theorem tabT_Load0 {I : Imm} {t : Nat} {x : Tb} {L : Chunks} (hT : IsT I t x L) {p : Int} (hg : x.get p = none) : Spec Try.prog 30 [.pointer (some ⟨t, 0, none⟩), .int .i64 p] I L (fun v J L' => v = .tuple #[.agg ((entV zeroEnt (.slice none 0 0) (.slice none 0 0))).toArray, .int .i64 90] ∧ I = J ∧ L' = L) := by
  cases hT with | @mk q c vc l s sw m a Lt hd =>
  refine Spec.of Try.func30 rfl Try.ntmps30 (Nat.le_of_ble_eq_true rfl) (fun F => ?_)
  try simp only [List.cons_append, List.nil_append, List.append_assoc]
  dsimp only [argsEnv]
  refine WP.seq ?_
  refine WP.region [0, 1] rfl ?_
  refine WP.loud rfl rfl ?_
  refine Op.alloc rfl rfl rfl ty_zr_63 (fun b4 => ?_)
  refine WP.val rfl rfl rfl rfl (Yld.assign rfl rfl) ?_
  refine WP.nil ?_
  refine WP.next ?_
  refine WP.seq ?_
  refine WP.region [0, 1, 2, 3] rfl ?_
  refine WP.val rfl rfl rfl rfl (Yld.move rfl rfl) ?_
  refine WP.val rfl rfl rfl rfl (Yld.move rfl rfl) ?_
  refine WP.loud rfl rfl ?_
  refine Op.call (tab_find hd) rfl Try.func45 rfl rfl rfl rfl (by repeat (first | exact Take.nil | with_reducible apply Take.cons | apply Take.app | exact Rm.chunk | exact Rm.here | exact Rm.nil0 | apply Rm.skip | apply Rm.skipS | (focus (apply Take.all; (repeat (first | exact Rm.chunk | exact Rm.here | exact Rm.nil0 | apply Rm.skip | apply Rm.skipS)); done)) | apply Take.cons)) ?_
  rintro v J Lt hJ ⟨rfl, rfl, rfl⟩
  clear hJ; try simp only [List.cons_append, List.nil_append, List.append_assoc]
  rw [hg]
  refine WP.val rfl rfl rfl rfl (Yld.assign rfl rfl) ?_
  refine WP.nil ?_
  refine WP.sub [(0, _), (1, _), (4, _), (5, _), (6, _)] ?_ ⟨rfl, rfl, rfl, rfl, rfl, trivial⟩
  refine WP.next ?_
  refine WP.seq ?_
  refine WP.seq ?_
  refine WP.region [0, 1] rfl ?_
  refine WP.val rfl rfl rfl rfl (Yld.move rfl rfl) ?_
  refine WP.val rfl rfl rfl rfl (Yld.eqlNil rfl ty_pt_104 rfl rfl) ?_
  refine WP.nil ?_
  refine WP.sub [(0, _), (1, _), (4, _), (5, _), (6, _), (11, _)] ?_ ⟨rfl, rfl, rfl, rfl, rfl, rfl, trivial⟩
  refine WP.next ?_
  refine WP.condT rfl ?_
  refine WP.seq ?_
  refine WP.region [0, 1, 2] rfl ?_
  refine WP.val rfl rfl rfl rfl (Yld.buildS (pl := []) rfl ty_zr_63 ty_zd_63 (by kernel_rfl) rfl (vs := []) rfl (segs := []) rfl rfl (by repeat (first | exact SetSeg.nil | apply SetSeg.one | exact SetAt.zero | apply SetAt.succ))) ?_
  refine WP.loud rfl rfl ?_
  refine Op.storeAll rfl rfl ty_sz_63 rfl rfl rfl rfl (by repeat (first | exact Upd.head | apply Upd.tail | apply Upd.tailS)) rfl ?_
  refine WP.val rfl rfl rfl rfl (Yld.assign rfl rfl) ?_
  refine WP.nil ?_
  refine WP.sub [(0, _), (1, _), (4, _), (5, _), (6, _), (11, _)] ?_ ⟨rfl, rfl, rfl, rfl, rfl, rfl, trivial⟩
  refine WP.next ?_
  refine WP.ret ?_
  refine WP.fin .ret (.inr rfl) (resT (rs := [.cell 4 63, .tmp 5]) (vs := [_, _]) rfl ⟨⟨_, _, _, _, rfl, (by repeat (first | exact There.h | exact There.i (by assumption) | apply There.t | apply There.s)), .inl ⟨ty_ag_63, by rfl, rfl⟩⟩, rfl, trivial⟩ rfl) ((q, row 85 [.int .i64 vc, .pointer (some ⟨c, 0, none⟩)]) :: (c, row 83 [.int .i64 l, .int .i64 s, .int .i64 sw, .int .i64 m, .int .i64 a]) :: Lt) (by repeat (first | exact Take.nil | with_reducible apply Take.cons | apply Take.app | exact Rm.chunk | exact Rm.here | exact Rm.nil0 | apply Rm.skip | apply Rm.skipS | (focus (apply Take.all; (repeat (first | exact Rm.chunk | exact Rm.here | exact Rm.nil0 | apply Rm.skip | apply Rm.skipS)); done)) | apply Take.cons)) (by repeat (first | exact Leave.done | apply Leave.drop | apply Leave.dropS)) (Imm.le_refl _) ?_
  exact ⟨rfl, rfl, rfl⟩

theorem tabT_Load1 {I : Imm} {t : Nat} {x : Tb} {L : Chunks} (hT : IsT I t x L) {p : Int} {e : Nat × Ent} (hg : x.get p = some e) : Spec Try.prog 30 [.pointer (some ⟨t, 0, none⟩), .int .i64 p] I L (fun v J L' => ∃ cs, v = .tuple #[.agg cs.toArray, .int .i64 0] ∧ REnt J e.2 cs ∧ IsT J t x L') := by
  cases hT with | @mk q c vc l s sw m a Lt hd =>
  obtain ⟨hes, es, hbe, hre⟩ := hd.entOk hg
  have hre' := hre
  obtain ⟨vn, vw, nv, rfl, hn, hno, hw⟩ := hre'.ex
  obtain ⟨An, cn, rfl, hcn⟩ := hn.slice'
  obtain ⟨Aw, cw, rfl, hcw⟩ := hw.slice'
  cases hd with | mk ok ow =>
  obtain ⟨bv, cv, spv, rfl, rfl, hcv, hnv⟩ := ow.get (by have := ok.n1; omega)
  have hn1 := ok.n1
  have hn2 := ok.n2
  refine Spec.of Try.func30 rfl Try.ntmps30 (Nat.le_of_ble_eq_true rfl) (fun F => ?_)
  try simp only [List.cons_append, List.nil_append, List.append_assoc]
  dsimp only [argsEnv]
  refine WP.seq ?_
  refine WP.region [0, 1] rfl ?_
  refine WP.loud rfl rfl ?_
  refine Op.alloc rfl rfl rfl ty_zr_63 (fun b4 => ?_)
  refine WP.val rfl rfl rfl rfl (Yld.assign rfl rfl) ?_
  refine WP.nil ?_
  refine WP.next ?_
  refine WP.seq ?_
  refine WP.region [0, 1, 2, 3] rfl ?_
  refine WP.val rfl rfl rfl rfl (Yld.move rfl rfl) ?_
  refine WP.val rfl rfl rfl rfl (Yld.move rfl rfl) ?_
  refine WP.loud rfl rfl ?_
  refine Op.call (tab_find (IsTab.mk ok ow)) rfl Try.func45 rfl rfl rfl rfl (by repeat (first | exact Take.nil | with_reducible apply Take.cons | apply Take.app | exact Rm.chunk | exact Rm.here | exact Rm.nil0 | apply Rm.skip | apply Rm.skipS | (focus (apply Take.all; (repeat (first | exact Rm.chunk | exact Rm.here | exact Rm.nil0 | apply Rm.skip | apply Rm.skipS)); done)) | apply Take.cons)) ?_
  rintro v J L1 hJ ⟨rfl, rfl, rfl⟩
  clear hJ; try simp only [List.cons_append, List.nil_append, List.append_assoc]
  rw [hg]
  refine WP.val rfl rfl rfl rfl (Yld.assign rfl rfl) ?_
  refine WP.nil ?_
  refine WP.sub [(0, _), (1, _), (4, _), (5, _), (6, _)] ?_ ⟨rfl, rfl, rfl, rfl, rfl, trivial⟩
  refine WP.next ?_
  refine WP.seq ?_
  refine WP.seq ?_
  refine WP.region [0, 1] rfl ?_
  refine WP.val rfl rfl rfl rfl (Yld.move rfl rfl) ?_
  refine WP.val rfl rfl rfl rfl (Yld.eqlNil rfl ty_pt_104 rfl rfl) ?_
  refine WP.nil ?_
  refine WP.sub [(0, _), (1, _), (4, _), (5, _), (6, _), (11, _)] ?_ ⟨rfl, rfl, rfl, rfl, rfl, rfl, trivial⟩
  refine WP.next ?_
  refine WP.condF rfl ?_
  refine WP.skip ?_
  refine WP.next ?_
  refine WP.seq ?_
  refine WP.region [0, 1, 2, 3, 4] rfl ?_
  refine WP.val rfl rfl rfl rfl (Yld.move rfl rfl) ?_
  refine WP.val rfl rfl rfl rfl (Yld.nilCheck rfl rfl) ?_
  refine WP.val rfl rfl rfl rfl (Yld.fieldAddr rfl ty_fd_113_0 rfl) ?_
  refine WP.val rfl rfl rfl rfl (Yld.load rfl ty_sc_27 rfl (by repeat (first | exact There.h | exact There.i (by assumption) | apply There.t | apply There.s)) rfl) ?_
  refine WP.loud rfl rfl ?_
  refine Op.call cell_Load rfl Try.func22 rfl rfl rfl rfl (by repeat (first | exact Take.nil | with_reducible apply Take.cons | apply Take.app | exact Rm.chunk | exact Rm.here | exact Rm.nil0 | apply Rm.skip | apply Rm.skipS | (focus (apply Take.all; (repeat (first | exact Rm.chunk | exact Rm.here | exact Rm.nil0 | apply Rm.skip | apply Rm.skipS)); done)) | apply Take.cons)) ?_
  rintro v J L1 hJ ⟨rfl, rfl, rfl⟩
  clear hJ; try simp only [List.cons_append, List.nil_append, List.append_assoc]
  refine WP.nil ?_
  refine WP.sub [(0, _), (1, _), (4, _), (5, _), (6, _), (11, _)] ?_ ⟨rfl, rfl, rfl, rfl, rfl, rfl, trivial⟩
  refine WP.next ?_
  refine WP.seq ?_
  refine WP.region [0, 1, 2, 3, 4, 5] rfl ?_
  refine WP.val rfl rfl rfl rfl (Yld.move rfl rfl) ?_
  refine WP.val rfl rfl rfl rfl (Yld.nilCheck rfl rfl) ?_
  refine WP.val rfl rfl rfl rfl (Yld.loadAll rfl ty_ag_63 rfl (by repeat (first | exact There.h | exact There.i (by assumption) | apply There.t | apply There.s)) rfl) ?_
  refine WP.loud rfl rfl ?_
  refine Op.call (tab_copied hre hes) rfl Try.func47 rfl rfl rfl rfl (by repeat (first | exact Take.nil | with_reducible apply Take.cons | apply Take.app | exact Rm.chunk | exact Rm.here | exact Rm.nil0 | apply Rm.skip | apply Rm.skipS | (focus (apply Take.all; (repeat (first | exact Rm.chunk | exact Rm.here | exact Rm.nil0 | apply Rm.skip | apply Rm.skipS)); done)) | apply Take.cons)) ?_
  rintro v J2 L1 hJ2 ⟨cs2, rfl, hre2, rfl⟩
  try simp only [List.cons_append, List.nil_append, List.append_assoc]
  obtain ⟨vn2, vw2, nv2, rfl, hn2, hno2, hw2⟩ := hre2.ex
  obtain ⟨An2, cn2, rfl, hcn2⟩ := hn2.slice'
  obtain ⟨Aw2, cw2, rfl, hcw2⟩ := hw2.slice'
  refine WP.loud rfl rfl ?_
  refine Op.storeAll rfl rfl ty_sz_63 rfl rfl rfl rfl (by repeat (first | exact Upd.head | apply Upd.tail | apply Upd.tailS)) rfl ?_
  refine WP.val rfl rfl rfl rfl (Yld.assign rfl rfl) ?_
  refine WP.nil ?_
  refine WP.sub [(0, _), (1, _), (4, _), (5, _), (6, _), (11, _)] ?_ ⟨rfl, rfl, rfl, rfl, rfl, rfl, trivial⟩
  refine WP.next ?_
  refine WP.ret ?_
  refine WP.fin .ret (.inr rfl) (resT (rs := [.cell 4 63, .tmp 5]) (vs := [_, _]) rfl ⟨⟨_, _, _, _, rfl, (by repeat (first | exact There.h | exact There.i (by assumption) | apply There.t | apply There.s)), .inl ⟨ty_ag_63, by rfl, rfl⟩⟩, rfl, trivial⟩ rfl) ((q, row 85 [.int .i64 vc, .pointer (some ⟨c, 0, none⟩)]) :: (c, row 83 [.int .i64 (IntKind.i64.wrap (l + 1)), .int .i64 s, .int .i64 sw, .int .i64 m, .int .i64 a]) :: ((t, row 113 [.pointer (some ⟨q, 0, none⟩), .int .u64 (x.tok : Int), .slice (some ⟨bv, 0, none⟩) x.cks.length cv, .int .i64 x.next]) :: ((bv, row 103 (ckps x.cks ++ spv)) :: x.cks.flatMap ckCh))) (by repeat (first | exact Take.nil | with_reducible apply Take.cons | apply Take.app | exact Rm.chunk | exact Rm.here | exact Rm.nil0 | apply Rm.skip | apply Rm.skipS | (focus (apply Take.all; (repeat (first | exact Rm.chunk | exact Rm.here | exact Rm.nil0 | apply Rm.skip | apply Rm.skipS)); done)) | apply Take.cons)) (by repeat (first | exact Leave.done | apply Leave.drop | apply Leave.dropS)) hJ2 ?_
  exact ⟨_, rfl, ⟨_, _, nv2, rfl, hn2, hno2, hw2⟩, .mk (IsTab.mk (ok.mono hJ2) ow)⟩

theorem tabT_Put {I : Imm} {t : Nat} {x : Tb} {L : Chunks} (hT : IsT I t x L) {p : Int} {e : Ent} {cs : List Value} (he : REnt I e cs) (hsz : e.sized) (htk : x.tok + 1 < 18446744073709551616) : Spec Try.prog 33 [.pointer (some ⟨t, 0, none⟩), .int .i64 p, .agg cs.toArray] I L (fun v J L' => (¬ (1 ≤ p ∧ p ≤ 512 ∧ e.mayP) ∧ v = .int .i64 1 ∧ I = J ∧ IsT J t x L') ∨ ((1 ≤ p ∧ p ≤ 512 ∧ e.mayP) ∧ v = .int .i64 0 ∧ ∃ x', x.Used x' p e ∧ IsT J t x' L')) := by
  cases hT with | @mk q c vc l s sw m a Lt hd =>
  have he0 := he
  obtain ⟨vn, vw, nv, rfl, hn, hno, hw⟩ := he.ex
  obtain ⟨An, cn, rfl, hcn⟩ := hn.slice'
  obtain ⟨Aw, cw, rfl, hcw⟩ := hw.slice'
  cases hd with | mk ok ow =>
  obtain ⟨bv, cv, spv, rfl, rfl, hcv, hnv⟩ := ow.get (by have := ok.n1; omega)
  have hn1 := ok.n1
  have hn2 := ok.n2
  refine Spec.of Try.func33 rfl Try.ntmps33 (Nat.le_of_ble_eq_true rfl) (fun F => ?_)
  try simp only [List.cons_append, List.nil_append, List.append_assoc]
  dsimp only [argsEnv]
  refine WP.seq ?_
  refine WP.region [0, 1] rfl ?_
  refine WP.loud rfl rfl ?_
  refine Op.box rfl rfl rfl rfl rfl (fun b5 => ?_)
  refine WP.val rfl rfl rfl rfl (Yld.assign rfl rfl) ?_
  refine WP.nil ?_
  refine WP.next ?_
  refine WP.seq ?_
  refine WP.seq ?_
  refine WP.region [0, 1, 2, 3, 4, 5, 6, 7, 8, 9, 10] rfl ?_
  refine WP.val rfl rfl rfl rfl (Yld.move rfl rfl) ?_
  refine WP.split rfl rfl rfl rfl (Yld.lss rfl rfl rfl) (fun g1 => ?_) (fun g1 => ?_)
  · refine WP.val rfl rfl rfl rfl (Yld.move rfl rfl) ?_
    refine WP.passG rfl rfl rfl rfl rfl rfl rfl rfl ?_
    refine WP.passG rfl rfl rfl rfl rfl rfl rfl rfl ?_
    refine WP.val rfl rfl rfl rfl (Yld.pickT rfl rfl rfl) ?_
    refine WP.val rfl rfl rfl rfl (Yld.move rfl rfl) ?_
    refine WP.passG rfl rfl rfl rfl rfl rfl rfl rfl ?_
    refine WP.passG rfl rfl rfl rfl rfl rfl rfl rfl ?_
    refine WP.passG rfl rfl rfl rfl rfl rfl rfl rfl ?_
    refine WP.val rfl rfl rfl rfl (Yld.pickT rfl rfl rfl) ?_
    refine WP.nil ?_
    refine WP.sub [(0, _), (1, _), (2, _), (5, _), (6, _), (17, _)] ?_ ⟨rfl, rfl, rfl, rfl, rfl, rfl, trivial⟩
    refine WP.next ?_
    refine WP.condT rfl ?_
    refine WP.seq ?_
    refine WP.region [0] rfl ?_
    refine WP.val rfl rfl rfl rfl (Yld.assign rfl rfl) ?_
    refine WP.nil ?_
    refine WP.next ?_
    refine WP.ret ?_
    refine WP.fin .ret (.inr rfl) (res1 rfl rfl) ((q, row 85 [.int .i64 vc, .pointer (some ⟨c, 0, none⟩)]) :: (c, row 83 [.int .i64 l, .int .i64 s, .int .i64 sw, .int .i64 m, .int .i64 a]) :: ((t, row 113 [.pointer (some ⟨q, 0, none⟩), .int .u64 (x.tok : Int), .slice (some ⟨bv, 0, none⟩) x.cks.length cv, .int .i64 x.next]) :: ((bv, row 103 (ckps x.cks ++ spv)) :: x.cks.flatMap ckCh))) (by repeat (first | exact Take.nil | with_reducible apply Take.cons | apply Take.app | exact Rm.chunk | exact Rm.here | exact Rm.nil0 | apply Rm.skip | apply Rm.skipS | (focus (apply Take.all; (repeat (first | exact Rm.chunk | exact Rm.here | exact Rm.nil0 | apply Rm.skip | apply Rm.skipS)); done)) | apply Take.cons)) (by repeat (first | exact Leave.done | apply Leave.drop | apply Leave.dropS)) (Imm.le_refl _) ?_
    exact .inl ⟨fun h => (by omega), rfl, rfl, .mk (.mk ok ow)⟩
  · refine WP.val rfl rfl rfl rfl (Yld.move rfl rfl) ?_
    refine WP.valG rfl rfl rfl rfl rfl rfl rfl (Yld.move rfl rfl) ?_
    refine WP.splitG rfl rfl rfl rfl rfl rfl rfl (Yld.gtr rfl rfl rfl) (fun g2 => ?_) (fun g2 => ?_)
    · refine WP.val rfl rfl rfl rfl (Yld.pickF rfl rfl rfl) ?_
      refine WP.val rfl rfl rfl rfl (Yld.move rfl rfl) ?_
      refine WP.passG rfl rfl rfl rfl rfl rfl rfl rfl ?_
      refine WP.passG rfl rfl rfl rfl rfl rfl rfl rfl ?_
      refine WP.passG rfl rfl rfl rfl rfl rfl rfl rfl ?_
      refine WP.val rfl rfl rfl rfl (Yld.pickT rfl rfl rfl) ?_
      refine WP.nil ?_
      refine WP.sub [(0, _), (1, _), (2, _), (5, _), (6, _), (17, _)] ?_ ⟨rfl, rfl, rfl, rfl, rfl, rfl, trivial⟩
      refine WP.next ?_
      refine WP.condT rfl ?_
      refine WP.seq ?_
      refine WP.region [0] rfl ?_
      refine WP.val rfl rfl rfl rfl (Yld.assign rfl rfl) ?_
      refine WP.nil ?_
      refine WP.next ?_
      refine WP.ret ?_
      refine WP.fin .ret (.inr rfl) (res1 rfl rfl) ((q, row 85 [.int .i64 vc, .pointer (some ⟨c, 0, none⟩)]) :: (c, row 83 [.int .i64 l, .int .i64 s, .int .i64 sw, .int .i64 m, .int .i64 a]) :: ((t, row 113 [.pointer (some ⟨q, 0, none⟩), .int .u64 (x.tok : Int), .slice (some ⟨bv, 0, none⟩) x.cks.length cv, .int .i64 x.next]) :: ((bv, row 103 (ckps x.cks ++ spv)) :: x.cks.flatMap ckCh))) (by repeat (first | exact Take.nil | with_reducible apply Take.cons | apply Take.app | exact Rm.chunk | exact Rm.here | exact Rm.nil0 | apply Rm.skip | apply Rm.skipS | (focus (apply Take.all; (repeat (first | exact Rm.chunk | exact Rm.here | exact Rm.nil0 | apply Rm.skip | apply Rm.skipS)); done)) | apply Take.cons)) (by repeat (first | exact Leave.done | apply Leave.drop | apply Leave.dropS)) (Imm.le_refl _) ?_
      exact .inl ⟨fun h => (by omega), rfl, rfl, .mk (.mk ok ow)⟩
    · refine WP.val rfl rfl rfl rfl (Yld.pickF rfl rfl rfl) ?_
      refine WP.val rfl rfl rfl rfl (Yld.move rfl rfl) ?_
      refine WP.valG rfl rfl rfl rfl rfl rfl rfl (Yld.loadAll rfl ty_ag_63 rfl (by repeat (first | exact There.h | exact There.i (by assumption) | apply There.t | apply There.s)) rfl) ?_
      refine WP.loudG rfl rfl rfl rfl rfl ?_
      refine Op.call (tab_may he0 hsz) rfl Try.func48 rfl rfl rfl rfl (by repeat (first | exact Take.nil | with_reducible apply Take.cons | apply Take.app | exact Rm.chunk | exact Rm.here | exact Rm.nil0 | apply Rm.skip | apply Rm.skipS | (focus (apply Take.all; (repeat (first | exact Rm.chunk | exact Rm.here | exact Rm.nil0 | apply Rm.skip | apply Rm.skipS)); done)) | apply Take.cons)) ?_
      rintro v J L1 hJ ⟨bm, rfl, hbm, rfl, rfl⟩
      clear hJ; try simp only [List.cons_append, List.nil_append, List.append_assoc]
      by_cases hm : bm = true
      · rw [hm]
        refine WP.valG rfl rfl rfl rfl rfl rfl rfl (Yld.not rfl rfl) ?_
        refine WP.val rfl rfl rfl rfl (Yld.pickF rfl rfl rfl) ?_
        refine WP.nil ?_
        refine WP.sub [(0, _), (1, _), (2, _), (5, _), (6, _), (17, _)] ?_ ⟨rfl, rfl, rfl, rfl, rfl, rfl, trivial⟩
        refine WP.next ?_
        refine WP.condF rfl ?_
        refine WP.skip ?_
        refine WP.next ?_
        refine WP.seq ?_
        refine WP.region [0, 1, 2, 3, 4] rfl ?_
        refine WP.val rfl rfl rfl rfl (Yld.move rfl rfl) ?_
        refine WP.val rfl rfl rfl rfl (Yld.nilCheck rfl rfl) ?_
        refine WP.val rfl rfl rfl rfl (Yld.fieldAddr rfl ty_fd_113_0 rfl) ?_
        refine WP.val rfl rfl rfl rfl (Yld.load rfl ty_sc_27 rfl (by repeat (first | exact There.h | exact There.i (by assumption) | apply There.t | apply There.s)) rfl) ?_
        refine WP.loud rfl rfl ?_
        refine Op.call cell_Store rfl Try.func40 rfl rfl rfl rfl (by repeat (first | exact Take.nil | with_reducible apply Take.cons | apply Take.app | exact Rm.chunk | exact Rm.here | exact Rm.nil0 | apply Rm.skip | apply Rm.skipS | (focus (apply Take.all; (repeat (first | exact Rm.chunk | exact Rm.here | exact Rm.nil0 | apply Rm.skip | apply Rm.skipS)); done)) | apply Take.cons)) ?_
        rintro v J L1 hJ ⟨rfl, rfl, rfl⟩
        clear hJ; try simp only [List.cons_append, List.nil_append, List.append_assoc]
        refine WP.nil ?_
        refine WP.sub [(0, _), (1, _), (2, _), (5, _), (6, _), (17, _)] ?_ ⟨rfl, rfl, rfl, rfl, rfl, rfl, trivial⟩
        refine WP.next ?_
        refine WP.seq ?_
        refine WP.region [0, 1, 2, 3] rfl ?_
        refine WP.val rfl rfl rfl rfl (Yld.move rfl rfl) ?_
        refine WP.val rfl rfl rfl rfl (Yld.move rfl rfl) ?_
        refine WP.val rfl rfl rfl rfl (Yld.loadAll rfl ty_ag_63 rfl (by repeat (first | exact There.h | exact There.i (by assumption) | apply There.t | apply There.s)) rfl) ?_
        refine WP.loud rfl rfl ?_
        refine Op.call (tab_use (IsTab.mk ok ow) he0 hsz htk ⟨by omega, by omega⟩) rfl Try.func46 rfl rfl rfl rfl (by repeat (first | exact Take.nil | with_reducible apply Take.cons | apply Take.app | exact Rm.chunk | exact Rm.here | exact Rm.nil0 | apply Rm.skip | apply Rm.skipS | (focus (apply Take.all; (repeat (first | exact Rm.chunk | exact Rm.here | exact Rm.nil0 | apply Rm.skip | apply Rm.skipS)); done)) | apply Take.cons)) ?_
        rintro v J2 L9 hJ2 ⟨x2, rfl, hu, hd2⟩
        try simp only [List.cons_append, List.nil_append, List.append_assoc]
        refine WP.nil ?_
        refine WP.sub [(0, _), (1, _), (2, _), (5, _), (6, _), (17, _)] ?_ ⟨rfl, rfl, rfl, rfl, rfl, rfl, trivial⟩
        refine WP.next ?_
        refine WP.seq ?_
        refine WP.region [0] rfl ?_
        refine WP.val rfl rfl rfl rfl (Yld.assign rfl rfl) ?_
        refine WP.nil ?_
        refine WP.next ?_
        refine WP.ret ?_
        refine WP.fin .ret (.inr rfl) (res1 rfl rfl) ((q, row 85 [.int .i64 0, .pointer (some ⟨c, 0, none⟩)]) :: (c, row 83 [.int .i64 l, .int .i64 (IntKind.i64.wrap (s + 1)), .int .i64 sw, .int .i64 m, .int .i64 a]) :: L9) (by repeat (first | exact Take.nil | with_reducible apply Take.cons | apply Take.app | exact Rm.chunk | exact Rm.here | exact Rm.nil0 | apply Rm.skip | apply Rm.skipS | (focus (apply Take.all; (repeat (first | exact Rm.chunk | exact Rm.here | exact Rm.nil0 | apply Rm.skip | apply Rm.skipS)); done)) | apply Take.cons)) (by repeat (first | exact Leave.done | apply Leave.drop | apply Leave.dropS)) hJ2 ?_
        exact .inr ⟨⟨by omega, by omega, hbm.1 hm⟩, rfl, x2, hu, .mk hd2⟩
      · have hm : bm = false := by simpa using hm
        rw [hm]
        refine WP.valG rfl rfl rfl rfl rfl rfl rfl (Yld.not rfl rfl) ?_
        refine WP.val rfl rfl rfl rfl (Yld.pickF rfl rfl rfl) ?_
        refine WP.nil ?_
        refine WP.sub [(0, _), (1, _), (2, _), (5, _), (6, _), (17, _)] ?_ ⟨rfl, rfl, rfl, rfl, rfl, rfl, trivial⟩
        refine WP.next ?_
        refine WP.condT rfl ?_
        refine WP.seq ?_
        refine WP.region [0] rfl ?_
        refine WP.val rfl rfl rfl rfl (Yld.assign rfl rfl) ?_
        refine WP.nil ?_
        refine WP.next ?_
        refine WP.ret ?_
        refine WP.fin .ret (.inr rfl) (res1 rfl rfl) ((q, row 85 [.int .i64 vc, .pointer (some ⟨c, 0, none⟩)]) :: (c, row 83 [.int .i64 l, .int .i64 s, .int .i64 sw, .int .i64 m, .int .i64 a]) :: ((t, row 113 [.pointer (some ⟨q, 0, none⟩), .int .u64 (x.tok : Int), .slice (some ⟨bv, 0, none⟩) x.cks.length cv, .int .i64 x.next]) :: ((bv, row 103 (ckps x.cks ++ spv)) :: x.cks.flatMap ckCh))) (by repeat (first | exact Take.nil | with_reducible apply Take.cons | apply Take.app | exact Rm.chunk | exact Rm.here | exact Rm.nil0 | apply Rm.skip | apply Rm.skipS | (focus (apply Take.all; (repeat (first | exact Rm.chunk | exact Rm.here | exact Rm.nil0 | apply Rm.skip | apply Rm.skipS)); done)) | apply Take.cons)) (by repeat (first | exact Leave.done | apply Leave.drop | apply Leave.dropS)) (Imm.le_refl _) ?_
        exact .inl ⟨fun h => (by have := hbm.2 h.2.2; rw [hm] at this; cases this), rfl, rfl, .mk (.mk ok ow)⟩


end Go.Hp
