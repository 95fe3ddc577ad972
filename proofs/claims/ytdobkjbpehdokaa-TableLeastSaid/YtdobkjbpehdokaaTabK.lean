import Derived.Test.YtdobkjbpehdokaaTabJ
set_option linter.unusedVariables false
set_option linter.unusedSimpArgs false
namespace Go.Hp
open Go Go.Proofs
theorem tabT_Swap0 {I : Imm} {t : Nat} {x : Tb} {L : Chunks} (hT : IsT I t x L) {p : Int} {tk : Nat} {e : Ent} {cs : List Value} (he : REnt I e cs) (hg : x.get p = none) : Spec Try.prog 31 [.pointer (some ⟨t, 0, none⟩), .int .i64 p, .int .u64 (tk : Int), .agg cs.toArray] I L (fun v J L' => v = .int .i64 90 ∧ I = J ∧ L' = L) := by
  cases hT with | @mk q c vc l s sw m a Lt hd =>
  obtain ⟨vn, vw, nv, rfl, hn, hno, hw⟩ := he.ex
  obtain ⟨An, cn, rfl, hcn⟩ := hn.slice'
  obtain ⟨Aw, cw, rfl, hcw⟩ := hw.slice'
  refine Spec.of Try.func31 rfl Try.ntmps31 (Nat.le_of_ble_eq_true rfl) (fun F => ?_)
  try simp only [List.cons_append, List.nil_append, List.append_assoc]
  dsimp only [argsEnv]
  refine WP.seq ?_
  refine WP.region [0, 1] rfl ?_
  refine WP.loud rfl rfl ?_
  refine Op.box rfl rfl rfl rfl rfl (fun b7 => ?_)
  refine WP.val rfl rfl rfl rfl (Yld.assign rfl rfl) ?_
  refine WP.nil ?_
  refine WP.next ?_
  refine WP.seq ?_
  refine WP.region [0, 1, 2, 3] rfl ?_
  refine WP.val rfl rfl rfl rfl (Yld.move rfl rfl) ?_
  refine WP.val rfl rfl rfl rfl (Yld.move rfl rfl) ?_
  refine WP.loud rfl rfl ?_
  refine Op.call (tab_find hd) rfl Try.func45 rfl rfl rfl rfl (by repeat (first | exact Take.nil | with_reducible apply Take.cons | apply Take.app | exact Rm.chunk | exact Rm.here | exact Rm.nil0 | apply Rm.skip | apply Rm.skipS | (focus (apply Take.all; (repeat (first | exact Rm.chunk | exact Rm.here | exact Rm.nil0 | apply Rm.skip | apply Rm.skipS)); done)) | apply Take.cons)) ?_
  rintro v J Lt hJ ⟨rfl, rfl, rfl⟩
  clear hJ; try simp only [List.cons_append, List.nil_append, List.append_assoc]
  rw [hg]
  refine WP.val rfl rfl rfl rfl (Yld.assign rfl rfl) ?_
  refine WP.nil ?_
  refine WP.sub [(0, _), (1, _), (2, _), (3, _), (7, _), (8, _), (9, _)] ?_ ⟨rfl, rfl, rfl, rfl, rfl, rfl, rfl, trivial⟩
  refine WP.next ?_
  refine WP.seq ?_
  refine WP.block ?_
  refine WP.seq ?_
  refine WP.region [0, 1, 2] rfl ?_
  refine WP.val rfl rfl rfl rfl (Yld.move rfl rfl) ?_
  refine WP.val rfl rfl rfl rfl (Yld.eqlNil rfl ty_pt_104 rfl rfl) ?_
  refine WP.val rfl rfl rfl rfl (Yld.assign rfl rfl) ?_
  refine WP.nil ?_
  refine WP.sub [(0, _), (1, _), (2, _), (3, _), (7, _), (8, _), (9, _), (13, _)] ?_ ⟨rfl, rfl, rfl, rfl, rfl, rfl, rfl, rfl, trivial⟩
  refine WP.next ?_
  refine WP.condT rfl ?_
  refine WP.seq ?_
  refine WP.region [0] rfl ?_
  refine WP.val rfl rfl rfl rfl (Yld.assign rfl rfl) ?_
  refine WP.nil ?_
  refine WP.next ?_
  refine WP.ret ?_
  refine WP.fin .ret (.inr rfl) (res1 rfl rfl) ((q, row 85 [.int .i64 vc, .pointer (some ⟨c, 0, none⟩)]) :: (c, row 83 [.int .i64 l, .int .i64 s, .int .i64 sw, .int .i64 m, .int .i64 a]) :: Lt) (by repeat (first | exact Take.nil | with_reducible apply Take.cons | apply Take.app | exact Rm.chunk | exact Rm.here | exact Rm.nil0 | apply Rm.skip | apply Rm.skipS | (focus (apply Take.all; (repeat (first | exact Rm.chunk | exact Rm.here | exact Rm.nil0 | apply Rm.skip | apply Rm.skipS)); done)) | apply Take.cons)) (by repeat (first | exact Leave.done | apply Leave.drop | apply Leave.dropS)) (Imm.le_refl _) ?_
  exact ⟨rfl, rfl, rfl⟩


theorem ckV_at' {f : Slots} {j : Nat} (h : j < 16) {o : Option (Nat × Ent)} (ho : f j = o) : (ckV f)[j]? = some (slotV o) := by
  subst ho; simpa using ckV_at (f := f) h
theorem ckV_set' {f : Slots} {j : Nat} (h : j < 16) (x : Option (Nat × Ent)) : SetAt (ckV f) j (slotV x) (ckV (putSl f j x)) := by simpa using ckV_set (f := f) h x
theorem tabT_Swap1a {I : Imm} {t : Nat} {x : Tb} {L : Chunks} (hT : IsT I t x L) {p : Int} {tk : Nat} {e0 : Nat × Ent} {i j : Nat} (hp : p = (i : Int) * 16 + j + 1) (hj : j < 16) (hi : i < x.cks.length) (hg : x.get p = some e0) {e : Ent} {cs : List Value} (he : REnt I e cs) (hsz : e.sized) (htk : x.tok + 1 < 18446744073709551616) (hne : ¬ e0.2.tok = tk) : Spec Try.prog 31 [.pointer (some ⟨t, 0, none⟩), .int .i64 p, .int .u64 (tk : Int), .agg cs.toArray] I L (fun v J L' => (¬ e.mayP ∧ v = .int .i64 1 ∧ I = J ∧ IsT J t x L') ∨ (e.mayP ∧ e0.2.tok ≠ tk ∧ v = .int .i64 5 ∧ I = J ∧ IsT J t x L') ∨ (e.mayP ∧ e0.2.tok = tk ∧ v = .int .i64 0 ∧ ∃ x', x.Swapped x' p e ∧ IsT J t x' L')) := by
  cases hT with | @mk q c vc l s sw m a Lt hd =>
  have he0 := he
  obtain ⟨vn, vw, nv, rfl, hn, hno, hw⟩ := he.ex
  obtain ⟨An, cn, rfl, hcn⟩ := hn.slice'
  obtain ⟨Aw, cw, rfl, hcw⟩ := hw.slice'
  obtain ⟨hes, es, hbe, hre⟩ := hd.entOk hg
  have hre' := hre
  obtain ⟨vn0, vw0, nv0, rfl, _, _, _⟩ := hre'.ex
  cases hd with | mk ok ow =>
  obtain ⟨bv, cv, spv, rfl, rfl, hcv, hnv⟩ := ow.get (by have := ok.n1; omega)
  have hn1 := ok.n1
  have hn2 := ok.n2
  refine Spec.of Try.func31 rfl Try.ntmps31 (Nat.le_of_ble_eq_true rfl) (fun F => ?_)
  try simp only [List.cons_append, List.nil_append, List.append_assoc]
  dsimp only [argsEnv]
  refine WP.seq ?_
  refine WP.region [0, 1] rfl ?_
  refine WP.loud rfl rfl ?_
  refine Op.box rfl rfl rfl rfl rfl (fun b7 => ?_)
  refine WP.val rfl rfl rfl rfl (Yld.assign rfl rfl) ?_
  refine WP.nil ?_
  refine WP.next ?_
  refine WP.seq ?_
  refine WP.region [0, 1, 2, 3] rfl ?_
  refine WP.val rfl rfl rfl rfl (Yld.move rfl rfl) ?_
  refine WP.val rfl rfl rfl rfl (Yld.move rfl rfl) ?_
  refine WP.loud rfl rfl ?_
  refine Op.call (tab_find (IsTab.mk ok ow)) rfl Try.func45 rfl rfl rfl rfl (by repeat (first | exact Take.nil | with_reducible apply Take.cons | apply Take.app | exact Rm.chunk | exact Rm.here | exact Rm.nil0 | apply Rm.skip | apply Rm.skipS | (focus (apply Take.all; (repeat (first | exact Rm.chunk | exact Rm.here | exact Rm.nil0 | apply Rm.skip | apply Rm.skipS)); done)) | apply Take.cons)) ?_
  rintro v J L1 hJ ⟨rfl, rfl, rfl⟩
  clear hJ; try simp only [List.cons_append, List.nil_append, List.append_assoc]
  rw [hg]
  refine WP.val rfl rfl rfl rfl (Yld.assign rfl rfl) ?_
  refine WP.nil ?_
  refine WP.sub [(0, _), (1, _), (2, _), (3, _), (7, _), (8, _), (9, _)] ?_ ⟨rfl, rfl, rfl, rfl, rfl, rfl, rfl, trivial⟩
  refine WP.next ?_
  refine WP.seq ?_
  refine WP.block ?_
  refine WP.seq ?_
  refine WP.region [0, 1, 2] rfl ?_
  refine WP.val rfl rfl rfl rfl (Yld.move rfl rfl) ?_
  refine WP.val rfl rfl rfl rfl (Yld.eqlNil rfl ty_pt_104 rfl rfl) ?_
  refine WP.val rfl rfl rfl rfl (Yld.assign rfl rfl) ?_
  refine WP.nil ?_
  refine WP.sub [(0, _), (1, _), (2, _), (3, _), (7, _), (8, _), (9, _), (13, _)] ?_ ⟨rfl, rfl, rfl, rfl, rfl, rfl, rfl, rfl, trivial⟩
  refine WP.next ?_
  refine WP.condF rfl ?_
  refine WP.seq ?_
  refine WP.region [0, 1, 2, 3] rfl ?_
  refine WP.val rfl rfl rfl rfl (Yld.loadAll rfl ty_ag_63 rfl (by repeat (first | exact There.h | exact There.i (by assumption) | apply There.t | apply There.s)) rfl) ?_
  refine WP.loud rfl rfl ?_
  refine Op.call (tab_may he0 hsz) rfl Try.func48 rfl rfl rfl rfl (by repeat (first | exact Take.nil | with_reducible apply Take.cons | apply Take.app | exact Rm.chunk | exact Rm.here | exact Rm.nil0 | apply Rm.skip | apply Rm.skipS | (focus (apply Take.all; (repeat (first | exact Rm.chunk | exact Rm.here | exact Rm.nil0 | apply Rm.skip | apply Rm.skipS)); done)) | apply Take.cons)) ?_
  rintro v J L1 hJ ⟨bm, rfl, hbm, rfl, rfl⟩
  clear hJ; try simp only [List.cons_append, List.nil_append, List.append_assoc]
  by_cases hm : bm = true
  · rw [hm]
    refine WP.val rfl rfl rfl rfl (Yld.not rfl rfl) ?_
    refine WP.val rfl rfl rfl rfl (Yld.assign rfl rfl) ?_
    refine WP.nil ?_
    refine WP.sub [(0, _), (1, _), (2, _), (3, _), (7, _), (8, _), (9, _), (13, _), (16, _)] ?_ ⟨rfl, rfl, rfl, rfl, rfl, rfl, rfl, rfl, rfl, trivial⟩
    refine WP.next ?_
    refine WP.condF rfl ?_
    refine WP.seq ?_
    refine WD.start Trymixed 18 (There I _) (There I []) (fun _ _ h => h) SubL.nil 18 [false, false, false, false, false, false, false, false, false, false, false, false, false, false, false, false, false, false] rfl rfl ?_
    refine WD.val (i := 0) rfl rfl rfl rfl (by kernel_rfl) rfl (Yld.move rfl rfl) ?_
    refine WD.val (i := 1) rfl rfl rfl rfl (by kernel_rfl) rfl (Yld.nilCheck rfl rfl) ?_
    refine WD.val (i := 2) rfl rfl rfl rfl (by kernel_rfl) rfl (Yld.fieldAddr rfl ty_fd_63_0 rfl) ?_
    refine WD.val (i := 3) rfl rfl rfl rfl (by kernel_rfl) rfl (Yld.load rfl ty_sc_60 rfl (by repeat (first | exact There.h | exact There.i (by assumption) | apply There.t | apply There.s)) rfl) ?_
    refine WD.val (i := 4) rfl rfl rfl rfl (by kernel_rfl) rfl (Yld.move rfl rfl) ?_
    refine WD.val (i := 5) rfl rfl rfl rfl (by kernel_rfl) rfl (Yld.neq rfl rfl rfl true (decide_eq_true (by omega))) ?_
    refine WD.val (i := 6) rfl rfl rfl rfl (by kernel_rfl) rfl (Yld.move rfl rfl) ?_
    refine WD.passG (i := 7) rfl rfl rfl rfl rfl rfl rfl rfl (by kernel_rfl) rfl ?_
    refine WD.passG (i := 8) rfl rfl rfl rfl rfl rfl rfl rfl (by kernel_rfl) rfl ?_
    refine WD.passG (i := 9) rfl rfl rfl rfl rfl rfl rfl rfl (by kernel_rfl) rfl ?_
    refine WD.passG (i := 10) rfl rfl rfl rfl rfl rfl rfl rfl (by kernel_rfl) rfl ?_
    refine WD.passG (i := 11) rfl rfl rfl rfl rfl rfl rfl rfl (by kernel_rfl) rfl ?_
    refine WD.passG (i := 12) rfl rfl rfl rfl rfl rfl rfl rfl (by kernel_rfl) rfl ?_
    refine WD.passG (i := 13) rfl rfl rfl rfl rfl rfl rfl rfl (by kernel_rfl) rfl ?_
    refine WD.passG (i := 14) rfl rfl rfl rfl rfl rfl rfl rfl (by kernel_rfl) rfl ?_
    refine WD.passG (i := 15) rfl rfl rfl rfl rfl rfl rfl rfl (by kernel_rfl) rfl ?_
    refine WD.val (i := 16) rfl rfl rfl rfl (by kernel_rfl) rfl (Yld.pickT rfl rfl rfl) ?_
    refine WD.val (i := 17) rfl rfl rfl rfl (by kernel_rfl) rfl (Yld.assign rfl rfl) ?_
    refine WD.done (by kernel_rfl) ?_
    refine WP.sub [(0, _), (1, _), (2, _), (3, _), (7, _), (8, _), (9, _), (13, _), (16, _), (20, _)] ?_ ⟨rfl, rfl, rfl, rfl, rfl, rfl, rfl, rfl, rfl, rfl, trivial⟩
    refine WP.next ?_
    refine WP.condT rfl ?_
    refine WP.seq ?_
    refine WP.region [0, 1, 2, 3, 4] rfl ?_
    refine WP.val rfl rfl rfl rfl (Yld.move rfl rfl) ?_
    refine WP.val rfl rfl rfl rfl (Yld.nilCheck rfl rfl) ?_
    refine WP.val rfl rfl rfl rfl (Yld.fieldAddr rfl ty_fd_113_0 rfl) ?_
    refine WP.val rfl rfl rfl rfl (Yld.load rfl ty_sc_27 rfl (by repeat (first | exact There.h | exact There.i (by assumption) | apply There.t | apply There.s)) rfl) ?_
    refine WP.loud rfl rfl ?_
    refine Op.call cell_CAS rfl Try.func39 rfl rfl rfl rfl (by repeat (first | exact Take.nil | with_reducible apply Take.cons | apply Take.app | exact Rm.chunk | exact Rm.here | exact Rm.nil0 | apply Rm.skip | apply Rm.skipS | (focus (apply Take.all; (repeat (first | exact Rm.chunk | exact Rm.here | exact Rm.nil0 | apply Rm.skip | apply Rm.skipS)); done)) | apply Take.cons)) ?_
    rintro v J L1 hJ ⟨rfl, rfl, rfl⟩
    clear hJ; try simp only [List.cons_append, List.nil_append, List.append_assoc]
    refine WP.nil ?_
    refine WP.sub [(0, _), (1, _), (2, _), (3, _), (7, _), (8, _), (9, _), (13, _), (16, _), (20, _)] ?_ ⟨rfl, rfl, rfl, rfl, rfl, rfl, rfl, rfl, rfl, rfl, trivial⟩
    refine WP.next ?_
    refine WP.seq ?_
    refine WP.region [0] rfl ?_
    refine WP.val rfl rfl rfl rfl (Yld.assign rfl rfl) ?_
    refine WP.nil ?_
    refine WP.next ?_
    refine WP.ret ?_
    refine WP.fin .ret (.inr rfl) (res1 rfl rfl) ((q, row 85 [.int .i64 (if vc = 1 then 1 else vc), .pointer (some ⟨c, 0, none⟩)]) :: (c, row 83 [.int .i64 l, .int .i64 s, .int .i64 (if vc = 1 then (IntKind.i64.wrap (sw + 1)) else sw), .int .i64 (if vc = 1 then m else (IntKind.i64.wrap (m + 1))), .int .i64 a]) :: ((t, row 113 [.pointer (some ⟨q, 0, none⟩), .int .u64 (x.tok : Int), .slice (some ⟨bv, 0, none⟩) x.cks.length cv, .int .i64 x.next]) :: ((bv, row 103 (ckps x.cks ++ spv)) :: x.cks.flatMap ckCh))) (by repeat (first | exact Take.nil | with_reducible apply Take.cons | apply Take.app | exact Rm.chunk | exact Rm.here | exact Rm.nil0 | apply Rm.skip | apply Rm.skipS | (focus (apply Take.all; (repeat (first | exact Rm.chunk | exact Rm.here | exact Rm.nil0 | apply Rm.skip | apply Rm.skipS)); done)) | apply Take.cons)) (by repeat (first | exact Leave.done | apply Leave.drop | apply Leave.dropS)) (Imm.le_refl _) ?_
    exact .inr (.inl ⟨hbm.1 hm, hne, rfl, rfl, .mk (.mk ok ow)⟩)
  · have hm : bm = false := by simpa using hm
    rw [hm]
    refine WP.val rfl rfl rfl rfl (Yld.not rfl rfl) ?_
    refine WP.val rfl rfl rfl rfl (Yld.assign rfl rfl) ?_
    refine WP.nil ?_
    refine WP.sub [(0, _), (1, _), (2, _), (3, _), (7, _), (8, _), (9, _), (13, _), (16, _)] ?_ ⟨rfl, rfl, rfl, rfl, rfl, rfl, rfl, rfl, rfl, trivial⟩
    refine WP.next ?_
    refine WP.condT rfl ?_
    refine WP.seq ?_
    refine WP.region [0] rfl ?_
    refine WP.val rfl rfl rfl rfl (Yld.assign rfl rfl) ?_
    refine WP.nil ?_
    refine WP.next ?_
    refine WP.ret ?_
    refine WP.fin .ret (.inr rfl) (res1 rfl rfl) ((q, row 85 [.int .i64 vc, .pointer (some ⟨c, 0, none⟩)]) :: (c, row 83 [.int .i64 l, .int .i64 s, .int .i64 sw, .int .i64 m, .int .i64 a]) :: ((t, row 113 [.pointer (some ⟨q, 0, none⟩), .int .u64 (x.tok : Int), .slice (some ⟨bv, 0, none⟩) x.cks.length cv, .int .i64 x.next]) :: ((bv, row 103 (ckps x.cks ++ spv)) :: x.cks.flatMap ckCh))) (by repeat (first | exact Take.nil | with_reducible apply Take.cons | apply Take.app | exact Rm.chunk | exact Rm.here | exact Rm.nil0 | apply Rm.skip | apply Rm.skipS | (focus (apply Take.all; (repeat (first | exact Rm.chunk | exact Rm.here | exact Rm.nil0 | apply Rm.skip | apply Rm.skipS)); done)) | apply Take.cons)) (by repeat (first | exact Leave.done | apply Leave.drop | apply Leave.dropS)) (Imm.le_refl _) ?_
    exact .inl ⟨fun h => (by have := hbm.2 h; rw [hm] at this; cases this), rfl, rfl, .mk (.mk ok ow)⟩

theorem tabT_Swap1b {I : Imm} {t : Nat} {x : Tb} {L : Chunks} (hT : IsT I t x L) {p : Int} {tk : Nat} {e0 : Nat × Ent} {i j : Nat} (hp : p = (i : Int) * 16 + j + 1) (hj : j < 16) (hi : i < x.cks.length) (hg : x.get p = some e0) {e : Ent} {cs : List Value} (he : REnt I e cs) (hsz : e.sized) (htk : x.tok + 1 < 18446744073709551616) (heq : e0.2.tok = tk) : Spec Try.prog 31 [.pointer (some ⟨t, 0, none⟩), .int .i64 p, .int .u64 (tk : Int), .agg cs.toArray] I L (fun v J L' => (¬ e.mayP ∧ v = .int .i64 1 ∧ I = J ∧ IsT J t x L') ∨ (e.mayP ∧ e0.2.tok ≠ tk ∧ v = .int .i64 5 ∧ I = J ∧ IsT J t x L') ∨ (e.mayP ∧ e0.2.tok = tk ∧ v = .int .i64 0 ∧ ∃ x', x.Swapped x' p e ∧ IsT J t x' L')) := by
  cases hT with | @mk q c vc l s sw m a Lt hd =>
  have he0 := he
  obtain ⟨vn, vw, nv, rfl, hn, hno, hw⟩ := he.ex
  obtain ⟨An, cn, rfl, hcn⟩ := hn.slice'
  obtain ⟨Aw, cw, rfl, hcw⟩ := hw.slice'
  obtain ⟨hes, es, hbe, hre⟩ := hd.entOk hg
  have hre' := hre
  obtain ⟨vn0, vw0, nv0, rfl, _, _, _⟩ := hre'.ex
  cases hd with | mk ok ow =>
  obtain ⟨bv, cv, spv, rfl, rfl, hcv, hnv⟩ := ow.get (by have := ok.n1; omega)
  have hn1 := ok.n1
  have hn2 := ok.n2
  refine Spec.of Try.func31 rfl Try.ntmps31 (Nat.le_of_ble_eq_true rfl) (fun F => ?_)
  try simp only [List.cons_append, List.nil_append, List.append_assoc]
  dsimp only [argsEnv]
  refine WP.seq ?_
  refine WP.region [0, 1] rfl ?_
  refine WP.loud rfl rfl ?_
  refine Op.box rfl rfl rfl rfl rfl (fun b7 => ?_)
  refine WP.val rfl rfl rfl rfl (Yld.assign rfl rfl) ?_
  refine WP.nil ?_
  refine WP.next ?_
  refine WP.seq ?_
  refine WP.region [0, 1, 2, 3] rfl ?_
  refine WP.val rfl rfl rfl rfl (Yld.move rfl rfl) ?_
  refine WP.val rfl rfl rfl rfl (Yld.move rfl rfl) ?_
  refine WP.loud rfl rfl ?_
  refine Op.call (tab_find (IsTab.mk ok ow)) rfl Try.func45 rfl rfl rfl rfl (by repeat (first | exact Take.nil | with_reducible apply Take.cons | apply Take.app | exact Rm.chunk | exact Rm.here | exact Rm.nil0 | apply Rm.skip | apply Rm.skipS | (focus (apply Take.all; (repeat (first | exact Rm.chunk | exact Rm.here | exact Rm.nil0 | apply Rm.skip | apply Rm.skipS)); done)) | apply Take.cons)) ?_
  rintro v J L1 hJ ⟨rfl, rfl, rfl⟩
  clear hJ; try simp only [List.cons_append, List.nil_append, List.append_assoc]
  rw [hg]
  refine WP.val rfl rfl rfl rfl (Yld.assign rfl rfl) ?_
  refine WP.nil ?_
  refine WP.sub [(0, _), (1, _), (2, _), (3, _), (7, _), (8, _), (9, _)] ?_ ⟨rfl, rfl, rfl, rfl, rfl, rfl, rfl, trivial⟩
  refine WP.next ?_
  refine WP.seq ?_
  refine WP.block ?_
  refine WP.seq ?_
  refine WP.region [0, 1, 2] rfl ?_
  refine WP.val rfl rfl rfl rfl (Yld.move rfl rfl) ?_
  refine WP.val rfl rfl rfl rfl (Yld.eqlNil rfl ty_pt_104 rfl rfl) ?_
  refine WP.val rfl rfl rfl rfl (Yld.assign rfl rfl) ?_
  refine WP.nil ?_
  refine WP.sub [(0, _), (1, _), (2, _), (3, _), (7, _), (8, _), (9, _), (13, _)] ?_ ⟨rfl, rfl, rfl, rfl, rfl, rfl, rfl, rfl, trivial⟩
  refine WP.next ?_
  refine WP.condF rfl ?_
  refine WP.seq ?_
  refine WP.region [0, 1, 2, 3] rfl ?_
  refine WP.val rfl rfl rfl rfl (Yld.loadAll rfl ty_ag_63 rfl (by repeat (first | exact There.h | exact There.i (by assumption) | apply There.t | apply There.s)) rfl) ?_
  refine WP.loud rfl rfl ?_
  refine Op.call (tab_may he0 hsz) rfl Try.func48 rfl rfl rfl rfl (by repeat (first | exact Take.nil | with_reducible apply Take.cons | apply Take.app | exact Rm.chunk | exact Rm.here | exact Rm.nil0 | apply Rm.skip | apply Rm.skipS | (focus (apply Take.all; (repeat (first | exact Rm.chunk | exact Rm.here | exact Rm.nil0 | apply Rm.skip | apply Rm.skipS)); done)) | apply Take.cons)) ?_
  rintro v J L1 hJ ⟨bm, rfl, hbm, rfl, rfl⟩
  clear hJ; try simp only [List.cons_append, List.nil_append, List.append_assoc]
  by_cases hm : bm = true
  · rw [hm]
    refine WP.val rfl rfl rfl rfl (Yld.not rfl rfl) ?_
    refine WP.val rfl rfl rfl rfl (Yld.assign rfl rfl) ?_
    refine WP.nil ?_
    refine WP.sub [(0, _), (1, _), (2, _), (3, _), (7, _), (8, _), (9, _), (13, _), (16, _)] ?_ ⟨rfl, rfl, rfl, rfl, rfl, rfl, rfl, rfl, rfl, trivial⟩
    refine WP.next ?_
    refine WP.condF rfl ?_
    refine WP.seq ?_
    refine WD.start Trymixed 13 (There I _) (fun _ _ => False) (fun _ _ h => h) (fun _ _ h => h.elim) 18 [false, false, false, false, false, false, false, false, false, false, false, false, false, false, false, false, false, false] rfl rfl ?_
    refine WD.val (i := 0) rfl rfl rfl rfl (by kernel_rfl) rfl (Yld.move rfl rfl) ?_
    refine WD.val (i := 1) rfl rfl rfl rfl (by kernel_rfl) rfl (Yld.nilCheck rfl rfl) ?_
    refine WD.val (i := 2) rfl rfl rfl rfl (by kernel_rfl) rfl (Yld.fieldAddr rfl ty_fd_63_0 rfl) ?_
    refine WD.val1 (i := 3) rfl rfl rfl rfl (by kernel_rfl) rfl (by kernel_rfl) (Yld.load rfl ty_sc_60 rfl (.inl (by repeat (first | exact There.h | exact There.i (by assumption) | apply There.t | apply There.s))) rfl) ?_
    refine WD.val (i := 4) rfl rfl rfl rfl (by kernel_rfl) rfl (Yld.move rfl rfl) ?_
    refine WD.val (i := 5) rfl rfl rfl rfl (by kernel_rfl) rfl (Yld.neq rfl rfl rfl false (decide_eq_false (by omega))) ?_
    refine WD.val (i := 6) rfl rfl rfl rfl (by kernel_rfl) rfl (Yld.move rfl rfl) ?_
    refine WD.valG (i := 7) rfl rfl rfl rfl rfl rfl rfl (by kernel_rfl) rfl (Yld.move rfl rfl) ?_
    refine WD.valG (i := 8) rfl rfl rfl rfl rfl rfl rfl (by kernel_rfl) rfl (Yld.move rfl rfl) ?_
    refine WD.valG (i := 10) rfl rfl rfl rfl rfl rfl rfl (by kernel_rfl) rfl (Yld.move rfl rfl) ?_
    refine WD.valG (i := 11) rfl rfl rfl rfl rfl rfl rfl (by kernel_rfl) rfl (Yld.move rfl rfl) ?_
    refine WD.val1G (i := 12) rfl rfl rfl rfl rfl rfl rfl (by kernel_rfl) rfl (by kernel_rfl) (Yld.loadAll rfl ty_ag_63 rfl (.inl (by repeat (first | exact There.h | exact There.i (by assumption) | apply There.t | apply There.s))) rfl) ?_
    refine WD.loudG (i := 9) (by kernel_rfl) rfl rfl rfl rfl rfl rfl ?_
    refine Op.call (tab_at1 (IsTab.mk ok ow) hp hj hi) rfl Try.func49 rfl rfl rfl rfl (by repeat (first | exact Take.nil | with_reducible apply Take.cons | apply Take.app | exact Rm.chunk | exact Rm.here | exact Rm.nil0 | apply Rm.skip | apply Rm.skipS | (focus (apply Take.all; (repeat (first | exact Rm.chunk | exact Rm.here | exact Rm.nil0 | apply Rm.skip | apply Rm.skipS)); done)) | apply Take.cons)) ?_
    rintro v J L1 hJ ⟨rfl, rfl, rfl⟩
    clear hJ; try simp only [List.cons_append, List.nil_append, List.append_assoc]
    refine WD.go (.inr (fun _ _ h => h)) (fun _ _ h => h.elim) ?_
    refine WD.loudG (i := 13) (by kernel_rfl) rfl rfl rfl rfl rfl rfl ?_
    refine Op.call (tab_fresh (IsTab.mk ok ow) he0 hsz htk) rfl Try.func51 rfl rfl rfl rfl (by repeat (first | exact Take.nil | with_reducible apply Take.cons | apply Take.app | exact Rm.chunk | exact Rm.here | exact Rm.nil0 | apply Rm.skip | apply Rm.skipS | (focus (apply Take.all; (repeat (first | exact Rm.chunk | exact Rm.here | exact Rm.nil0 | apply Rm.skip | apply Rm.skipS)); done)) | apply Take.cons)) ?_
    rintro v J2 L9 hJ2 ⟨b9, rfl, hb9, hy4⟩
    try simp only [List.cons_append, List.nil_append, List.append_assoc]
    generalize hz : ({ x with tok := x.tok + 1 } : Tb) = z at hy4
    have hzc : z.cks = x.cks := by rw [← hz]
    have hzt : z.tok = x.tok + 1 := by rw [← hz]
    have hzn : z.next = x.next := by rw [← hz]
    have hiz : i < z.cks.length := by rw [hzc]; exact hi
    have hzi : z.cks[i].1 = x.cks[i].1 := by simp only [hzc]
    have hzg : ∀ k, z.get k = x.get k := fun k => by simp only [Tb.get, hzc]
    have hzs : z.size = x.size := by simp only [Tb.size, hzc]
    have hcell : z.cks[i].2 j = some e0 := by rw [← Tb.get_at hp hj hiz, hzg, hg]
    obtain ⟨_, es9, hbe9, hre9⟩ := id hb9
    rw [← hzi]
    cases hy4 with | mk ok4 ow4 => _
    obtain ⟨bv4, cv4, spv4, rfl, rfl, hcv4, hnv4⟩ := ow4.get (by have := ok4.n1; omega)
    simp only [List.cons_append, List.nil_append, List.append_assoc]
    refine WP.outL (f := ckCh) (l := z.cks) i hiz (by repeat (first | exact Rm.chunk | exact Rm.here | exact Rm.nil0 | apply Rm.skip | apply Rm.skipS)) ?_
    simp only [ckCh, List.cons_append, List.nil_append]
    refine WD.go (.inl rfl) (fun _ _ h => h.elim) ?_
    refine WD.loudG (i := 14) (by kernel_rfl) rfl rfl rfl rfl rfl rfl ?_
    refine Op.call (slot_CAS (b1 := e0.1) (ckV_at' hj hcell) (hJ2.2 _ _ hbe) rfl hbe9 hre9.cells.1 (ckV_set' hj (some (b9, { e with tok := x.tok + 1 })))) rfl Try.func50 rfl rfl rfl rfl (by repeat (first | exact Take.nil | with_reducible apply Take.cons | apply Take.app | exact Rm.chunk | exact Rm.here | exact Rm.nil0 | apply Rm.skip | apply Rm.skipS | (focus (apply Take.all; (repeat (first | exact Rm.chunk | exact Rm.here | exact Rm.nil0 | apply Rm.skip | apply Rm.skipS)); done)) | apply Take.cons)) ?_
    rintro v J L1 hJ ⟨rfl, rfl, rfl⟩
    clear hJ; try simp only [List.cons_append, List.nil_append, List.append_assoc]
    refine WP.backL (f := ckCh) (l := z.cks) i hiz (z.cks[i].1, putSl z.cks[i].2 j (some (b9, { e with tok := x.tok + 1 }))) (by repeat (first | exact Take.nil | with_reducible apply Take.cons | apply Take.app | exact Rm.chunk | exact Rm.here | exact Rm.nil0 | apply Rm.skip | apply Rm.skipS | (focus (apply Take.all; (repeat (first | exact Rm.chunk | exact Rm.here | exact Rm.nil0 | apply Rm.skip | apply Rm.skipS)); done)) | apply Take.cons)) (by repeat (first | exact Rm.chunk | exact Rm.here | exact Rm.nil0 | apply Rm.skip | apply Rm.skipS)) ?_
    refine WD.go (.inl rfl) (fun _ _ h => h.elim) ?_
    refine WD.valG (i := 15) rfl rfl rfl rfl rfl rfl rfl (by kernel_rfl) rfl (Yld.not rfl rfl) ?_
    refine WD.val (i := 16) rfl rfl rfl rfl (by kernel_rfl) rfl (Yld.pickF rfl rfl rfl) ?_
    refine WD.val (i := 17) rfl rfl rfl rfl (by kernel_rfl) rfl (Yld.assign rfl rfl) ?_
    refine WD.done (by kernel_rfl) ?_
    refine WP.sub [(0, _), (1, _), (2, _), (3, _), (7, _), (8, _), (9, _), (13, _), (16, _), (20, _)] ?_ ⟨rfl, rfl, rfl, rfl, rfl, rfl, rfl, rfl, rfl, rfl, trivial⟩
    refine WP.next ?_
    refine WP.condF rfl ?_
    refine WP.skip ?_
    refine WP.leave ?_
    refine WP.next ?_
    refine WP.seq ?_
    refine WP.region [0, 1, 2, 3, 4] rfl ?_
    refine WP.val rfl rfl rfl rfl (Yld.move rfl rfl) ?_
    refine WP.val rfl rfl rfl rfl (Yld.nilCheck rfl rfl) ?_
    refine WP.val rfl rfl rfl rfl (Yld.fieldAddr rfl ty_fd_113_0 rfl) ?_
    refine WP.val rfl rfl rfl rfl (Yld.load rfl ty_sc_27 rfl (by repeat (first | exact There.h | exact There.i (by assumption) | apply There.t | apply There.s)) rfl) ?_
    refine WP.loud rfl rfl ?_
    refine Op.call cell_CAS rfl Try.func39 rfl rfl rfl rfl (by repeat (first | exact Take.nil | with_reducible apply Take.cons | apply Take.app | exact Rm.chunk | exact Rm.here | exact Rm.nil0 | apply Rm.skip | apply Rm.skipS | (focus (apply Take.all; (repeat (first | exact Rm.chunk | exact Rm.here | exact Rm.nil0 | apply Rm.skip | apply Rm.skipS)); done)) | apply Take.cons)) ?_
    rintro v J L1 hJ ⟨rfl, rfl, rfl⟩
    clear hJ; try simp only [List.cons_append, List.nil_append, List.append_assoc]
    refine WP.nil ?_
    refine WP.sub [(0, _), (1, _), (2, _), (3, _), (7, _), (8, _), (9, _), (13, _), (16, _), (20, _)] ?_ ⟨rfl, rfl, rfl, rfl, rfl, rfl, rfl, rfl, rfl, rfl, trivial⟩
    refine WP.next ?_
    refine WP.seq ?_
    refine WP.region [0] rfl ?_
    refine WP.val rfl rfl rfl rfl (Yld.assign rfl rfl) ?_
    refine WP.nil ?_
    refine WP.next ?_
    refine WP.ret ?_
    refine WP.fin .ret (.inr rfl) (res1 rfl rfl) ((q, row 85 [.int .i64 (if vc = 0 then 0 else vc), .pointer (some ⟨c, 0, none⟩)]) :: (c, row 83 [.int .i64 l, .int .i64 s, .int .i64 (if vc = 0 then (IntKind.i64.wrap (sw + 1)) else sw), .int .i64 (if vc = 0 then m else (IntKind.i64.wrap (m + 1))), .int .i64 a]) :: ((t, row 113 [.pointer (some ⟨q, 0, none⟩), .int .u64 (z.tok : Int), .slice (some ⟨bv4, 0, none⟩) z.cks.length cv4, .int .i64 z.next]) :: ((bv4, row 103 (ckps z.cks ++ spv4)) :: (z.cks.set i (z.cks[i].1, putSl z.cks[i].2 j (some (b9, { e with tok := x.tok + 1 })))).flatMap ckCh))) (by repeat (first | exact Take.nil | with_reducible apply Take.cons | apply Take.app | exact Rm.chunk | exact Rm.here | exact Rm.nil0 | apply Rm.skip | apply Rm.skipS | (focus (apply Take.all; (repeat (first | exact Rm.chunk | exact Rm.here | exact Rm.nil0 | apply Rm.skip | apply Rm.skipS)); done)) | apply Take.cons)) (by repeat (first | exact Leave.done | apply Leave.drop | apply Leave.dropS)) hJ2 ?_
    refine .inr (.inr ⟨hbm.1 hm, heq, rfl, z.setAt i j hiz (some (b9, { e with tok := x.tok + 1 })), ⟨hzt, hzn, ?_, b9, fun k => ?_⟩, .mk (IsTab.setAt ok4 ow4 hiz (o := some (b9, { e with tok := x.tok + 1 })) (fun e' he' => by cases he'; exact hb9))⟩)
    · simp only [Tb.size, Tb.setAt, List.length_set] at *; omega
    · rw [Tb.setAt_get hiz hp hj, hzg]
  · have hm : bm = false := by simpa using hm
    rw [hm]
    refine WP.val rfl rfl rfl rfl (Yld.not rfl rfl) ?_
    refine WP.val rfl rfl rfl rfl (Yld.assign rfl rfl) ?_
    refine WP.nil ?_
    refine WP.sub [(0, _), (1, _), (2, _), (3, _), (7, _), (8, _), (9, _), (13, _), (16, _)] ?_ ⟨rfl, rfl, rfl, rfl, rfl, rfl, rfl, rfl, rfl, trivial⟩
    refine WP.next ?_
    refine WP.condT rfl ?_
    refine WP.seq ?_
    refine WP.region [0] rfl ?_
    refine WP.val rfl rfl rfl rfl (Yld.assign rfl rfl) ?_
    refine WP.nil ?_
    refine WP.next ?_
    refine WP.ret ?_
    refine WP.fin .ret (.inr rfl) (res1 rfl rfl) ((q, row 85 [.int .i64 vc, .pointer (some ⟨c, 0, none⟩)]) :: (c, row 83 [.int .i64 l, .int .i64 s, .int .i64 sw, .int .i64 m, .int .i64 a]) :: ((t, row 113 [.pointer (some ⟨q, 0, none⟩), .int .u64 (x.tok : Int), .slice (some ⟨bv, 0, none⟩) x.cks.length cv, .int .i64 x.next]) :: ((bv, row 103 (ckps x.cks ++ spv)) :: x.cks.flatMap ckCh))) (by repeat (first | exact Take.nil | with_reducible apply Take.cons | apply Take.app | exact Rm.chunk | exact Rm.here | exact Rm.nil0 | apply Rm.skip | apply Rm.skipS | (focus (apply Take.all; (repeat (first | exact Rm.chunk | exact Rm.here | exact Rm.nil0 | apply Rm.skip | apply Rm.skipS)); done)) | apply Take.cons)) (by repeat (first | exact Leave.done | apply Leave.drop | apply Leave.dropS)) (Imm.le_refl _) ?_
    exact .inl ⟨fun h => (by have := hbm.2 h; rw [hm] at this; cases this), rfl, rfl, .mk (.mk ok ow)⟩


theorem tabT_Swap {I : Imm} {t : Nat} {x : Tb} {L : Chunks} (hT : IsT I t x L) {p : Int} {tk : Nat}  {e : Ent} {cs : List Value} (he : REnt I e cs) (hsz : e.sized) (htk : x.tok + 1 < 18446744073709551616) : Spec Try.prog 31 [.pointer (some ⟨t, 0, none⟩), .int .i64 p, .int .u64 (tk : Int), .agg cs.toArray] I L (fun v J L' => (x.get p = none ∧ v = .int .i64 90 ∧ I = J ∧ IsT J t x L') ∨ ∃ e0, x.get p = some e0 ∧ ((¬ e.mayP ∧ v = .int .i64 1 ∧ I = J ∧ IsT J t x L') ∨ (e.mayP ∧ e0.2.tok ≠ tk ∧ v = .int .i64 5 ∧ I = J ∧ IsT J t x L') ∨ (e.mayP ∧ e0.2.tok = tk ∧ v = .int .i64 0 ∧ ∃ x', x.Swapped x' p e ∧ IsT J t x' L'))) := by
  cases hg : x.get p with
  | none => exact (tabT_Swap0 hT he hg).mono (by rintro v J L' _ ⟨rfl, rfl, rfl⟩; exact .inl ⟨rfl, rfl, rfl, hT⟩)
  | some e0 =>
    obtain ⟨i, j, h1, h2, h3⟩ := Tb.split (Tb.in_of_get hg)
    by_cases ht : e0.2.tok = tk
    · exact (tabT_Swap1b hT h1 h2 h3 hg he hsz htk ht).mono (fun v J L' _ h => .inr ⟨e0, rfl, h⟩)
    · exact (tabT_Swap1a hT h1 h2 h3 hg he hsz htk ht).mono (fun v J L' _ h => .inr ⟨e0, rfl, h⟩)
def Tb.pagesTo (x : Tb) (n : Nat) : List Int := ((List.range n).filter fun (k : Nat) => (x.get ((k : Int) + 1)).isSome).map fun (k : Nat) => (k : Int) + 1
/-- The pages in use. -/
def Tb.pages (x : Tb) : List Int := x.pagesTo (x.next - 1).toNat
theorem Tb.pagesTo_succ (x : Tb) (n : Nat) : x.pagesTo (n + 1) = x.pagesTo n ++ (if (x.get ((n : Int) + 1)).isSome then [(n : Int) + 1] else []) := by
  unfold Tb.pagesTo
  rw [List.range_succ, List.filter_append, List.map_append]
  by_cases h : (x.get ((n : Int) + 1)).isSome = true
  · simp [h]
  · simp [h]
theorem Tb.pagesTo_len (x : Tb) (n : Nat) : (x.pagesTo n).length ≤ n := by
  unfold Tb.pagesTo; rw [List.length_map]; exact Nat.le_trans (List.length_filter_le _ _) (by simp)
structure PGX where
  i : Nat
  v : Value
  L : Chunks
theorem tabT_Pages {I : Imm} {t : Nat} {x : Tb} {L : Chunks} (hT : IsT I t x L) : Spec Try.prog 34 [.pointer (some ⟨t, 0, none⟩)] I L (fun v J L' => ∃ Lo, I = J ∧ L' = Lo ++ L ∧ Own 3 1 v (x.pages.map (Value.int .i64)) x.pages.length Lo) := by
  cases hT with | @mk q c vc l s sw m a Lt hd =>
  cases hd with | mk ok ow =>
  obtain ⟨bv, cv, spv, rfl, rfl, hcv, hnv⟩ := ow.get (by have := ok.n1; omega)
  have hn1 := ok.n1
  have hn2 := ok.n2
  refine Spec.of Try.func34 rfl Try.ntmps34 (Nat.le_of_ble_eq_true rfl) (fun F => ?_)
  try simp only [List.cons_append, List.nil_append, List.append_assoc]
  dsimp only [argsEnv]
  refine WP.seq ?_
  refine WP.region [0] rfl ?_
  refine WP.val rfl rfl rfl rfl (Yld.assign rfl rfl) ?_
  refine WP.nil ?_
  refine WP.next ?_
  refine WP.seq ?_
  refine WP.region [0] rfl ?_
  refine WP.val rfl rfl rfl rfl (Yld.assign rfl rfl) ?_
  refine WP.nil ?_
  refine WP.next ?_
  refine WP.seq ?_
  refine WP.seq ?_
  refine WP.region [0] rfl ?_
  refine WP.val rfl rfl rfl rfl (Yld.assign rfl rfl) ?_
  refine WP.nil ?_
  refine WP.next ?_
  refine WP.block ?_
  refine WP.loop (X := PGX) (fun u : PGX => [(0, .pointer (some ⟨t, 0, none⟩)), (3, u.v), (4, .int .i64 ((u.i : Int) + 1))]) (fun _ => I) (fun u : PGX => u.L ++ ((q, row 85 [.int .i64 vc, .pointer (some ⟨c, 0, none⟩)]) :: (c, row 83 [.int .i64 l, .int .i64 s, .int .i64 sw, .int .i64 m, .int .i64 a]) :: (((t, row 113 [.pointer (some ⟨q, 0, none⟩), .int .u64 (x.tok : Int), .slice (some ⟨bv, 0, none⟩) x.cks.length cv, .int .i64 x.next]) :: ((bv, row 103 (ckps x.cks ++ spv)) :: x.cks.flatMap ckCh)) ++ F))) (fun u : PGX => u.i ≤ (x.next - 1).toNat ∧ Own 3 1 u.v ((x.pagesTo u.i).map (Value.int .i64)) (x.pagesTo u.i).length u.L) (fun u : PGX => (x.next - 1).toNat - u.i) ⟨0, .slice none 0 0, []⟩ ⟨Nat.zero_le _, .none0⟩ ⟨rfl, rfl, rfl, trivial⟩ rfl (by (try simp only [List.append_eq, List.cons_append, List.nil_append, List.append_assoc]); repeat (first | exact Rm.chunk | exact Rm.here | exact Rm.nil0 | apply Rm.skip | apply Rm.skipS | apply PX.cons | (apply PX.done; (repeat (first | exact Leave.done | apply Leave.drop | apply Leave.dropS)); done) | apply PX.app)) ?_
  rintro ⟨i, vo, Lo⟩ ⟨hle, how⟩; dsimp only at hle how
  try dsimp only
  try simp only [List.cons_append, List.nil_append, List.append_assoc]
  refine WP.seq ?_
  refine WP.seq ?_
  refine WP.region [0, 1, 2, 3, 4, 5] rfl ?_
  refine WP.val rfl rfl rfl rfl (Yld.move rfl rfl) ?_
  refine WP.val rfl rfl rfl rfl (Yld.move rfl rfl) ?_
  refine WP.val rfl rfl rfl rfl (Yld.nilCheck rfl rfl) ?_
  refine WP.val rfl rfl rfl rfl (Yld.fieldAddr rfl ty_fd_113_3 rfl) ?_
  refine WP.val rfl rfl rfl rfl (Yld.load rfl ty_sc_3 rfl (by repeat (first | exact There.h | exact There.i (by assumption) | apply There.t | apply There.s)) rfl) ?_
  refine WP.split rfl rfl rfl rfl (Yld.lss rfl rfl rfl) (fun hlt => ?_) (fun hlt => ?_)
  · have hnx := ok.nx
    refine WP.nil ?_
    refine WP.sub [(0, _), (3, _), (4, _), (10, _)] ?_ ⟨rfl, rfl, rfl, rfl, trivial⟩
    refine WP.next ?_
    refine WP.condT rfl ?_
    refine WP.skip ?_
    refine WP.next ?_
    refine WP.seq ?_
    refine WP.block ?_
    refine WP.seq ?_
    refine WP.region [0, 1, 2, 3] rfl ?_
    refine WP.val rfl rfl rfl rfl (Yld.move rfl rfl) ?_
    refine WP.val rfl rfl rfl rfl (Yld.move rfl rfl) ?_
    refine WP.loud rfl rfl ?_
    refine Op.call (tab_find (IsTab.mk ok ow)) rfl Try.func45 rfl rfl rfl rfl (by repeat (first | exact Take.nil | with_reducible apply Take.cons | apply Take.app | exact Rm.chunk | exact Rm.here | exact Rm.nil0 | apply Rm.skip | apply Rm.skipS | (focus (apply Take.all; (repeat (first | exact Rm.chunk | exact Rm.here | exact Rm.nil0 | apply Rm.skip | apply Rm.skipS)); done)) | apply Take.cons)) ?_
    rintro v J L1 hJ ⟨rfl, rfl, rfl⟩
    clear hJ; try simp only [List.cons_append, List.nil_append, List.append_assoc]
    refine WP.val rfl rfl rfl rfl (Yld.neqNil rfl ty_pt_104 rfl rfl) ?_
    by_cases hg : (!(slotP (x.get ((i : Int) + 1))).isNone) = true
    · rw [hg]
      refine WP.nil ?_
      refine WP.sub [(0, _), (3, _), (4, _), (10, _), (16, _)] ?_ ⟨rfl, rfl, rfl, rfl, rfl, trivial⟩
      refine WP.next ?_
      refine WP.condT rfl ?_
      have hsome : (x.get ((i : Int) + 1)).isSome = true := by rw [slotP_none] at hg; cases hh : x.get ((i : Int) + 1) <;> simp_all
      have hlen := Tb.pagesTo_len x i
      refine WP.region [0, 1, 2, 3, 4] rfl ?_
      refine WP.val rfl rfl rfl rfl (Yld.move rfl rfl) ?_
      refine WP.val rfl rfl rfl rfl (Yld.move rfl rfl) ?_
      refine WP.loud rfl rfl ?_
      refine Op.buildSlice rfl ty_sl_23 ty_el2_23 rfl rfl rfl rfl (vs := [_]) rfl (segs := [(0, [_])]) (cs := [_]) rfl rfl (by repeat (first | exact SetSeg.nil | apply SetSeg.one | exact SetAt.zero | apply SetAt.succ)) (fun bl => ?_)
      refine WP.loud rfl rfl ?_
      refine Op.append rfl ty_sl_23 ty_el_23 rfl rfl rfl rfl rfl how (SlRd.lit (by repeat (first | exact There.h | exact There.i (by assumption) | apply There.t | apply There.s)) rfl (Nat.le_refl _)) (by repeat (first | exact Take.nil | with_reducible apply Take.cons | apply Take.app | exact Rm.chunk | exact Rm.here | exact Rm.nil0 | apply Rm.skip | apply Rm.skipS | (focus (apply Take.all; (repeat (first | exact Rm.chunk | exact Rm.here | exact Rm.nil0 | apply Rm.skip | apply Rm.skipS)); done)) | apply Take.cons)) rfl (by omega) (by omega) (fun vq Lq hq => ?_)
      refine WP.val rfl rfl rfl rfl (Yld.assign rfl rfl) ?_
      refine WP.nil ?_
      refine WP.sub [(0, _), (3, _), (4, _), (10, _), (16, _)] ?_ ⟨rfl, rfl, rfl, rfl, rfl, trivial⟩
      refine WP.leave ?_
      refine WP.next ?_
      have hcast : ((i : Int) + 1) + 1 = ((i + 1 : Nat) : Int) + 1 := by omega
      refine WP.region [0, 1, 2] rfl ?_
      refine WP.val rfl rfl rfl rfl (Yld.move rfl rfl) ?_
      refine WP.val rfl rfl rfl rfl (Yld.add64 rfl rfl rfl (by omega)) ?_
      refine WP.val rfl rfl rfl rfl (Yld.assign rfl rfl) ?_
      refine WP.nil ?_
      refine WP.sub [(0, _), (3, _), (4, _), (10, _), (16, _)] ?_ ⟨rfl, rfl, rfl, rfl, rfl, trivial⟩
      rw [hcast]
      exact WP.again ⟨i + 1, vq, Lq⟩ ⟨(show i + 1 ≤ (x.next - 1).toNat by omega), by dsimp only; rw [Tb.pagesTo_succ, if_pos hsome]; simpa using hq⟩ (show (x.next - 1).toNat - (i + 1) < (x.next - 1).toNat - i by omega) ⟨rfl, rfl, rfl, trivial⟩ rfl (by (try simp only [List.append_eq, List.cons_append, List.nil_append, List.append_assoc]); repeat (first | exact Rm.chunk | exact Rm.here | exact Rm.nil0 | apply Rm.skip | apply Rm.skipS | apply PX.cons | (apply PX.done; (repeat (first | exact Leave.done | apply Leave.drop | apply Leave.dropS)); done) | apply PX.app))
    · have hg : (!(slotP (x.get ((i : Int) + 1))).isNone) = false := by simpa using hg
      rw [hg]
      refine WP.nil ?_
      refine WP.sub [(0, _), (3, _), (4, _), (10, _), (16, _)] ?_ ⟨rfl, rfl, rfl, rfl, rfl, trivial⟩
      refine WP.next ?_
      refine WP.condF rfl ?_
      refine WP.skip ?_
      refine WP.leave ?_
      refine WP.next ?_
      have hcast : ((i : Int) + 1) + 1 = ((i + 1 : Nat) : Int) + 1 := by omega
      refine WP.region [0, 1, 2] rfl ?_
      refine WP.val rfl rfl rfl rfl (Yld.move rfl rfl) ?_
      refine WP.val rfl rfl rfl rfl (Yld.add64 rfl rfl rfl (by omega)) ?_
      refine WP.val rfl rfl rfl rfl (Yld.assign rfl rfl) ?_
      refine WP.nil ?_
      refine WP.sub [(0, _), (3, _), (4, _), (10, _), (16, _)] ?_ ⟨rfl, rfl, rfl, rfl, rfl, trivial⟩
      rw [hcast]
      have hsome : ¬ (x.get ((i : Int) + 1)).isSome = true := by rw [slotP_none] at hg; cases hh : x.get ((i : Int) + 1) <;> simp_all
      exact WP.again ⟨i + 1, vo, Lo⟩ ⟨(show i + 1 ≤ (x.next - 1).toNat by omega), by dsimp only; rw [Tb.pagesTo_succ, if_neg hsome]; simpa using how⟩ (show (x.next - 1).toNat - (i + 1) < (x.next - 1).toNat - i by omega) ⟨rfl, rfl, rfl, trivial⟩ rfl (by (try simp only [List.append_eq, List.cons_append, List.nil_append, List.append_assoc]); repeat (first | exact Rm.chunk | exact Rm.here | exact Rm.nil0 | apply Rm.skip | apply Rm.skipS | apply PX.cons | (apply PX.done; (repeat (first | exact Leave.done | apply Leave.drop | apply Leave.dropS)); done) | apply PX.app))
  · have hnx := ok.nx
    obtain rfl : i = (x.next - 1).toNat := by omega
    refine WP.nil ?_
    refine WP.sub [(0, _), (3, _), (4, _), (10, _)] ?_ ⟨rfl, rfl, rfl, rfl, trivial⟩
    refine WP.next ?_
    refine WP.condF rfl ?_
    refine WP.exit ?_
    refine WP.thenE ?_
    refine WP.thenE ?_
    refine WP.hit ?_
    refine WP.next ?_
    refine WP.seq ?_
    refine WP.region [0, 1] rfl ?_
    refine WP.val rfl rfl rfl rfl (Yld.move rfl rfl) ?_
    refine WP.val rfl rfl rfl rfl (Yld.assign rfl rfl) ?_
    refine WP.nil ?_
    refine WP.sub [(0, _), (2, _), (3, _), (4, _), (10, _)] ?_ ⟨rfl, rfl, rfl, rfl, rfl, trivial⟩
    refine WP.next ?_
    refine WP.ret ?_
    refine WP.fin .ret (.inr rfl) (res1 rfl rfl) (Lo ++ ((q, row 85 [.int .i64 vc, .pointer (some ⟨c, 0, none⟩)]) :: (c, row 83 [.int .i64 l, .int .i64 s, .int .i64 sw, .int .i64 m, .int .i64 a]) :: ((t, row 113 [.pointer (some ⟨q, 0, none⟩), .int .u64 (x.tok : Int), .slice (some ⟨bv, 0, none⟩) x.cks.length cv, .int .i64 x.next]) :: ((bv, row 103 (ckps x.cks ++ spv)) :: x.cks.flatMap ckCh)))) (by repeat (first | exact Take.nil | with_reducible apply Take.cons | apply Take.app | exact Rm.chunk | exact Rm.here | exact Rm.nil0 | apply Rm.skip | apply Rm.skipS | (focus (apply Take.all; (repeat (first | exact Rm.chunk | exact Rm.here | exact Rm.nil0 | apply Rm.skip | apply Rm.skipS)); done)) | apply Take.cons)) (by repeat (first | exact Leave.done | apply Leave.drop | apply Leave.dropS)) (Imm.le_refl _) ?_
    exact ⟨Lo, rfl, rfl, how⟩


end Go.Hp
