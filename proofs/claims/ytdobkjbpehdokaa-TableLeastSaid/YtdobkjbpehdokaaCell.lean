import Derived.Test.YtdobkjbpehdokaaExt
set_option linter.unusedVariables false
set_option linter.unusedSimpArgs false
namespace Go.Hp
open Go Go.Proofs
theorem cell_NewCount (I : Imm) : Spec Try.prog 12 [] I [] (fun v J L => ∃ c, v = .pointer (some ⟨c, 0, none⟩) ∧ I = J ∧ L = [(c, row 83 [.int .i64 0, .int .i64 0, .int .i64 0, .int .i64 0, .int .i64 0])]) := by
  refine Spec.of Try.func12 rfl Try.ntmps12 (Nat.le_of_ble_eq_true rfl) (fun F => ?_)
  try simp only [List.cons_append, List.nil_append, List.append_assoc]
  dsimp only [argsEnv]
  refine WP.seq ?_
  refine WP.region [0] rfl ?_
  refine WP.val rfl rfl rfl rfl (Yld.assign rfl rfl) ?_
  refine WP.nil ?_
  refine WP.next ?_
  refine WP.seq ?_
  refine WP.region [0, 1, 2] rfl ?_
  refine WP.val rfl rfl rfl rfl (Yld.buildS (pl := []) rfl ty_zr_83 ty_zd_83 (by kernel_rfl) rfl (vs := []) rfl (segs := []) rfl rfl (by repeat (first | exact SetSeg.nil | apply SetSeg.one | exact SetAt.zero | apply SetAt.succ))) ?_
  refine WP.loud rfl rfl ?_
  refine Op.box rfl rfl rfl rfl rfl (fun b2 => ?_)
  refine WP.val rfl rfl rfl rfl (Yld.assign rfl rfl) ?_
  refine WP.nil ?_
  refine WP.sub [(0, _)] ?_ ⟨rfl, trivial⟩
  refine WP.next ?_
  refine WP.ret ?_
  refine WP.fin .ret (.inr rfl) (res1 rfl rfl) [_] (by repeat (first | exact Take.nil | with_reducible apply Take.cons | apply Take.app | exact Rm.chunk | exact Rm.here | exact Rm.nil0 | apply Rm.skip | apply Rm.skipS | (focus (apply Take.all; (repeat (first | exact Rm.chunk | exact Rm.here | exact Rm.nil0 | apply Rm.skip | apply Rm.skipS)); done)) | apply Take.cons)) (by repeat (first | exact Leave.done | apply Leave.drop | apply Leave.dropS)) (Imm.le_refl _) ?_
  exact ⟨_, rfl, rfl, rfl⟩

theorem cell_NewInt {I : Imm} {c : Nat} {v : Int} {o : Obj} : Spec Try.prog 13 [.pointer (some ⟨c, 0, none⟩), .int .i64 v] I [] (fun v' J L => ∃ x, v' = .pointer (some ⟨x, 0, none⟩) ∧ I = J ∧ L = [(x, row 85 [.int .i64 v, .pointer (some ⟨c, 0, none⟩)])]) := by
  refine Spec.of Try.func13 rfl Try.ntmps13 (Nat.le_of_ble_eq_true rfl) (fun F => ?_)
  try simp only [List.cons_append, List.nil_append, List.append_assoc]
  dsimp only [argsEnv]
  refine WP.seq ?_
  refine WP.region [0] rfl ?_
  refine WP.val rfl rfl rfl rfl (Yld.assign rfl rfl) ?_
  refine WP.nil ?_
  refine WP.next ?_
  refine WP.seq ?_
  refine WP.seq ?_
  refine WP.region [0, 1] rfl ?_
  refine WP.val rfl rfl rfl rfl (Yld.move rfl rfl) ?_
  refine WP.val rfl rfl rfl rfl (Yld.eqlNil rfl ty_pt_25 rfl rfl) ?_
  refine WP.nil ?_
  refine WP.sub [(0, _), (1, _), (4, _), (7, _)] ?_ ⟨rfl, rfl, rfl, rfl, trivial⟩
  refine WP.next ?_
  refine WP.condF rfl ?_
  refine WP.skip ?_
  refine WP.next ?_
  refine WP.seq ?_
  refine WP.region [0, 1, 2, 3] rfl ?_
  refine WP.val rfl rfl rfl rfl (Yld.move rfl rfl) ?_
  refine WP.val rfl rfl rfl rfl (Yld.buildS (pl := [(1, 1, 1)]) rfl ty_zr_85 ty_zd_85 (by kernel_rfl) rfl (vs := [_]) rfl (segs := [(1, [_])]) rfl rfl (by repeat (first | exact SetSeg.nil | apply SetSeg.one | exact SetAt.zero | apply SetAt.succ))) ?_
  refine WP.loud rfl rfl ?_
  refine Op.box rfl rfl rfl rfl rfl (fun b11 => ?_)
  refine WP.val rfl rfl rfl rfl (Yld.assign rfl rfl) ?_
  refine WP.nil ?_
  refine WP.sub [(0, _), (1, _), (4, _), (5, _), (7, _)] ?_ ⟨rfl, rfl, rfl, rfl, rfl, trivial⟩
  refine WP.next ?_
  refine WP.seq ?_
  refine WP.region [0, 1, 2, 3, 4] rfl ?_
  refine WP.val rfl rfl rfl rfl (Yld.move rfl rfl) ?_
  refine WP.val rfl rfl rfl rfl (Yld.nilCheck rfl rfl) ?_
  refine WP.val rfl rfl rfl rfl (Yld.fieldAddr rfl ty_fd_85_0 rfl) ?_
  refine WP.val rfl rfl rfl rfl (Yld.move rfl rfl) ?_
  refine WP.loud rfl rfl ?_
  refine' Op.call (atStore ?hs) rfl Try.func37 rfl rfl rfl rfl (by repeat (first | exact Take.nil | with_reducible apply Take.cons | apply Take.app | exact Rm.chunk | exact Rm.here | exact Rm.nil0 | apply Rm.skip | apply Rm.skipS | (focus (apply Take.all; (repeat (first | exact Rm.chunk | exact Rm.here | exact Rm.nil0 | apply Rm.skip | apply Rm.skipS)); done)) | apply Take.cons)) ?_
  case hs => repeat (first | exact SetAt.zero | apply SetAt.succ)
  rintro v J L1 hJ ⟨rfl, rfl, rfl⟩
  clear hJ; try simp only [List.cons_append, List.nil_append, List.append_assoc]
  refine WP.nil ?_
  refine WP.sub [(0, _), (1, _), (4, _), (5, _), (7, _)] ?_ ⟨rfl, rfl, rfl, rfl, rfl, trivial⟩
  refine WP.next ?_
  refine WP.seq ?_
  refine WP.region [0, 1] rfl ?_
  refine WP.val rfl rfl rfl rfl (Yld.move rfl rfl) ?_
  refine WP.val rfl rfl rfl rfl (Yld.assign rfl rfl) ?_
  refine WP.nil ?_
  refine WP.sub [(0, _), (1, _), (4, _), (5, _), (7, _)] ?_ ⟨rfl, rfl, rfl, rfl, rfl, trivial⟩
  refine WP.next ?_
  refine WP.ret ?_
  refine WP.fin .ret (.inr rfl) (res1 rfl rfl) [_] (by repeat (first | exact Take.nil | with_reducible apply Take.cons | apply Take.app | exact Rm.chunk | exact Rm.here | exact Rm.nil0 | apply Rm.skip | apply Rm.skipS | (focus (apply Take.all; (repeat (first | exact Rm.chunk | exact Rm.here | exact Rm.nil0 | apply Rm.skip | apply Rm.skipS)); done)) | apply Take.cons)) (by repeat (first | exact Leave.done | apply Leave.drop | apply Leave.dropS)) (Imm.le_refl _) ?_
  exact ⟨_, rfl, rfl, rfl⟩

theorem cell_Load {I : Imm} {c x : Nat} {v l s sw m a : Int} : Spec Try.prog 22 [.pointer (some ⟨x, 0, none⟩)] I [(x, row 85 [.int .i64 v, .pointer (some ⟨c, 0, none⟩)]), (c, row 83 [.int .i64 l, .int .i64 s, .int .i64 sw, .int .i64 m, .int .i64 a])] (fun v' J L => v' = .int .i64 v ∧ I = J ∧ L = [(x, row 85 [.int .i64 v, .pointer (some ⟨c, 0, none⟩)]), (c, row 83 [.int .i64 (IntKind.i64.wrap (l + 1)), .int .i64 s, .int .i64 sw, .int .i64 m, .int .i64 a])]) := by
  refine Spec.of Try.func22 rfl Try.ntmps22 (Nat.le_of_ble_eq_true rfl) (fun F => ?_)
  try simp only [List.cons_append, List.nil_append, List.append_assoc]
  dsimp only [argsEnv]
  refine WP.seq ?_
  refine WP.region [0] rfl ?_
  refine WP.val rfl rfl rfl rfl (Yld.assign rfl rfl) ?_
  refine WP.nil ?_
  refine WP.next ?_
  refine WP.seq ?_
  refine WP.region [0, 1, 2, 3, 4, 5, 6] rfl ?_
  refine WP.val rfl rfl rfl rfl (Yld.move rfl rfl) ?_
  refine WP.val rfl rfl rfl rfl (Yld.nilCheck rfl rfl) ?_
  refine WP.val rfl rfl rfl rfl (Yld.fieldAddr rfl ty_fd_85_1 rfl) ?_
  refine WP.val rfl rfl rfl rfl (Yld.load rfl ty_sc_25 rfl (by repeat (first | exact There.h | exact There.i (by assumption) | apply There.t | apply There.s)) rfl) ?_
  refine WP.val rfl rfl rfl rfl (Yld.nilCheck rfl rfl) ?_
  refine WP.val rfl rfl rfl rfl (Yld.fieldAddr rfl ty_fd_83_0 rfl) ?_
  refine WP.loud rfl rfl ?_
  refine' Op.call (atAdd ?hk ?hs) rfl Try.func44 rfl rfl rfl rfl (by repeat (first | exact Take.nil | with_reducible apply Take.cons | apply Take.app | exact Rm.chunk | exact Rm.here | exact Rm.nil0 | apply Rm.skip | apply Rm.skipS | (focus (apply Take.all; (repeat (first | exact Rm.chunk | exact Rm.here | exact Rm.nil0 | apply Rm.skip | apply Rm.skipS)); done)) | apply Take.cons)) ?_
  case hk => exact rfl
  case hs => repeat (first | exact SetAt.zero | apply SetAt.succ)
  rintro v J L1 hJ ⟨rfl, rfl, rfl⟩
  clear hJ; try simp only [List.cons_append, List.nil_append, List.append_assoc]
  refine WP.nil ?_
  refine WP.sub [(0, _), (2, _)] ?_ ⟨rfl, rfl, trivial⟩
  refine WP.next ?_
  refine WP.seq ?_
  refine WP.region [0, 1, 2, 3, 4] rfl ?_
  refine WP.val rfl rfl rfl rfl (Yld.move rfl rfl) ?_
  refine WP.val rfl rfl rfl rfl (Yld.nilCheck rfl rfl) ?_
  refine WP.val rfl rfl rfl rfl (Yld.fieldAddr rfl ty_fd_85_0 rfl) ?_
  refine WP.loud rfl rfl ?_
  refine' Op.call (atLoad ?hk) rfl Try.func43 rfl rfl rfl rfl (by repeat (first | exact Take.nil | with_reducible apply Take.cons | apply Take.app | exact Rm.chunk | exact Rm.here | exact Rm.nil0 | apply Rm.skip | apply Rm.skipS | (focus (apply Take.all; (repeat (first | exact Rm.chunk | exact Rm.here | exact Rm.nil0 | apply Rm.skip | apply Rm.skipS)); done)) | apply Take.cons)) ?_
  case hk => exact rfl
  rintro v J L1 hJ ⟨rfl, rfl, rfl⟩
  clear hJ; try simp only [List.cons_append, List.nil_append, List.append_assoc]
  refine WP.val rfl rfl rfl rfl (Yld.assign rfl rfl) ?_
  refine WP.nil ?_
  refine WP.sub [(0, _), (2, _)] ?_ ⟨rfl, rfl, trivial⟩
  refine WP.next ?_
  refine WP.ret ?_
  refine WP.fin .ret (.inr rfl) (res1 rfl rfl) [(x, row 85 [.int .i64 v, .pointer (some ⟨c, 0, none⟩)]), (c, row 83 [.int .i64 (IntKind.i64.wrap (l + 1)), .int .i64 s, .int .i64 sw, .int .i64 m, .int .i64 a])] (by repeat (first | exact Take.nil | with_reducible apply Take.cons | apply Take.app | exact Rm.chunk | exact Rm.here | exact Rm.nil0 | apply Rm.skip | apply Rm.skipS | (focus (apply Take.all; (repeat (first | exact Rm.chunk | exact Rm.here | exact Rm.nil0 | apply Rm.skip | apply Rm.skipS)); done)) | apply Take.cons)) (by repeat (first | exact Leave.done | apply Leave.drop | apply Leave.dropS)) (Imm.le_refl _) ?_
  exact ⟨rfl, rfl, rfl⟩

theorem cell_Store {I : Imm} {c x : Nat} {v l s sw m a : Int} {y : Int} : Spec Try.prog 40 [.pointer (some ⟨x, 0, none⟩), .int .i64 y] I [(x, row 85 [.int .i64 v, .pointer (some ⟨c, 0, none⟩)]), (c, row 83 [.int .i64 l, .int .i64 s, .int .i64 sw, .int .i64 m, .int .i64 a])] (fun v' J L => v' = .tuple #[] ∧ I = J ∧ L = [(x, row 85 [.int .i64 y, .pointer (some ⟨c, 0, none⟩)]), (c, row 83 [.int .i64 l, .int .i64 (IntKind.i64.wrap (s + 1)), .int .i64 sw, .int .i64 m, .int .i64 a])]) := by
  refine Spec.of Try.func40 rfl Try.ntmps40 (Nat.le_of_ble_eq_true rfl) (fun F => ?_)
  try simp only [List.cons_append, List.nil_append, List.append_assoc]
  dsimp only [argsEnv]
  refine WP.seq ?_
  refine WP.region [0, 1, 2, 3, 4, 5, 6] rfl ?_
  refine WP.val rfl rfl rfl rfl (Yld.move rfl rfl) ?_
  refine WP.val rfl rfl rfl rfl (Yld.nilCheck rfl rfl) ?_
  refine WP.val rfl rfl rfl rfl (Yld.fieldAddr rfl ty_fd_85_1 rfl) ?_
  refine WP.val rfl rfl rfl rfl (Yld.load rfl ty_sc_25 rfl (by repeat (first | exact There.h | exact There.i (by assumption) | apply There.t | apply There.s)) rfl) ?_
  refine WP.val rfl rfl rfl rfl (Yld.nilCheck rfl rfl) ?_
  refine WP.val rfl rfl rfl rfl (Yld.fieldAddr rfl ty_fd_83_1 rfl) ?_
  refine WP.loud rfl rfl ?_
  refine' Op.call (atAdd ?hk ?hs) rfl Try.func44 rfl rfl rfl rfl (by repeat (first | exact Take.nil | with_reducible apply Take.cons | apply Take.app | exact Rm.chunk | exact Rm.here | exact Rm.nil0 | apply Rm.skip | apply Rm.skipS | (focus (apply Take.all; (repeat (first | exact Rm.chunk | exact Rm.here | exact Rm.nil0 | apply Rm.skip | apply Rm.skipS)); done)) | apply Take.cons)) ?_
  case hk => exact rfl
  case hs => repeat (first | exact SetAt.zero | apply SetAt.succ)
  rintro v J L1 hJ ⟨rfl, rfl, rfl⟩
  clear hJ; try simp only [List.cons_append, List.nil_append, List.append_assoc]
  refine WP.nil ?_
  refine WP.sub [(0, _), (1, _)] ?_ ⟨rfl, rfl, trivial⟩
  refine WP.next ?_
  refine WP.region [0, 1, 2, 3, 4] rfl ?_
  refine WP.val rfl rfl rfl rfl (Yld.move rfl rfl) ?_
  refine WP.val rfl rfl rfl rfl (Yld.nilCheck rfl rfl) ?_
  refine WP.val rfl rfl rfl rfl (Yld.fieldAddr rfl ty_fd_85_0 rfl) ?_
  refine WP.val rfl rfl rfl rfl (Yld.move rfl rfl) ?_
  refine WP.loud rfl rfl ?_
  refine' Op.call (atStore ?hs) rfl Try.func37 rfl rfl rfl rfl (by repeat (first | exact Take.nil | with_reducible apply Take.cons | apply Take.app | exact Rm.chunk | exact Rm.here | exact Rm.nil0 | apply Rm.skip | apply Rm.skipS | (focus (apply Take.all; (repeat (first | exact Rm.chunk | exact Rm.here | exact Rm.nil0 | apply Rm.skip | apply Rm.skipS)); done)) | apply Take.cons)) ?_
  case hs => repeat (first | exact SetAt.zero | apply SetAt.succ)
  rintro v J L1 hJ ⟨rfl, rfl, rfl⟩
  clear hJ; try simp only [List.cons_append, List.nil_append, List.append_assoc]
  refine WP.nil ?_
  refine WP.sub [(0, _), (1, _)] ?_ ⟨rfl, rfl, trivial⟩
  refine WP.fin .normal (.inl rfl) (res0 rfl) [(x, row 85 [.int .i64 y, .pointer (some ⟨c, 0, none⟩)]), (c, row 83 [.int .i64 l, .int .i64 (IntKind.i64.wrap (s + 1)), .int .i64 sw, .int .i64 m, .int .i64 a])] (by repeat (first | exact Take.nil | with_reducible apply Take.cons | apply Take.app | exact Rm.chunk | exact Rm.here | exact Rm.nil0 | apply Rm.skip | apply Rm.skipS | (focus (apply Take.all; (repeat (first | exact Rm.chunk | exact Rm.here | exact Rm.nil0 | apply Rm.skip | apply Rm.skipS)); done)) | apply Take.cons)) (by repeat (first | exact Leave.done | apply Leave.drop | apply Leave.dropS)) (Imm.le_refl _) ?_
  exact ⟨rfl, rfl, rfl⟩

theorem cell_CAS_hit {I : Imm} {c x : Nat} {v l s sw m a : Int} {y : Int} : Spec Try.prog 39 [.pointer (some ⟨x, 0, none⟩), .int .i64 v, .int .i64 y] I [(x, row 85 [.int .i64 v, .pointer (some ⟨c, 0, none⟩)]), (c, row 83 [.int .i64 l, .int .i64 s, .int .i64 sw, .int .i64 m, .int .i64 a])] (fun v' J L => v' = .bool true ∧ I = J ∧ L = [(x, row 85 [.int .i64 y, .pointer (some ⟨c, 0, none⟩)]), (c, row 83 [.int .i64 l, .int .i64 s, .int .i64 (IntKind.i64.wrap (sw + 1)), .int .i64 m, .int .i64 a])]) := by
  refine Spec.of Try.func39 rfl Try.ntmps39 (Nat.le_of_ble_eq_true rfl) (fun F => ?_)
  try simp only [List.cons_append, List.nil_append, List.append_assoc]
  dsimp only [argsEnv]
  refine WP.seq ?_
  refine WP.region [0] rfl ?_
  refine WP.val rfl rfl rfl rfl (Yld.assign rfl rfl) ?_
  refine WP.nil ?_
  refine WP.next ?_
  refine WP.seq ?_
  refine WP.seq ?_
  refine WP.region [0, 1, 2, 3, 4, 5] rfl ?_
  refine WP.val rfl rfl rfl rfl (Yld.move rfl rfl) ?_
  refine WP.val rfl rfl rfl rfl (Yld.nilCheck rfl rfl) ?_
  refine WP.val rfl rfl rfl rfl (Yld.fieldAddr rfl ty_fd_85_0 rfl) ?_
  refine WP.val rfl rfl rfl rfl (Yld.move rfl rfl) ?_
  refine WP.val rfl rfl rfl rfl (Yld.move rfl rfl) ?_
  refine WP.loud rfl rfl ?_
  refine' Op.call (atHit ?hk ?hs) rfl Try.func54 rfl rfl rfl rfl (by repeat (first | exact Take.nil | with_reducible apply Take.cons | apply Take.app | exact Rm.chunk | exact Rm.here | exact Rm.nil0 | apply Rm.skip | apply Rm.skipS | (focus (apply Take.all; (repeat (first | exact Rm.chunk | exact Rm.here | exact Rm.nil0 | apply Rm.skip | apply Rm.skipS)); done)) | apply Take.cons)) ?_
  case hk => exact rfl
  case hs => repeat (first | exact SetAt.zero | apply SetAt.succ)
  rintro v J L1 hJ ⟨rfl, rfl, rfl⟩
  clear hJ; try simp only [List.cons_append, List.nil_append, List.append_assoc]
  refine WP.nil ?_
  refine WP.sub [(0, _), (1, _), (2, _), (6, _), (12, _)] ?_ ⟨rfl, rfl, rfl, rfl, rfl, trivial⟩
  refine WP.next ?_
  refine WP.condT rfl ?_
  refine WP.seq ?_
  refine WP.region [0, 1, 2, 3, 4, 5, 6] rfl ?_
  refine WP.val rfl rfl rfl rfl (Yld.move rfl rfl) ?_
  refine WP.val rfl rfl rfl rfl (Yld.nilCheck rfl rfl) ?_
  refine WP.val rfl rfl rfl rfl (Yld.fieldAddr rfl ty_fd_85_1 rfl) ?_
  refine WP.val rfl rfl rfl rfl (Yld.load rfl ty_sc_25 rfl (by repeat (first | exact There.h | exact There.i (by assumption) | apply There.t | apply There.s)) rfl) ?_
  refine WP.val rfl rfl rfl rfl (Yld.nilCheck rfl rfl) ?_
  refine WP.val rfl rfl rfl rfl (Yld.fieldAddr rfl ty_fd_83_2 rfl) ?_
  refine WP.loud rfl rfl ?_
  refine' Op.call (atAdd ?hk ?hs) rfl Try.func44 rfl rfl rfl rfl (by repeat (first | exact Take.nil | with_reducible apply Take.cons | apply Take.app | exact Rm.chunk | exact Rm.here | exact Rm.nil0 | apply Rm.skip | apply Rm.skipS | (focus (apply Take.all; (repeat (first | exact Rm.chunk | exact Rm.here | exact Rm.nil0 | apply Rm.skip | apply Rm.skipS)); done)) | apply Take.cons)) ?_
  case hk => exact rfl
  case hs => repeat (first | exact SetAt.zero | apply SetAt.succ)
  rintro v J L1 hJ ⟨rfl, rfl, rfl⟩
  clear hJ; try simp only [List.cons_append, List.nil_append, List.append_assoc]
  refine WP.nil ?_
  refine WP.sub [(0, _), (1, _), (2, _), (6, _), (12, _)] ?_ ⟨rfl, rfl, rfl, rfl, rfl, trivial⟩
  refine WP.next ?_
  refine WP.seq ?_
  refine WP.region [0] rfl ?_
  refine WP.val rfl rfl rfl rfl (Yld.assign rfl rfl) ?_
  refine WP.nil ?_
  refine WP.next ?_
  refine WP.ret ?_
  refine WP.fin .ret (.inr rfl) (res1 rfl rfl) [(x, row 85 [.int .i64 y, .pointer (some ⟨c, 0, none⟩)]), (c, row 83 [.int .i64 l, .int .i64 s, .int .i64 (IntKind.i64.wrap (sw + 1)), .int .i64 m, .int .i64 a])] (by repeat (first | exact Take.nil | with_reducible apply Take.cons | apply Take.app | exact Rm.chunk | exact Rm.here | exact Rm.nil0 | apply Rm.skip | apply Rm.skipS | (focus (apply Take.all; (repeat (first | exact Rm.chunk | exact Rm.here | exact Rm.nil0 | apply Rm.skip | apply Rm.skipS)); done)) | apply Take.cons)) (by repeat (first | exact Leave.done | apply Leave.drop | apply Leave.dropS)) (Imm.le_refl _) ?_
  exact ⟨rfl, rfl, rfl⟩

theorem cell_CAS_miss {I : Imm} {c x : Nat} {v l s sw m a : Int} {y z : Int} (hne : ¬ v = z) : Spec Try.prog 39 [.pointer (some ⟨x, 0, none⟩), .int .i64 z, .int .i64 y] I [(x, row 85 [.int .i64 v, .pointer (some ⟨c, 0, none⟩)]), (c, row 83 [.int .i64 l, .int .i64 s, .int .i64 sw, .int .i64 m, .int .i64 a])] (fun v' J L => v' = .bool false ∧ I = J ∧ L = [(x, row 85 [.int .i64 v, .pointer (some ⟨c, 0, none⟩)]), (c, row 83 [.int .i64 l, .int .i64 s, .int .i64 sw, .int .i64 (IntKind.i64.wrap (m + 1)), .int .i64 a])]) := by
  refine Spec.of Try.func39 rfl Try.ntmps39 (Nat.le_of_ble_eq_true rfl) (fun F => ?_)
  try simp only [List.cons_append, List.nil_append, List.append_assoc]
  dsimp only [argsEnv]
  refine WP.seq ?_
  refine WP.region [0] rfl ?_
  refine WP.val rfl rfl rfl rfl (Yld.assign rfl rfl) ?_
  refine WP.nil ?_
  refine WP.next ?_
  refine WP.seq ?_
  refine WP.seq ?_
  refine WP.region [0, 1, 2, 3, 4, 5] rfl ?_
  refine WP.val rfl rfl rfl rfl (Yld.move rfl rfl) ?_
  refine WP.val rfl rfl rfl rfl (Yld.nilCheck rfl rfl) ?_
  refine WP.val rfl rfl rfl rfl (Yld.fieldAddr rfl ty_fd_85_0 rfl) ?_
  refine WP.val rfl rfl rfl rfl (Yld.move rfl rfl) ?_
  refine WP.val rfl rfl rfl rfl (Yld.move rfl rfl) ?_
  refine WP.loud rfl rfl ?_
  refine' Op.call (atMiss ?hk hne) rfl Try.func54 rfl rfl rfl rfl (by repeat (first | exact Take.nil | with_reducible apply Take.cons | apply Take.app | exact Rm.chunk | exact Rm.here | exact Rm.nil0 | apply Rm.skip | apply Rm.skipS | (focus (apply Take.all; (repeat (first | exact Rm.chunk | exact Rm.here | exact Rm.nil0 | apply Rm.skip | apply Rm.skipS)); done)) | apply Take.cons)) ?_
  case hk => exact rfl
  rintro v J L1 hJ ⟨rfl, rfl, rfl⟩
  clear hJ; try simp only [List.cons_append, List.nil_append, List.append_assoc]
  refine WP.nil ?_
  refine WP.sub [(0, _), (1, _), (2, _), (6, _), (12, _)] ?_ ⟨rfl, rfl, rfl, rfl, rfl, trivial⟩
  refine WP.next ?_
  refine WP.condF rfl ?_
  refine WP.skip ?_
  refine WP.next ?_
  refine WP.seq ?_
  refine WP.region [0, 1, 2, 3, 4, 5, 6] rfl ?_
  refine WP.val rfl rfl rfl rfl (Yld.move rfl rfl) ?_
  refine WP.val rfl rfl rfl rfl (Yld.nilCheck rfl rfl) ?_
  refine WP.val rfl rfl rfl rfl (Yld.fieldAddr rfl ty_fd_85_1 rfl) ?_
  refine WP.val rfl rfl rfl rfl (Yld.load rfl ty_sc_25 rfl (by repeat (first | exact There.h | exact There.i (by assumption) | apply There.t | apply There.s)) rfl) ?_
  refine WP.val rfl rfl rfl rfl (Yld.nilCheck rfl rfl) ?_
  refine WP.val rfl rfl rfl rfl (Yld.fieldAddr rfl ty_fd_83_3 rfl) ?_
  refine WP.loud rfl rfl ?_
  refine' Op.call (atAdd ?hk ?hs) rfl Try.func44 rfl rfl rfl rfl (by repeat (first | exact Take.nil | with_reducible apply Take.cons | apply Take.app | exact Rm.chunk | exact Rm.here | exact Rm.nil0 | apply Rm.skip | apply Rm.skipS | (focus (apply Take.all; (repeat (first | exact Rm.chunk | exact Rm.here | exact Rm.nil0 | apply Rm.skip | apply Rm.skipS)); done)) | apply Take.cons)) ?_
  case hk => exact rfl
  case hs => repeat (first | exact SetAt.zero | apply SetAt.succ)
  rintro v J L1 hJ ⟨rfl, rfl, rfl⟩
  clear hJ; try simp only [List.cons_append, List.nil_append, List.append_assoc]
  refine WP.nil ?_
  refine WP.sub [(0, _), (1, _), (2, _), (6, _), (12, _)] ?_ ⟨rfl, rfl, rfl, rfl, rfl, trivial⟩
  refine WP.next ?_
  refine WP.seq ?_
  refine WP.region [0] rfl ?_
  refine WP.val rfl rfl rfl rfl (Yld.assign rfl rfl) ?_
  refine WP.nil ?_
  refine WP.next ?_
  refine WP.ret ?_
  refine WP.fin .ret (.inr rfl) (res1 rfl rfl) [(x, row 85 [.int .i64 v, .pointer (some ⟨c, 0, none⟩)]), (c, row 83 [.int .i64 l, .int .i64 s, .int .i64 sw, .int .i64 (IntKind.i64.wrap (m + 1)), .int .i64 a])] (by repeat (first | exact Take.nil | with_reducible apply Take.cons | apply Take.app | exact Rm.chunk | exact Rm.here | exact Rm.nil0 | apply Rm.skip | apply Rm.skipS | (focus (apply Take.all; (repeat (first | exact Rm.chunk | exact Rm.here | exact Rm.nil0 | apply Rm.skip | apply Rm.skipS)); done)) | apply Take.cons)) (by repeat (first | exact Leave.done | apply Leave.drop | apply Leave.dropS)) (Imm.le_refl _) ?_
  exact ⟨rfl, rfl, rfl⟩

theorem cell_Tally {I : Imm} {c : Nat} {l s sw m a : Int} : Spec Try.prog 19 [.pointer (some ⟨c, 0, none⟩)] I [(c, row 83 [.int .i64 l, .int .i64 s, .int .i64 sw, .int .i64 m, .int .i64 a])] (fun v' J L => v' = .agg #[.int .i64 l, .int .i64 s, .int .i64 sw, .int .i64 m, .int .i64 a] ∧ I = J ∧ L = [(c, row 83 [.int .i64 l, .int .i64 s, .int .i64 sw, .int .i64 m, .int .i64 a])]) := by
  refine Spec.of Try.func19 rfl Try.ntmps19 (Nat.le_of_ble_eq_true rfl) (fun F => ?_)
  try simp only [List.cons_append, List.nil_append, List.append_assoc]
  dsimp only [argsEnv]
  refine WP.seq ?_
  refine WP.region [0] rfl ?_
  refine WP.loud rfl rfl ?_
  refine Op.alloc rfl rfl rfl ty_zr_41 (fun b2 => ?_)
  refine WP.nil ?_
  refine WP.next ?_
  refine WP.seq ?_
  refine WQ.start Trymixed 21 (by kernel_rfl) _ rfl [21] rfl ?_
  refine WQ.val rfl rfl rfl (Yld.move rfl rfl) ?_
  refine WQ.val rfl rfl rfl (Yld.nilCheck rfl rfl) ?_
  refine WQ.val rfl rfl rfl (Yld.fieldAddr rfl ty_fd_83_0 rfl) ?_
  refine' WQ.call (atLoad ?hk) (by rintro v' J L1 ⟨rfl, rfl, rfl⟩; exact ⟨rfl, rfl, rfl⟩) rfl Try.func43 rfl rfl rfl rfl rfl (by repeat (first | exact Take.nil | with_reducible apply Take.cons | apply Take.app | exact Rm.chunk | exact Rm.here | exact Rm.nil0 | apply Rm.skip | apply Rm.skipS | (focus (apply Take.all; (repeat (first | exact Rm.chunk | exact Rm.here | exact Rm.nil0 | apply Rm.skip | apply Rm.skipS)); done)) | apply Take.cons)) ?_
  case hk => exact rfl
  refine WQ.val rfl rfl rfl (Yld.move rfl rfl) ?_
  refine WQ.val rfl rfl rfl (Yld.nilCheck rfl rfl) ?_
  refine WQ.val rfl rfl rfl (Yld.fieldAddr rfl ty_fd_83_1 rfl) ?_
  refine' WQ.call (atLoad ?hk) (by rintro v' J L1 ⟨rfl, rfl, rfl⟩; exact ⟨rfl, rfl, rfl⟩) rfl Try.func43 rfl rfl rfl rfl rfl (by repeat (first | exact Take.nil | with_reducible apply Take.cons | apply Take.app | exact Rm.chunk | exact Rm.here | exact Rm.nil0 | apply Rm.skip | apply Rm.skipS | (focus (apply Take.all; (repeat (first | exact Rm.chunk | exact Rm.here | exact Rm.nil0 | apply Rm.skip | apply Rm.skipS)); done)) | apply Take.cons)) ?_
  case hk => exact rfl
  refine WQ.val rfl rfl rfl (Yld.move rfl rfl) ?_
  refine WQ.val rfl rfl rfl (Yld.nilCheck rfl rfl) ?_
  refine WQ.val rfl rfl rfl (Yld.fieldAddr rfl ty_fd_83_2 rfl) ?_
  refine' WQ.call (atLoad ?hk) (by rintro v' J L1 ⟨rfl, rfl, rfl⟩; exact ⟨rfl, rfl, rfl⟩) rfl Try.func43 rfl rfl rfl rfl rfl (by repeat (first | exact Take.nil | with_reducible apply Take.cons | apply Take.app | exact Rm.chunk | exact Rm.here | exact Rm.nil0 | apply Rm.skip | apply Rm.skipS | (focus (apply Take.all; (repeat (first | exact Rm.chunk | exact Rm.here | exact Rm.nil0 | apply Rm.skip | apply Rm.skipS)); done)) | apply Take.cons)) ?_
  case hk => exact rfl
  refine WQ.val rfl rfl rfl (Yld.move rfl rfl) ?_
  refine WQ.val rfl rfl rfl (Yld.nilCheck rfl rfl) ?_
  refine WQ.val rfl rfl rfl (Yld.fieldAddr rfl ty_fd_83_3 rfl) ?_
  refine' WQ.call (atLoad ?hk) (by rintro v' J L1 ⟨rfl, rfl, rfl⟩; exact ⟨rfl, rfl, rfl⟩) rfl Try.func43 rfl rfl rfl rfl rfl (by repeat (first | exact Take.nil | with_reducible apply Take.cons | apply Take.app | exact Rm.chunk | exact Rm.here | exact Rm.nil0 | apply Rm.skip | apply Rm.skipS | (focus (apply Take.all; (repeat (first | exact Rm.chunk | exact Rm.here | exact Rm.nil0 | apply Rm.skip | apply Rm.skipS)); done)) | apply Take.cons)) ?_
  case hk => exact rfl
  refine WQ.val rfl rfl rfl (Yld.move rfl rfl) ?_
  refine WQ.val rfl rfl rfl (Yld.nilCheck rfl rfl) ?_
  refine WQ.val rfl rfl rfl (Yld.fieldAddr rfl ty_fd_83_4 rfl) ?_
  refine' WQ.call (atLoad ?hk) (by rintro v' J L1 ⟨rfl, rfl, rfl⟩; exact ⟨rfl, rfl, rfl⟩) rfl Try.func43 rfl rfl rfl rfl rfl (by repeat (first | exact Take.nil | with_reducible apply Take.cons | apply Take.app | exact Rm.chunk | exact Rm.here | exact Rm.nil0 | apply Rm.skip | apply Rm.skipS | (focus (apply Take.all; (repeat (first | exact Rm.chunk | exact Rm.here | exact Rm.nil0 | apply Rm.skip | apply Rm.skipS)); done)) | apply Take.cons)) ?_
  case hk => exact rfl
  refine WQ.val rfl rfl rfl (Yld.buildS (pl := [(0, 0, 1), (1, 1, 1), (2, 2, 1), (3, 3, 1), (4, 4, 1)]) rfl ty_zr_41 ty_zd_41 (by kernel_rfl) rfl (vs := [_, _, _, _, _]) rfl (segs := [(0, [_]), (1, [_]), (2, [_]), (3, [_]), (4, [_])]) rfl rfl (by repeat (first | exact SetSeg.nil | apply SetSeg.one | exact SetAt.zero | apply SetAt.succ))) ?_
  refine WQ.nil ?_
  refine WP.loud rfl rfl ?_
  refine Op.storeAll rfl rfl ty_sz_41 rfl rfl rfl rfl (by repeat (first | exact Upd.head | apply Upd.tail | apply Upd.tailS)) rfl ?_
  refine WP.nil ?_
  refine WP.sub [(0, _), (2, _)] ?_ ⟨rfl, rfl, trivial⟩
  refine WP.next ?_
  refine WP.ret ?_
  refine WP.fin .ret (.inr rfl) (resC rfl ty_ag_41 rfl (by repeat (first | exact There.h | exact There.i (by assumption) | apply There.t | apply There.s)) rfl) [(c, row 83 [.int .i64 l, .int .i64 s, .int .i64 sw, .int .i64 m, .int .i64 a])] (by repeat (first | exact Take.nil | with_reducible apply Take.cons | apply Take.app | exact Rm.chunk | exact Rm.here | exact Rm.nil0 | apply Rm.skip | apply Rm.skipS | (focus (apply Take.all; (repeat (first | exact Rm.chunk | exact Rm.here | exact Rm.nil0 | apply Rm.skip | apply Rm.skipS)); done)) | apply Take.cons)) (by repeat (first | exact Leave.done | apply Leave.drop | apply Leave.dropS)) (Imm.le_refl _) ?_
  exact ⟨rfl, rfl, rfl⟩


theorem cell_CAS {I : Imm} {c x : Nat} {v l s sw m a : Int} {y z : Int} : Spec Try.prog 39 [.pointer (some ⟨x, 0, none⟩), .int .i64 z, .int .i64 y] I [(x, row 85 [.int .i64 v, .pointer (some ⟨c, 0, none⟩)]), (c, row 83 [.int .i64 l, .int .i64 s, .int .i64 sw, .int .i64 m, .int .i64 a])] (fun v' J L => v' = .bool (decide (v = z)) ∧ I = J ∧ L = [(x, row 85 [.int .i64 (if v = z then y else v), .pointer (some ⟨c, 0, none⟩)]), (c, row 83 [.int .i64 l, .int .i64 s, .int .i64 (if v = z then (IntKind.i64.wrap (sw + 1)) else sw), .int .i64 (if v = z then m else (IntKind.i64.wrap (m + 1))), .int .i64 a])]) := by
  by_cases h : v = z
  · subst h
    exact cell_CAS_hit.mono (by rintro v' J L _ ⟨rfl, rfl, rfl⟩; simp)
  · exact (cell_CAS_miss h).mono (by rintro v' J L _ ⟨rfl, rfl, rfl⟩; simp [h])

end Go.Hp
