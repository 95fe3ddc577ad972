import Derived.Test.YtdobkjbpehdokaaLoomA
set_option linter.unusedVariables false
set_option linter.unusedSimpArgs false
namespace Go.Hp
open Go Go.Proofs
theorem loom_aStep {I : Imm} {q c : Nat} {m : Mb × Ad} {s : CS} (hl : m.2.left ≤ 9223372036854775807) : Spec Try.prog 77 [.pointer (some ⟨m.1.a, 0, none⟩)] I [(m.1.a, row 95 [.pointer (some ⟨q, 0, none⟩), .int .i64 m.2.left, .int .i64 m.2.by_, .int .i64 m.2.seen, .bool m.2.loaded, putV m.1]), (m.1.s, row 4 [.bool m.2.safe]), (m.1.x, row 27 [.pointer (some ⟨q, 0, none⟩)]), (m.1.b, row 3 [.int .i64 m.2.by_]), (q, row 85 [.int .i64 s.v, .pointer (some ⟨c, 0, none⟩)]), (c, row 83 [.int .i64 s.l, .int .i64 s.s, .int .i64 s.sw, .int .i64 s.m, .int .i64 s.a])] (fun v J L => v = .bool (decide ((aStep m.2 s).1.left < 1)) ∧ I = J ∧ L = adCh q (m.1, (aStep m.2 s).1) ++ csCh q c (aStep m.2 s).2) := by
  refine Spec.of Try.func77 rfl Try.ntmps77 (Nat.le_of_ble_eq_true rfl) (fun F => ?_)
  try simp only [List.cons_append, List.nil_append, List.append_assoc]
  dsimp only [argsEnv]
  refine WP.seq ?_
  refine WP.region [0] rfl ?_
  refine WP.val rfl rfl rfl rfl (Yld.assign rfl rfl) ?_
  refine WP.nil ?_
  refine WP.next ?_
  refine WP.cut (X := Unit) (fun _ => [(0, .pointer (some ⟨m.1.a, 0, none⟩))]) (fun _ => I) (fun _ => (m.1.a, row 95 [.pointer (some ⟨q, 0, none⟩), .int .i64 (aStep m.2 s).1.left, .int .i64 (aStep m.2 s).1.by_, .int .i64 (aStep m.2 s).1.seen, .bool (aStep m.2 s).1.loaded, putV m.1]) :: (m.1.s, row 4 [.bool (aStep m.2 s).1.safe]) :: (m.1.x, row 27 [.pointer (some ⟨q, 0, none⟩)]) :: (m.1.b, row 3 [.int .i64 (aStep m.2 s).1.by_]) :: (q, row 85 [.int .i64 (aStep m.2 s).2.v, .pointer (some ⟨c, 0, none⟩)]) :: (c, row 83 [.int .i64 (aStep m.2 s).2.l, .int .i64 (aStep m.2 s).2.s, .int .i64 (aStep m.2 s).2.sw, .int .i64 (aStep m.2 s).2.m, .int .i64 (aStep m.2 s).2.a]) :: F) (fun _ => True) ?_ ?_
  · skip
    refine WP.block ?_
    refine WP.seq ?_
    refine WP.region [0, 1, 2, 3, 4, 5] rfl ?_
    refine WP.val rfl rfl rfl rfl (Yld.move rfl rfl) ?_
    refine WP.val rfl rfl rfl rfl (Yld.nilCheck rfl rfl) ?_
    refine WP.val rfl rfl rfl rfl (Yld.fieldAddr rfl ty_fd_95_1 rfl) ?_
    refine WP.val rfl rfl rfl rfl (Yld.load rfl ty_sc_3 rfl (by repeat (first | exact There.h | exact There.i (by assumption) | apply There.t | apply There.s)) rfl) ?_
    refine WP.split rfl rfl rfl rfl (Yld.lss rfl rfl rfl) (fun h1 => ?_) (fun h1 => ?_)
    · refine WP.val rfl rfl rfl rfl (Yld.assign rfl rfl) ?_
      refine WP.nil ?_
      refine WP.sub [(0, _), (2, _), (22, _)] ?_ ⟨rfl, rfl, rfl, trivial⟩
      refine WP.next ?_
      refine WP.condT rfl ?_
      refine WP.skip ?_
      refine WP.leave ?_
      exact WP.meet () trivial ⟨rfl, trivial⟩ rfl (by rw [show aStep m.2 s = (m.2, s) by unfold aStep; rw [if_pos h1]]; exact (by (try dsimp only); repeat (first | exact Rm.chunk | exact Rm.here | exact Rm.nil0 | apply Rm.skip | apply Rm.skipS | apply PX.cons | (apply PX.done; (repeat (first | exact Leave.done | apply Leave.drop | apply Leave.dropS)); done) | apply PX.app)))
    · refine WP.val rfl rfl rfl rfl (Yld.assign rfl rfl) ?_
      refine WP.nil ?_
      refine WP.sub [(0, _), (2, _), (22, _)] ?_ ⟨rfl, rfl, rfl, trivial⟩
      refine WP.next ?_
      refine WP.condF rfl ?_
      refine WP.seq ?_
      refine WP.region [0, 1, 2, 3, 4, 5] rfl ?_
      refine WP.val rfl rfl rfl rfl (Yld.move rfl rfl) ?_
      refine WP.val rfl rfl rfl rfl (Yld.nilCheck rfl rfl) ?_
      refine WP.val rfl rfl rfl rfl (Yld.fieldAddr rfl ty_fd_95_4 rfl) ?_
      refine WP.splitB rfl rfl rfl rfl (Yld.load rfl ty_sc_4 rfl (by repeat (first | exact There.h | exact There.i (by assumption) | apply There.t | apply There.s)) rfl) (fun hb => ?_) (fun hb => ?_)
      · refine WP.val rfl rfl rfl rfl (Yld.not rfl rfl) ?_
        refine WP.val rfl rfl rfl rfl (Yld.assign rfl rfl) ?_
        refine WP.nil ?_
        refine WP.sub [(0, _), (2, _), (22, _), (28, _)] ?_ ⟨rfl, rfl, rfl, rfl, trivial⟩
        refine WP.next ?_
        refine WP.condF rfl ?_
        refine WP.seq ?_
        refine WP.region [0, 1, 2, 3] rfl ?_
        refine WP.val rfl rfl rfl rfl (Yld.move rfl rfl) ?_
        refine WP.val rfl rfl rfl rfl (Yld.nilCheck rfl rfl) ?_
        refine WP.val rfl rfl rfl rfl (Yld.fieldAddr rfl ty_fd_95_4 rfl) ?_
        refine WP.loud rfl rfl ?_
        refine Op.store1 rfl rfl ty_sz_4 rfl rfl rfl (by repeat (first | exact Upd.head | apply Upd.tail | apply Upd.tailS)) (by repeat (first | exact SetAt.zero | apply SetAt.succ)) ?_
        refine WP.nil ?_
        refine WP.sub [(0, _), (2, _), (22, _), (28, _)] ?_ ⟨rfl, rfl, rfl, rfl, trivial⟩
        refine WP.next ?_
        refine WP.seq ?_
        refine WQ.start Trymixed 8 (by kernel_rfl) _ rfl [8] rfl ?_
        refine WQ.val rfl rfl rfl (Yld.move rfl rfl) ?_
        refine WQ.val rfl rfl rfl (Yld.nilCheck rfl rfl) ?_
        refine WQ.val rfl rfl rfl (Yld.fieldAddr rfl ty_fd_95_5 rfl) ?_
        refine WQ.val rfl rfl rfl (Yld.load rfl ty_sc_53 rfl (by repeat (first | exact There.h | exact There.i (by assumption) | apply There.t | apply There.s)) rfl) ?_
        refine WQ.val rfl rfl rfl (Yld.move rfl rfl) ?_
        refine WQ.val rfl rfl rfl (Yld.nilCheck rfl rfl) ?_
        refine WQ.val rfl rfl rfl (Yld.fieldAddr rfl ty_fd_95_3 rfl) ?_
        refine WQ.val rfl rfl rfl (Yld.load rfl ty_sc_3 rfl (by repeat (first | exact There.h | exact There.i (by assumption) | apply There.t | apply There.s)) rfl) ?_
        refine WQ.nil ?_
        refine WP.loud rfl rfl ?_
        refine Op.callE loom_put (Enters.closure rfl Try.func38 rfl (us := [.pointer (some ⟨m.1.s, 0, none⟩), .pointer (some ⟨m.1.x, 0, none⟩), .pointer (some ⟨m.1.b, 0, none⟩)]) rfl (vs := [_]) rfl) rfl rfl (by repeat (first | exact Take.nil | with_reducible apply Take.cons | apply Take.app | exact Rm.chunk | exact Rm.here | exact Rm.nil0 | apply Rm.skip | apply Rm.skipS | (focus (apply Take.all; (repeat (first | exact Rm.chunk | exact Rm.here | exact Rm.nil0 | apply Rm.skip | apply Rm.skipS)); done)) | apply Take.cons)) ?_
        rintro v J L1 hJ ⟨rfl, rfl, rfl⟩
        clear hJ; try simp only [List.cons_append, List.nil_append, List.append_assoc]
        refine WP.nil ?_
        refine WP.sub [(0, _), (2, _), (14, _), (22, _), (28, _)] ?_ ⟨rfl, rfl, rfl, rfl, rfl, trivial⟩
        refine WP.next ?_
        refine WP.cond rfl (fun ht => ?_) (fun ht => ?_)
        · refine WP.region [0, 1, 2, 3, 4, 5, 6, 7] rfl ?_
          refine WP.val rfl rfl rfl rfl (Yld.move rfl rfl) ?_
          refine WP.val rfl rfl rfl rfl (Yld.nilCheck rfl rfl) ?_
          refine WP.val rfl rfl rfl rfl (Yld.fieldAddr rfl ty_fd_95_1 rfl) ?_
          refine WP.val rfl rfl rfl rfl (Yld.load rfl ty_sc_3 rfl (by repeat (first | exact There.h | exact There.i (by assumption) | apply There.t | apply There.s)) rfl) ?_
          refine WP.val rfl rfl rfl rfl (Yld.sub64 rfl rfl rfl (by have := hl; omega)) ?_
          refine WP.val rfl rfl rfl rfl (Yld.nilCheck rfl rfl) ?_
          refine WP.val rfl rfl rfl rfl (Yld.fieldAddr rfl ty_fd_95_1 rfl) ?_
          refine WP.loud rfl rfl ?_
          refine Op.store1 rfl rfl ty_sz_3 rfl rfl rfl (by repeat (first | exact Upd.head | apply Upd.tail | apply Upd.tailS)) (by repeat (first | exact SetAt.zero | apply SetAt.succ)) ?_
          refine WP.nil ?_
          refine WP.sub [(0, _), (2, _), (14, _), (22, _), (28, _)] ?_ ⟨rfl, rfl, rfl, rfl, rfl, trivial⟩
          refine WP.leave ?_
          exact WP.meet () trivial ⟨rfl, trivial⟩ rfl (by rw [show aStep m.2 s = ({ m.2 with loaded := false, left := m.2.left - 1 }, (putSt m.2.safe m.2.by_ m.2.seen s).2) by unfold aStep; rw [if_neg h1, if_neg (by rw [hb]; decide), if_pos ht, wrap64_id (by omega)]]; exact (by (try dsimp only); repeat (first | exact Rm.chunk | exact Rm.here | exact Rm.nil0 | apply Rm.skip | apply Rm.skipS | apply PX.cons | (apply PX.done; (repeat (first | exact Leave.done | apply Leave.drop | apply Leave.dropS)); done) | apply PX.app)))
        · refine WP.skip ?_
          refine WP.leave ?_
          exact WP.meet () trivial ⟨rfl, trivial⟩ rfl (by rw [show aStep m.2 s = ({ m.2 with loaded := false }, (putSt m.2.safe m.2.by_ m.2.seen s).2) by unfold aStep; rw [if_neg h1, if_neg (by rw [hb]; decide), if_neg (by rw [ht]; decide)]]; exact (by (try dsimp only); repeat (first | exact Rm.chunk | exact Rm.here | exact Rm.nil0 | apply Rm.skip | apply Rm.skipS | apply PX.cons | (apply PX.done; (repeat (first | exact Leave.done | apply Leave.drop | apply Leave.dropS)); done) | apply PX.app)))
      · refine WP.val rfl rfl rfl rfl (Yld.not rfl rfl) ?_
        refine WP.val rfl rfl rfl rfl (Yld.assign rfl rfl) ?_
        refine WP.nil ?_
        refine WP.sub [(0, _), (2, _), (22, _), (28, _)] ?_ ⟨rfl, rfl, rfl, rfl, trivial⟩
        refine WP.next ?_
        refine WP.condT rfl ?_
        refine WP.region [0, 1, 2, 3, 4, 5, 6, 7, 8, 9, 10, 11, 12] rfl ?_
        refine WP.val rfl rfl rfl rfl (Yld.move rfl rfl) ?_
        refine WP.val rfl rfl rfl rfl (Yld.move rfl rfl) ?_
        refine WP.val rfl rfl rfl rfl (Yld.move rfl rfl) ?_
        refine WP.val rfl rfl rfl rfl (Yld.nilCheck rfl rfl) ?_
        refine WP.val rfl rfl rfl rfl (Yld.fieldAddr rfl ty_fd_95_0 rfl) ?_
        refine WP.val rfl rfl rfl rfl (Yld.load rfl ty_sc_27 rfl (by repeat (first | exact There.h | exact There.i (by assumption) | apply There.t | apply There.s)) rfl) ?_
        refine WP.loud rfl rfl ?_
        refine Op.call cell_Load rfl Try.func22 rfl rfl rfl rfl (by repeat (first | exact Take.nil | with_reducible apply Take.cons | apply Take.app | exact Rm.chunk | exact Rm.here | exact Rm.nil0 | apply Rm.skip | apply Rm.skipS | (focus (apply Take.all; (repeat (first | exact Rm.chunk | exact Rm.here | exact Rm.nil0 | apply Rm.skip | apply Rm.skipS)); done)) | apply Take.cons)) ?_
        rintro v J L1 hJ ⟨rfl, rfl, rfl⟩
        clear hJ; try simp only [List.cons_append, List.nil_append, List.append_assoc]
        refine WP.val rfl rfl rfl rfl (Yld.nilCheck rfl rfl) ?_
        refine WP.val rfl rfl rfl rfl (Yld.fieldAddr rfl ty_fd_95_3 rfl) ?_
        refine WP.loud rfl rfl ?_
        refine Op.store1 rfl rfl ty_sz_3 rfl rfl rfl (by repeat (first | exact Upd.head | apply Upd.tail | apply Upd.tailS)) (by repeat (first | exact SetAt.zero | apply SetAt.succ)) ?_
        refine WP.val rfl rfl rfl rfl (Yld.nilCheck rfl rfl) ?_
        refine WP.val rfl rfl rfl rfl (Yld.fieldAddr rfl ty_fd_95_4 rfl) ?_
        refine WP.loud rfl rfl ?_
        refine Op.store1 rfl rfl ty_sz_4 rfl rfl rfl (by repeat (first | exact Upd.head | apply Upd.tail | apply Upd.tailS)) (by repeat (first | exact SetAt.zero | apply SetAt.succ)) ?_
        refine WP.nil ?_
        refine WP.sub [(0, _), (2, _), (22, _), (28, _)] ?_ ⟨rfl, rfl, rfl, rfl, trivial⟩
        refine WP.leave ?_
        exact WP.meet () trivial ⟨rfl, trivial⟩ rfl (by rw [show aStep m.2 s = ({ m.2 with seen := s.v, loaded := true }, { s with l := inc s.l }) by unfold aStep; rw [if_neg h1, if_pos hb]]; exact (by (try dsimp only); repeat (first | exact Rm.chunk | exact Rm.here | exact Rm.nil0 | apply Rm.skip | apply Rm.skipS | apply PX.cons | (apply PX.done; (repeat (first | exact Leave.done | apply Leave.drop | apply Leave.dropS)); done) | apply PX.app)))
  · intro _ _
    refine WP.seq ?_
    refine WP.region [0, 1, 2, 3, 4, 5] rfl ?_
    refine WP.val rfl rfl rfl rfl (Yld.move rfl rfl) ?_
    refine WP.val rfl rfl rfl rfl (Yld.nilCheck rfl rfl) ?_
    refine WP.val rfl rfl rfl rfl (Yld.fieldAddr rfl ty_fd_95_1 rfl) ?_
    refine WP.val rfl rfl rfl rfl (Yld.load rfl ty_sc_3 rfl (by repeat (first | exact There.h | exact There.i (by assumption) | apply There.t | apply There.s)) rfl) ?_
    refine WP.val rfl rfl rfl rfl (Yld.lss rfl rfl rfl _ rfl) ?_
    refine WP.val rfl rfl rfl rfl (Yld.assign rfl rfl) ?_
    refine WP.nil ?_
    refine WP.sub [(0, _), (2, _)] ?_ ⟨rfl, rfl, trivial⟩
    refine WP.next ?_
    refine WP.ret ?_
    refine WP.fin .ret (.inr rfl) (res1 rfl rfl) [(m.1.a, row 95 [.pointer (some ⟨q, 0, none⟩), .int .i64 (aStep m.2 s).1.left, .int .i64 (aStep m.2 s).1.by_, .int .i64 (aStep m.2 s).1.seen, .bool (aStep m.2 s).1.loaded, putV m.1]), (m.1.s, row 4 [.bool (aStep m.2 s).1.safe]), (m.1.x, row 27 [.pointer (some ⟨q, 0, none⟩)]), (m.1.b, row 3 [.int .i64 (aStep m.2 s).1.by_]), (q, row 85 [.int .i64 (aStep m.2 s).2.v, .pointer (some ⟨c, 0, none⟩)]), (c, row 83 [.int .i64 (aStep m.2 s).2.l, .int .i64 (aStep m.2 s).2.s, .int .i64 (aStep m.2 s).2.sw, .int .i64 (aStep m.2 s).2.m, .int .i64 (aStep m.2 s).2.a])] (by repeat (first | exact Take.nil | with_reducible apply Take.cons | apply Take.app | exact Rm.chunk | exact Rm.here | exact Rm.nil0 | apply Rm.skip | apply Rm.skipS | (focus (apply Take.all; (repeat (first | exact Rm.chunk | exact Rm.here | exact Rm.nil0 | apply Rm.skip | apply Rm.skipS)); done)) | apply Take.cons)) (by repeat (first | exact Leave.done | apply Leave.drop | apply Leave.dropS)) (Imm.le_refl _) ?_
    exact ⟨rfl, rfl, rfl⟩

theorem loom_tStep {I : Imm} {q c : Nat} {m : Mb × Ad} {s : CS} (hl : m.2.left ≤ 9223372036854775807) : Spec Try.prog 42 [.pointer (some ⟨m.1.t, 0, none⟩)] I [(m.1.t, row 92 [.iface 93 (.pointer (some ⟨m.1.a, 0, none⟩)), .bool m.2.done, .int .i64 m.2.steps]), (m.1.a, row 95 [.pointer (some ⟨q, 0, none⟩), .int .i64 m.2.left, .int .i64 m.2.by_, .int .i64 m.2.seen, .bool m.2.loaded, putV m.1]), (m.1.s, row 4 [.bool m.2.safe]), (m.1.x, row 27 [.pointer (some ⟨q, 0, none⟩)]), (m.1.b, row 3 [.int .i64 m.2.by_]), (q, row 85 [.int .i64 s.v, .pointer (some ⟨c, 0, none⟩)]), (c, row 83 [.int .i64 s.l, .int .i64 s.s, .int .i64 s.sw, .int .i64 s.m, .int .i64 s.a])] (fun v J L => v = .tuple #[] ∧ I = J ∧ L = mach q (m.1, (tStep m.2 s).1) ++ csCh q c (tStep m.2 s).2) := by
  refine Spec.of Try.func42 rfl Try.ntmps42 (Nat.le_of_ble_eq_true rfl) (fun F => ?_)
  try simp only [List.cons_append, List.nil_append, List.append_assoc]
  dsimp only [argsEnv]
  refine WP.seq ?_
  refine WP.region [0, 1, 2, 3, 4, 5, 6, 7] rfl ?_
  refine WP.val rfl rfl rfl rfl (Yld.move rfl rfl) ?_
  refine WP.val rfl rfl rfl rfl (Yld.nilCheck rfl rfl) ?_
  refine WP.val rfl rfl rfl rfl (Yld.fieldAddr rfl ty_fd_92_2 rfl) ?_
  refine WP.val rfl rfl rfl rfl (Yld.load rfl ty_sc_3 rfl (by repeat (first | exact There.h | exact There.i (by assumption) | apply There.t | apply There.s)) rfl) ?_
  refine WP.val rfl rfl rfl rfl (Yld.add rfl rfl rfl) ?_
  refine WP.val rfl rfl rfl rfl (Yld.nilCheck rfl rfl) ?_
  refine WP.val rfl rfl rfl rfl (Yld.fieldAddr rfl ty_fd_92_2 rfl) ?_
  refine WP.loud rfl rfl ?_
  refine Op.store1 rfl rfl ty_sz_3 rfl rfl rfl (by repeat (first | exact Upd.head | apply Upd.tail | apply Upd.tailS)) (by repeat (first | exact SetAt.zero | apply SetAt.succ)) ?_
  refine WP.nil ?_
  refine WP.sub [(0, _)] ?_ ⟨rfl, trivial⟩
  refine WP.next ?_
  refine WP.region [0, 1, 2, 3, 4, 5, 6, 7, 8] rfl ?_
  refine WP.val rfl rfl rfl rfl (Yld.move rfl rfl) ?_
  refine WP.val rfl rfl rfl rfl (Yld.move rfl rfl) ?_
  refine WP.val rfl rfl rfl rfl (Yld.nilCheck rfl rfl) ?_
  refine WP.val rfl rfl rfl rfl (Yld.fieldAddr rfl ty_fd_92_0 rfl) ?_
  refine WP.val rfl rfl rfl rfl (Yld.load rfl ty_sc_33 rfl (by repeat (first | exact There.h | exact There.i (by assumption) | apply There.t | apply There.s)) rfl) ?_
  refine WP.loud rfl rfl ?_
  refine Op.callE (loom_aStep hl) (Enters.invoke rfl ty_mt_93_Step_77 Try.func77 rfl rfl (vs := []) rfl) rfl rfl (by repeat (first | exact Take.nil | with_reducible apply Take.cons | apply Take.app | exact Rm.chunk | exact Rm.here | exact Rm.nil0 | apply Rm.skip | apply Rm.skipS | (focus (apply Take.all; (repeat (first | exact Rm.chunk | exact Rm.here | exact Rm.nil0 | apply Rm.skip | apply Rm.skipS)); done)) | apply Take.cons)) ?_
  rintro v J L1 hJ ⟨rfl, rfl, rfl⟩
  clear hJ; try simp only [List.cons_append, List.nil_append, List.append_assoc]
  refine WP.val rfl rfl rfl rfl (Yld.nilCheck rfl rfl) ?_
  refine WP.val rfl rfl rfl rfl (Yld.fieldAddr rfl ty_fd_92_1 rfl) ?_
  refine WP.loud rfl rfl ?_
  refine Op.store1 rfl rfl ty_sz_4 rfl rfl rfl (by repeat (first | exact Upd.head | apply Upd.tail | apply Upd.tailS)) (by repeat (first | exact SetAt.zero | apply SetAt.succ)) ?_
  refine WP.nil ?_
  refine WP.sub [(0, _)] ?_ ⟨rfl, trivial⟩
  refine WP.fin .normal (.inl rfl) (res0 rfl) [(m.1.t, row 92 _), (m.1.a, row 95 _), (m.1.s, row 4 _), (m.1.x, row 27 _), (m.1.b, row 3 _), (q, row 85 _), (c, row 83 _)] (by repeat (first | exact Take.nil | with_reducible apply Take.cons | apply Take.app | exact Rm.chunk | exact Rm.here | exact Rm.nil0 | apply Rm.skip | apply Rm.skipS | (focus (apply Take.all; (repeat (first | exact Rm.chunk | exact Rm.here | exact Rm.nil0 | apply Rm.skip | apply Rm.skipS)); done)) | apply Take.cons)) (by repeat (first | exact Leave.done | apply Leave.drop | apply Leave.dropS)) (Imm.le_refl _) ?_
  exact ⟨rfl, rfl, rfl⟩


end Go.Hp
