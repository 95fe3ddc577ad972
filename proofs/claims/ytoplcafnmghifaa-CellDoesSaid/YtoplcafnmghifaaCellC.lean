import Derived.Test.YtoplcafnmghifaaCellA
import Derived.Test.YtoplcafnmghifaaHpList
set_option linter.unusedVariables false
set_option linter.unusedSimpArgs false
namespace Go.Hp
open Go Go.Proofs

theorem vals_get {now : List Int} {sp : List Value} {ce nv : Int} (hnv : now[ce.toNat]? = some nv) : (now.map (Value.int .i64) ++ sp)[0 + ce.toNat * 1]? = some (.int .i64 nv) := by
  have h : ce.toNat < now.length := (List.getElem?_eq_some_iff.1 hnv).1
  rw [Nat.zero_add, Nat.mul_one, List.getElem?_append_left (by simpa using h), List.getElem?_map, hnv]; rfl
theorem set_self {now : List Int} {ce nv : Int} (hnv : now[ce.toNat]? = some nv) : now.set ce.toNat nv = now := by
  apply List.ext_getElem?
  intro j
  by_cases h : j = ce.toNat
  · subst h
    have := (List.getElem?_eq_some_iff.1 hnv).1
    rw [hnv]; simp [this]
  · rw [List.getElem?_set_ne (Ne.symm h)]
theorem vals_set {now : List Int} {sp : List Value} {ce : Int} (v : Int) (h0 : 0 ≤ ce) (hi : ce < now.length) : SetAt (now.map (Value.int .i64) ++ sp) (0 + ce.toNat * 1) (.int .i64 v) ((now.set ce.toNat v).map (Value.int .i64) ++ sp) := by
  have h : ce.toNat < now.length := by omega
  have := SetAt.sym (l := now.map (Value.int .i64) ++ sp) (k := 0 + ce.toNat * 1) (v := .int .i64 v) (by simp; omega)
  rw [Nat.zero_add, Nat.mul_one] at this ⊢
  rw [List.set_append_left _ _ (by simpa using h)] at this
  simpa [List.map_set] using this
theorem cell_NewInt_nil {I : Imm} {v : Int} : Spec Try.prog 13 [.pointer none, .int .i64 v] I [] (fun v' J L => ∃ x c, v' = .pointer (some ⟨x, 0, none⟩) ∧ I = J ∧ L = [(x, row 83 [.int .i64 v, .pointer (some ⟨c, 0, none⟩)]), (c, row 81 [.int .i64 0, .int .i64 0, .int .i64 0, .int .i64 0, .int .i64 0])]) := by
  refine Spec.of Try.func13 rfl Try.ntmps13 (Nat.le_of_ble_eq_true rfl) (fun F => ?_)
  try simp only [List.cons_append, List.nil_append, List.append_assoc]
  dsimp only [argsEnv]
  refine WP.seq ?_
  refine WP.region [0] rfl ?_
  refine WP.val rfl rfl rfl rfl (Yld.assign rfl rfl) ?_
  refine WP.nil ?_
  refine WP.next ?_
  refine WP.seq ?_
  refine WP.seq ?_
  refine WP.region [0, 1] rfl ?_
  refine WP.val rfl rfl rfl rfl (Yld.move rfl rfl) ?_
  refine WP.val rfl rfl rfl rfl (Yld.eqlNil rfl ty_pt_24 rfl rfl) ?_
  refine WP.nil ?_
  refine WP.sub [(0, _), (1, _), (4, _), (7, _)] ?_ ⟨rfl, rfl, rfl, rfl, trivial⟩
  refine WP.next ?_
  refine WP.condT rfl ?_
  refine WP.region [0, 1] rfl ?_
  refine WP.loud rfl rfl ?_
  refine Op.call (cell_NewCount _) rfl Try.func12 rfl rfl rfl rfl (by repeat (first | exact Take.nil | apply Take.cons | apply Take.app | exact Rm.chunk | exact Rm.here | apply Rm.skip | apply Rm.skipS | apply Take.all)) ?_
  rintro v J L1 hJ ⟨c, rfl, rfl, rfl⟩
  clear hJ; try simp only [List.cons_append, List.nil_append, List.append_assoc]
  refine WP.val rfl rfl rfl rfl (Yld.assign rfl rfl) ?_
  refine WP.nil ?_
  refine WP.sub [(0, _), (1, _), (4, _), (7, _)] ?_ ⟨rfl, rfl, rfl, rfl, trivial⟩
  refine WP.next ?_
  refine WP.seq ?_
  refine WP.region [0, 1, 2, 3] rfl ?_
  refine WP.val rfl rfl rfl rfl (Yld.move rfl rfl) ?_
  refine WP.val rfl rfl rfl rfl (Yld.buildS (pl := [(1, 1, 1)]) rfl ty_zr_83 ty_zd_83 (by kernel_rfl) rfl (vs := [_]) rfl (segs := [(1, [_])]) rfl rfl (by repeat (first | exact SetSeg.nil | apply SetSeg.one | exact SetAt.zero | apply SetAt.succ))) ?_
  refine WP.loud rfl rfl ?_
  refine Op.box rfl rfl rfl rfl rfl (fun b11 => ?_)
  refine WP.val rfl rfl rfl rfl (Yld.assign rfl rfl) ?_
  refine WP.nil ?_
  refine WP.sub [(0, _), (1, _), (4, _), (5, _), (7, _)] ?_ ⟨rfl, rfl, rfl, rfl, rfl, trivial⟩
  refine WP.next ?_
  refine WP.seq ?_
  refine WP.region [0, 1, 2, 3, 4] rfl ?_
  refine WP.val rfl rfl rfl rfl (Yld.move rfl rfl) ?_
  refine WP.val rfl rfl rfl rfl (Yld.nilCheck rfl rfl) ?_
  refine WP.val rfl rfl rfl rfl (Yld.fieldAddr rfl ty_fd_83_0 rfl) ?_
  refine WP.val rfl rfl rfl rfl (Yld.move rfl rfl) ?_
  refine WP.loud rfl rfl ?_
  refine' Op.call (atStore ?hs) rfl Try.func36 rfl rfl rfl rfl (by repeat (first | exact Take.nil | apply Take.cons | apply Take.app | exact Rm.chunk | exact Rm.here | apply Rm.skip | apply Rm.skipS | apply Take.all)) ?_
  case hs => repeat (first | exact SetAt.zero | apply SetAt.succ)
  rintro v J L1 hJ ⟨rfl, rfl, rfl⟩
  clear hJ; try simp only [List.cons_append, List.nil_append, List.append_assoc]
  refine WP.nil ?_
  refine WP.sub [(0, _), (1, _), (4, _), (5, _), (7, _)] ?_ ⟨rfl, rfl, rfl, rfl, rfl, trivial⟩
  refine WP.next ?_
  refine WP.seq ?_
  refine WP.region [0, 1] rfl ?_
  refine WP.val rfl rfl rfl rfl (Yld.move rfl rfl) ?_
  refine WP.val rfl rfl rfl rfl (Yld.assign rfl rfl) ?_
  refine WP.nil ?_
  refine WP.sub [(0, _), (1, _), (4, _), (5, _), (7, _)] ?_ ⟨rfl, rfl, rfl, rfl, rfl, trivial⟩
  refine WP.next ?_
  refine WP.ret ?_
  refine WP.fin .ret (.inr rfl) (res1 rfl rfl) [(_, row 83 _), _] (by repeat (first | exact Take.nil | apply Take.cons | apply Take.app | exact Rm.chunk | exact Rm.here | apply Rm.skip | apply Rm.skipS | apply Take.all)) (by repeat (first | exact Leave.done | apply Leave.drop | apply Leave.dropS)) (Imm.le_refl _) ?_
  exact ⟨_, _, rfl, rfl, rfl⟩

theorem cell_Does {I : Imm} {now : List Int} {vn : Value} {Lo : Chunks} {l s sw m a k ce A B : Int} (hr : Own 3 1 vn (now.map (Value.int .i64)) now.length Lo) (hb : now.length * 8 ≤ 140737488355328) (h0 : 0 ≤ ce) (hi : ce < now.length) (hk0 : 0 ≤ k) (hk3 : k ≤ 3) {nv : Int} (hnv : now[ce.toNat]? = some nv) : Spec Try.prog 17 [vn, .agg #[.int .i64 l, .int .i64 s, .int .i64 sw, .int .i64 m, .int .i64 a], .agg #[.int .i64 k, .int .i64 ce, .int .i64 A, .int .i64 B]] I Lo (fun v J L => I = J ∧ ∃ v' Lo', Own 3 1 v' ((now.set ce.toNat (actSt k A B ⟨nv, l, s, sw, m, a⟩).1.v).map (Value.int .i64)) now.length Lo' ∧ v = .tuple #[v', .agg #[.int .i64 (actSt k A B ⟨nv, l, s, sw, m, a⟩).1.l, .int .i64 (actSt k A B ⟨nv, l, s, sw, m, a⟩).1.s, .int .i64 (actSt k A B ⟨nv, l, s, sw, m, a⟩).1.sw, .int .i64 (actSt k A B ⟨nv, l, s, sw, m, a⟩).1.m, .int .i64 (actSt k A B ⟨nv, l, s, sw, m, a⟩).1.a], .int .i64 (actSt k A B ⟨nv, l, s, sw, m, a⟩).2] ∧ L = Lo ++ Lo') := by
  refine Spec.of Try.func17 rfl Try.ntmps17 (Nat.le_of_ble_eq_true rfl) (fun F => ?_)
  try simp only [List.cons_append, List.nil_append, List.append_assoc]
  dsimp only [argsEnv]
  refine WP.seq ?_
  refine WP.region [0, 1, 2, 3, 4] rfl ?_
  refine WP.loud rfl rfl ?_
  refine Op.box rfl rfl rfl rfl rfl (fun b4 => ?_)
  refine WP.loud rfl rfl ?_
  refine Op.box rfl rfl rfl rfl rfl (fun b5 => ?_)
  refine WP.val rfl rfl rfl rfl (Yld.assign rfl rfl) ?_
  refine WP.loud rfl rfl ?_
  refine Op.alloc rfl rfl rfl ty_zr_31 (fun b7 => ?_)
  refine WP.val rfl rfl rfl rfl (Yld.assign rfl rfl) ?_
  refine WP.nil ?_
  refine WP.next ?_
  refine WP.seq ?_
  refine WP.region [0, 1, 2] rfl ?_
  refine WP.val rfl rfl rfl rfl (Yld.move rfl rfl) ?_
  refine WP.loud rfl rfl ?_
  refine Op.append rfl ty_sl_22 ty_el_22 rfl rfl rfl rfl rfl .none0 (hr.rd (fun p hp => by simp [hp])) Take.nil (by simp [List.all_eq_true, Value.oneCell']) (by omega) (by omega) (fun v' Lo' ho => ?_)
  simp only [List.nil_append, Nat.zero_add] at ho
  obtain ⟨bo, co, sp, rfl, rfl, h5, h6⟩ := ho.get (by omega)
  simp only [List.cons_append, List.nil_append, List.append_assoc]
  refine WP.val rfl rfl rfl rfl (Yld.assign rfl rfl) ?_
  refine WP.nil ?_
  refine WP.sub [(0, _), (1, _), (2, _), (4, _), (5, _), (6, _), (7, _), (8, _), (9, _)] ?_ ⟨rfl, rfl, rfl, rfl, rfl, rfl, rfl, rfl, rfl, trivial⟩
  refine WP.next ?_
  refine WP.seq ?_
  refine WP.region [0, 1, 2, 3, 4, 5] rfl ?_
  refine WP.val rfl rfl rfl rfl (Yld.move rfl rfl) ?_
  refine WP.val rfl rfl rfl rfl (Yld.fieldAddr rfl ty_fd_37_1 rfl) ?_
  refine WP.val rfl rfl rfl rfl (Yld.load rfl ty_sc_3 rfl (by repeat (first | exact There.h | exact There.i (by assumption) | apply There.t | apply There.s)) rfl) ?_
  refine WP.val rfl rfl rfl rfl (Yld.indexAddrI rfl ty_sl_22 rfl rfl h0 hi) ?_
  refine WP.val rfl rfl rfl rfl (Yld.load rfl ty_sc_3 rfl (by repeat (first | exact There.h | exact There.i (by assumption) | apply There.t | apply There.s)) (vals_get hnv)) ?_
  refine WP.val rfl rfl rfl rfl (Yld.assign rfl rfl) ?_
  refine WP.nil ?_
  refine WP.sub [(0, _), (1, _), (2, _), (4, _), (5, _), (6, _), (7, _), (8, _), (9, _), (10, _)] ?_ ⟨rfl, rfl, rfl, rfl, rfl, rfl, rfl, rfl, rfl, rfl, trivial⟩
  refine WP.next ?_
  refine WP.seq ?_
  refine WP.region [0] rfl ?_
  refine WP.val rfl rfl rfl rfl (Yld.assign rfl rfl) ?_
  refine WP.nil ?_
  refine WP.next ?_
  refine WP.seq ?_
  refine WP.seq ?_
  refine WP.region [0, 1] rfl ?_
  refine WP.val rfl rfl rfl rfl (Yld.fieldAddr rfl ty_fd_37_0 rfl) ?_
  refine WP.val rfl rfl rfl rfl (Yld.load rfl ty_sc_3 rfl (by repeat (first | exact There.h | exact There.i (by assumption) | apply There.t | apply There.s)) rfl) ?_
  refine WP.nil ?_
  refine WP.sub [(0, _), (1, _), (2, _), (4, _), (5, _), (6, _), (7, _), (8, _), (9, _), (10, _), (11, _), (20, _)] ?_ ⟨rfl, rfl, rfl, rfl, rfl, rfl, rfl, rfl, rfl, rfl, rfl, rfl, trivial⟩
  refine WP.next ?_
  refine WP.block ?_
  refine WP.seq ?_
  refine WP.region [0, 1] rfl ?_
  refine WP.split rfl rfl rfl rfl (Yld.eql rfl rfl rfl) (fun hk => ?_) (fun hk => ?_)
  · refine WP.val rfl rfl rfl rfl (Yld.assign rfl rfl) ?_
    refine WP.nil ?_
    refine WP.sub [(0, _), (1, _), (2, _), (4, _), (5, _), (6, _), (7, _), (8, _), (9, _), (10, _), (11, _), (20, _), (21, _)] ?_ ⟨rfl, rfl, rfl, rfl, rfl, rfl, rfl, rfl, rfl, rfl, rfl, rfl, rfl, trivial⟩
    refine WP.next ?_
    refine WP.condT rfl ?_
    refine WP.seq ?_
    refine WP.region [0, 1, 2, 3, 4] rfl ?_
    refine WP.val rfl rfl rfl rfl (Yld.fieldAddr rfl ty_fd_31_0 rfl) ?_
    refine WP.val rfl rfl rfl rfl (Yld.load rfl ty_sc_3 rfl (by repeat (first | exact There.h | exact There.i (by assumption) | apply There.t | apply There.s)) rfl) ?_
    refine WP.val rfl rfl rfl rfl (Yld.add rfl rfl rfl) ?_
    refine WP.val rfl rfl rfl rfl (Yld.fieldAddr rfl ty_fd_31_0 rfl) ?_
    refine WP.loud rfl rfl ?_
    refine Op.store1 rfl rfl ty_sz_3 rfl rfl rfl (by repeat (first | exact Upd.head | apply Upd.tail | apply Upd.tailS)) (by repeat (first | exact SetAt.zero | apply SetAt.succ)) ?_
    refine WP.nil ?_
    refine WP.sub [(0, _), (1, _), (2, _), (4, _), (5, _), (6, _), (7, _), (8, _), (9, _), (10, _), (11, _), (20, _), (21, _)] ?_ ⟨rfl, rfl, rfl, rfl, rfl, rfl, rfl, rfl, rfl, rfl, rfl, rfl, rfl, trivial⟩
    refine WP.next ?_
    refine WP.region [0, 1] rfl ?_
    refine WP.val rfl rfl rfl rfl (Yld.move rfl rfl) ?_
    refine WP.val rfl rfl rfl rfl (Yld.assign rfl rfl) ?_
    refine WP.nil ?_
    refine WP.sub [(0, _), (1, _), (2, _), (4, _), (5, _), (6, _), (7, _), (8, _), (9, _), (10, _), (11, _), (20, _), (21, _)] ?_ ⟨rfl, rfl, rfl, rfl, rfl, rfl, rfl, rfl, rfl, rfl, rfl, rfl, rfl, trivial⟩
    refine WP.leave ?_
    refine WP.next ?_
    refine WP.seq ?_
    refine WD.start Trymixed 4 (There I _) (fun _ _ => False) (fun _ _ h => h) (fun _ _ h => h.elim) 6 [false, false, false, false, false, false] rfl rfl ?_
    refine WD.val (i := 0) rfl rfl rfl rfl (by kernel_rfl) rfl (Yld.move rfl rfl) ?_
    refine WD.val1 (i := 1) rfl rfl rfl rfl (by kernel_rfl) rfl (by kernel_rfl) (Yld.loadAll rfl ty_ag_31 rfl (.inl (by repeat (first | exact There.h | exact There.i (by assumption) | apply There.t | apply There.s))) rfl) ?_
    refine WD.val (i := 2) rfl rfl rfl rfl (by kernel_rfl) rfl (Yld.move rfl rfl) ?_
    refine WD.val (i := 3) rfl rfl rfl rfl (by kernel_rfl) rfl (Yld.assign rfl rfl) ?_
    refine WD.loud (i := 4) (by kernel_rfl) rfl rfl rfl ?_
    refine Op.storeAll rfl rfl ty_sz_31 rfl rfl rfl rfl (by repeat (first | exact Upd.head | apply Upd.tail | apply Upd.tailS)) rfl ?_
    refine WD.go (.inl rfl) (fun _ _ h => h.elim) ?_
    refine WD.val (i := 5) rfl rfl rfl rfl (by kernel_rfl) rfl (Yld.assign rfl rfl) ?_
    refine WD.done (by kernel_rfl) ?_
    refine WP.sub [(0, _), (1, _), (2, _), (4, _), (5, _), (6, _), (7, _), (8, _), (9, _), (10, _), (11, _), (20, _), (21, _)] ?_ ⟨rfl, rfl, rfl, rfl, rfl, rfl, rfl, rfl, rfl, rfl, rfl, rfl, rfl, trivial⟩
    refine WP.next ?_
    refine WP.ret ?_
    refine WP.fin .ret (.inr rfl) (resT (rs := [.tmp 6, .cell 7 31, .tmp 8]) (vs := [_, _, _]) rfl ⟨rfl, ⟨_, _, _, _, rfl, (by repeat (first | exact There.h | exact There.i (by assumption) | apply There.t | apply There.s)), .inl ⟨ty_ag_31, by rfl, rfl⟩⟩, rfl, trivial⟩ rfl) (Lo ++ [(bo, row 3 _)]) (by repeat (first | exact Take.nil | apply Take.cons | apply Take.app | exact Rm.chunk | exact Rm.here | apply Rm.skip | apply Rm.skipS | apply Take.all)) (by repeat (first | exact Leave.done | apply Leave.drop | apply Leave.dropS)) (Imm.le_refl _) ?_
    have hself := set_self hnv
    have hself2 := congrArg (List.map (Value.int .i64)) hself
    rw [List.map_set] at hself2
    refine ⟨rfl, _, _, .blk (b := bo) (cap := co) (sp := sp) (xs := (now.set ce.toNat (actSt k A B ⟨nv, l, s, sw, m, a⟩).1.v).map (Value.int .i64)) (by simp) (by simpa using h5) h6, ?_, ?_⟩ <;> simp_all [actSt, inc]
  · refine WP.val rfl rfl rfl rfl (Yld.assign rfl rfl) ?_
    refine WP.nil ?_
    refine WP.sub [(0, _), (1, _), (2, _), (4, _), (5, _), (6, _), (7, _), (8, _), (9, _), (10, _), (11, _), (20, _), (21, _)] ?_ ⟨rfl, rfl, rfl, rfl, rfl, rfl, rfl, rfl, rfl, rfl, rfl, rfl, rfl, trivial⟩
    refine WP.next ?_
    refine WP.condF rfl ?_
    refine WP.seq ?_
    refine WP.region [0, 1] rfl ?_
    refine WP.split rfl rfl rfl rfl (Yld.eql rfl rfl rfl) (fun hk => ?_) (fun hk => ?_)
    · refine WP.val rfl rfl rfl rfl (Yld.assign rfl rfl) ?_
      refine WP.nil ?_
      refine WP.sub [(0, _), (1, _), (2, _), (4, _), (5, _), (6, _), (7, _), (8, _), (9, _), (10, _), (11, _), (20, _), (21, _), (28, _)] ?_ ⟨rfl, rfl, rfl, rfl, rfl, rfl, rfl, rfl, rfl, rfl, rfl, rfl, rfl, rfl, trivial⟩
      refine WP.next ?_
      refine WP.condT rfl ?_
      refine WP.seq ?_
      refine WP.region [0, 1, 2, 3, 4] rfl ?_
      refine WP.val rfl rfl rfl rfl (Yld.fieldAddr rfl ty_fd_31_1 rfl) ?_
      refine WP.val rfl rfl rfl rfl (Yld.load rfl ty_sc_3 rfl (by repeat (first | exact There.h | exact There.i (by assumption) | apply There.t | apply There.s)) rfl) ?_
      refine WP.val rfl rfl rfl rfl (Yld.add rfl rfl rfl) ?_
      refine WP.val rfl rfl rfl rfl (Yld.fieldAddr rfl ty_fd_31_1 rfl) ?_
      refine WP.loud rfl rfl ?_
      refine Op.store1 rfl rfl ty_sz_3 rfl rfl rfl (by repeat (first | exact Upd.head | apply Upd.tail | apply Upd.tailS)) (by repeat (first | exact SetAt.zero | apply SetAt.succ)) ?_
      refine WP.nil ?_
      refine WP.sub [(0, _), (1, _), (2, _), (4, _), (5, _), (6, _), (7, _), (8, _), (9, _), (10, _), (11, _), (20, _), (21, _), (28, _)] ?_ ⟨rfl, rfl, rfl, rfl, rfl, rfl, rfl, rfl, rfl, rfl, rfl, rfl, rfl, rfl, trivial⟩
      refine WP.next ?_
      refine WP.region [0, 1, 2, 3, 4, 5, 6] rfl ?_
      refine WP.val rfl rfl rfl rfl (Yld.move rfl rfl) ?_
      refine WP.val rfl rfl rfl rfl (Yld.fieldAddr rfl ty_fd_37_1 rfl) ?_
      refine WP.val rfl rfl rfl rfl (Yld.load rfl ty_sc_3 rfl (by repeat (first | exact There.h | exact There.i (by assumption) | apply There.t | apply There.s)) rfl) ?_
      refine WP.val rfl rfl rfl rfl (Yld.fieldAddr rfl ty_fd_37_2 rfl) ?_
      refine WP.val rfl rfl rfl rfl (Yld.load rfl ty_sc_3 rfl (by repeat (first | exact There.h | exact There.i (by assumption) | apply There.t | apply There.s)) rfl) ?_
      refine WP.val rfl rfl rfl rfl (Yld.indexAddrI rfl ty_sl_22 rfl rfl h0 hi) ?_
      refine WP.loud rfl rfl ?_
      refine Op.store1 rfl rfl ty_sz_3 rfl rfl rfl (by repeat (first | exact Upd.head | apply Upd.tail | apply Upd.tailS)) (vals_set _ h0 hi) ?_
      refine WP.nil ?_
      refine WP.sub [(0, _), (1, _), (2, _), (4, _), (5, _), (6, _), (7, _), (8, _), (9, _), (10, _), (11, _), (20, _), (21, _), (28, _)] ?_ ⟨rfl, rfl, rfl, rfl, rfl, rfl, rfl, rfl, rfl, rfl, rfl, rfl, rfl, rfl, trivial⟩
      refine WP.leave ?_
      refine WP.next ?_
      refine WP.seq ?_
      refine WD.start Trymixed 4 (There I _) (fun _ _ => False) (fun _ _ h => h) (fun _ _ h => h.elim) 6 [false, false, false, false, false, false] rfl rfl ?_
      refine WD.val (i := 0) rfl rfl rfl rfl (by kernel_rfl) rfl (Yld.move rfl rfl) ?_
      refine WD.val1 (i := 1) rfl rfl rfl rfl (by kernel_rfl) rfl (by kernel_rfl) (Yld.loadAll rfl ty_ag_31 rfl (.inl (by repeat (first | exact There.h | exact There.i (by assumption) | apply There.t | apply There.s))) rfl) ?_
      refine WD.val (i := 2) rfl rfl rfl rfl (by kernel_rfl) rfl (Yld.move rfl rfl) ?_
      refine WD.val (i := 3) rfl rfl rfl rfl (by kernel_rfl) rfl (Yld.assign rfl rfl) ?_
      refine WD.loud (i := 4) (by kernel_rfl) rfl rfl rfl ?_
      refine Op.storeAll rfl rfl ty_sz_31 rfl rfl rfl rfl (by repeat (first | exact Upd.head | apply Upd.tail | apply Upd.tailS)) rfl ?_
      refine WD.go (.inl rfl) (fun _ _ h => h.elim) ?_
      refine WD.val (i := 5) rfl rfl rfl rfl (by kernel_rfl) rfl (Yld.assign rfl rfl) ?_
      refine WD.done (by kernel_rfl) ?_
      refine WP.sub [(0, _), (1, _), (2, _), (4, _), (5, _), (6, _), (7, _), (8, _), (9, _), (10, _), (11, _), (20, _), (21, _), (28, _)] ?_ ⟨rfl, rfl, rfl, rfl, rfl, rfl, rfl, rfl, rfl, rfl, rfl, rfl, rfl, rfl, trivial⟩
      refine WP.next ?_
      refine WP.ret ?_
      refine WP.fin .ret (.inr rfl) (resT (rs := [.tmp 6, .cell 7 31, .tmp 8]) (vs := [_, _, _]) rfl ⟨rfl, ⟨_, _, _, _, rfl, (by repeat (first | exact There.h | exact There.i (by assumption) | apply There.t | apply There.s)), .inl ⟨ty_ag_31, by rfl, rfl⟩⟩, rfl, trivial⟩ rfl) (Lo ++ [(bo, row 3 _)]) (by repeat (first | exact Take.nil | apply Take.cons | apply Take.app | exact Rm.chunk | exact Rm.here | apply Rm.skip | apply Rm.skipS | apply Take.all)) (by repeat (first | exact Leave.done | apply Leave.drop | apply Leave.dropS)) (Imm.le_refl _) ?_
      have hself := set_self hnv
      have hself2 := congrArg (List.map (Value.int .i64)) hself
      rw [List.map_set] at hself2
      refine ⟨rfl, _, _, .blk (b := bo) (cap := co) (sp := sp) (xs := (now.set ce.toNat (actSt k A B ⟨nv, l, s, sw, m, a⟩).1.v).map (Value.int .i64)) (by simp) (by simpa using h5) h6, ?_, ?_⟩ <;> simp_all [actSt, inc]
    · refine WP.val rfl rfl rfl rfl (Yld.assign rfl rfl) ?_
      refine WP.nil ?_
      refine WP.sub [(0, _), (1, _), (2, _), (4, _), (5, _), (6, _), (7, _), (8, _), (9, _), (10, _), (11, _), (20, _), (21, _), (28, _)] ?_ ⟨rfl, rfl, rfl, rfl, rfl, rfl, rfl, rfl, rfl, rfl, rfl, rfl, rfl, rfl, trivial⟩
      refine WP.next ?_
      refine WP.condF rfl ?_
      refine WP.seq ?_
      refine WP.region [0, 1] rfl ?_
      refine WP.split rfl rfl rfl rfl (Yld.eql rfl rfl rfl) (fun hk => ?_) (fun hk => ?_)
      · refine WP.val rfl rfl rfl rfl (Yld.assign rfl rfl) ?_
        refine WP.nil ?_
        refine WP.sub [(0, _), (1, _), (2, _), (4, _), (5, _), (6, _), (7, _), (8, _), (9, _), (10, _), (11, _), (20, _), (21, _), (28, _), (40, _)] ?_ ⟨rfl, rfl, rfl, rfl, rfl, rfl, rfl, rfl, rfl, rfl, rfl, rfl, rfl, rfl, rfl, trivial⟩
        refine WP.next ?_
        refine WP.condT rfl ?_
        refine WP.seq ?_
        refine WP.region [0, 1, 2, 3] rfl ?_
        refine WP.val rfl rfl rfl rfl (Yld.move rfl rfl) ?_
        refine WP.val rfl rfl rfl rfl (Yld.fieldAddr rfl ty_fd_37_2 rfl) ?_
        refine WP.val rfl rfl rfl rfl (Yld.load rfl ty_sc_3 rfl (by repeat (first | exact There.h | exact There.i (by assumption) | apply There.t | apply There.s)) rfl) ?_
        refine WP.split rfl rfl rfl rfl (Yld.eql rfl rfl rfl) (fun hv => ?_) (fun hv => ?_)
        · refine WP.nil ?_
          refine WP.sub [(0, _), (1, _), (2, _), (4, _), (5, _), (6, _), (7, _), (8, _), (9, _), (10, _), (11, _), (20, _), (21, _), (28, _), (40, _), (45, _)] ?_ ⟨rfl, rfl, rfl, rfl, rfl, rfl, rfl, rfl, rfl, rfl, rfl, rfl, rfl, rfl, rfl, rfl, trivial⟩
          refine WP.next ?_
          refine WP.condT rfl ?_
          refine WP.seq ?_
          refine WP.region [0, 1, 2, 3, 4] rfl ?_
          refine WP.val rfl rfl rfl rfl (Yld.fieldAddr rfl ty_fd_31_2 rfl) ?_
          refine WP.val rfl rfl rfl rfl (Yld.load rfl ty_sc_3 rfl (by repeat (first | exact There.h | exact There.i (by assumption) | apply There.t | apply There.s)) rfl) ?_
          refine WP.val rfl rfl rfl rfl (Yld.add rfl rfl rfl) ?_
          refine WP.val rfl rfl rfl rfl (Yld.fieldAddr rfl ty_fd_31_2 rfl) ?_
          refine WP.loud rfl rfl ?_
          refine Op.store1 rfl rfl ty_sz_3 rfl rfl rfl (by repeat (first | exact Upd.head | apply Upd.tail | apply Upd.tailS)) (by repeat (first | exact SetAt.zero | apply SetAt.succ)) ?_
          refine WP.nil ?_
          refine WP.sub [(0, _), (1, _), (2, _), (4, _), (5, _), (6, _), (7, _), (8, _), (9, _), (10, _), (11, _), (20, _), (21, _), (28, _), (40, _), (45, _)] ?_ ⟨rfl, rfl, rfl, rfl, rfl, rfl, rfl, rfl, rfl, rfl, rfl, rfl, rfl, rfl, rfl, rfl, trivial⟩
          refine WP.next ?_
          refine WP.seq ?_
          refine WP.region [0, 1, 2, 3, 4, 5, 6] rfl ?_
          refine WP.val rfl rfl rfl rfl (Yld.move rfl rfl) ?_
          refine WP.val rfl rfl rfl rfl (Yld.fieldAddr rfl ty_fd_37_1 rfl) ?_
          refine WP.val rfl rfl rfl rfl (Yld.load rfl ty_sc_3 rfl (by repeat (first | exact There.h | exact There.i (by assumption) | apply There.t | apply There.s)) rfl) ?_
          refine WP.val rfl rfl rfl rfl (Yld.fieldAddr rfl ty_fd_37_3 rfl) ?_
          refine WP.val rfl rfl rfl rfl (Yld.load rfl ty_sc_3 rfl (by repeat (first | exact There.h | exact There.i (by assumption) | apply There.t | apply There.s)) rfl) ?_
          refine WP.val rfl rfl rfl rfl (Yld.indexAddrI rfl ty_sl_22 rfl rfl h0 hi) ?_
          refine WP.loud rfl rfl ?_
          refine Op.store1 rfl rfl ty_sz_3 rfl rfl rfl (by repeat (first | exact Upd.head | apply Upd.tail | apply Upd.tailS)) (vals_set _ h0 hi) ?_
          refine WP.nil ?_
          refine WP.sub [(0, _), (1, _), (2, _), (4, _), (5, _), (6, _), (7, _), (8, _), (9, _), (10, _), (11, _), (20, _), (21, _), (28, _), (40, _), (45, _)] ?_ ⟨rfl, rfl, rfl, rfl, rfl, rfl, rfl, rfl, rfl, rfl, rfl, rfl, rfl, rfl, rfl, rfl, trivial⟩
          refine WP.next ?_
          refine WP.region [0] rfl ?_
          refine WP.val rfl rfl rfl rfl (Yld.assign rfl rfl) ?_
          refine WP.nil ?_
          refine WP.leave ?_
          refine WP.next ?_
          refine WP.seq ?_
          refine WD.start Trymixed 4 (There I _) (fun _ _ => False) (fun _ _ h => h) (fun _ _ h => h.elim) 6 [false, false, false, false, false, false] rfl rfl ?_
          refine WD.val (i := 0) rfl rfl rfl rfl (by kernel_rfl) rfl (Yld.move rfl rfl) ?_
          refine WD.val1 (i := 1) rfl rfl rfl rfl (by kernel_rfl) rfl (by kernel_rfl) (Yld.loadAll rfl ty_ag_31 rfl (.inl (by repeat (first | exact There.h | exact There.i (by assumption) | apply There.t | apply There.s))) rfl) ?_
          refine WD.val (i := 2) rfl rfl rfl rfl (by kernel_rfl) rfl (Yld.move rfl rfl) ?_
          refine WD.val (i := 3) rfl rfl rfl rfl (by kernel_rfl) rfl (Yld.assign rfl rfl) ?_
          refine WD.loud (i := 4) (by kernel_rfl) rfl rfl rfl ?_
          refine Op.storeAll rfl rfl ty_sz_31 rfl rfl rfl rfl (by repeat (first | exact Upd.head | apply Upd.tail | apply Upd.tailS)) rfl ?_
          refine WD.go (.inl rfl) (fun _ _ h => h.elim) ?_
          refine WD.val (i := 5) rfl rfl rfl rfl (by kernel_rfl) rfl (Yld.assign rfl rfl) ?_
          refine WD.done (by kernel_rfl) ?_
          refine WP.sub [(0, _), (1, _), (2, _), (4, _), (5, _), (6, _), (7, _), (8, _), (9, _), (10, _), (11, _), (20, _), (21, _), (28, _), (40, _), (45, _)] ?_ ⟨rfl, rfl, rfl, rfl, rfl, rfl, rfl, rfl, rfl, rfl, rfl, rfl, rfl, rfl, rfl, rfl, trivial⟩
          refine WP.next ?_
          refine WP.ret ?_
          refine WP.fin .ret (.inr rfl) (resT (rs := [.tmp 6, .cell 7 31, .tmp 8]) (vs := [_, _, _]) rfl ⟨rfl, ⟨_, _, _, _, rfl, (by repeat (first | exact There.h | exact There.i (by assumption) | apply There.t | apply There.s)), .inl ⟨ty_ag_31, by rfl, rfl⟩⟩, rfl, trivial⟩ rfl) (Lo ++ [(bo, row 3 _)]) (by repeat (first | exact Take.nil | apply Take.cons | apply Take.app | exact Rm.chunk | exact Rm.here | apply Rm.skip | apply Rm.skipS | apply Take.all)) (by repeat (first | exact Leave.done | apply Leave.drop | apply Leave.dropS)) (Imm.le_refl _) ?_
          have hself := set_self hnv
          have hself2 := congrArg (List.map (Value.int .i64)) hself
          rw [List.map_set] at hself2
          refine ⟨rfl, _, _, .blk (b := bo) (cap := co) (sp := sp) (xs := (now.set ce.toNat (actSt k A B ⟨nv, l, s, sw, m, a⟩).1.v).map (Value.int .i64)) (by simp) (by simpa using h5) h6, ?_, ?_⟩ <;> simp_all [actSt, inc]
        · refine WP.nil ?_
          refine WP.sub [(0, _), (1, _), (2, _), (4, _), (5, _), (6, _), (7, _), (8, _), (9, _), (10, _), (11, _), (20, _), (21, _), (28, _), (40, _), (45, _)] ?_ ⟨rfl, rfl, rfl, rfl, rfl, rfl, rfl, rfl, rfl, rfl, rfl, rfl, rfl, rfl, rfl, rfl, trivial⟩
          refine WP.next ?_
          refine WP.condF rfl ?_
          refine WP.region [0, 1, 2, 3, 4] rfl ?_
          refine WP.val rfl rfl rfl rfl (Yld.fieldAddr rfl ty_fd_31_3 rfl) ?_
          refine WP.val rfl rfl rfl rfl (Yld.load rfl ty_sc_3 rfl (by repeat (first | exact There.h | exact There.i (by assumption) | apply There.t | apply There.s)) rfl) ?_
          refine WP.val rfl rfl rfl rfl (Yld.add rfl rfl rfl) ?_
          refine WP.val rfl rfl rfl rfl (Yld.fieldAddr rfl ty_fd_31_3 rfl) ?_
          refine WP.loud rfl rfl ?_
          refine Op.store1 rfl rfl ty_sz_3 rfl rfl rfl (by repeat (first | exact Upd.head | apply Upd.tail | apply Upd.tailS)) (by repeat (first | exact SetAt.zero | apply SetAt.succ)) ?_
          refine WP.nil ?_
          refine WP.sub [(0, _), (1, _), (2, _), (4, _), (5, _), (6, _), (7, _), (8, _), (9, _), (10, _), (11, _), (20, _), (21, _), (28, _), (40, _), (45, _)] ?_ ⟨rfl, rfl, rfl, rfl, rfl, rfl, rfl, rfl, rfl, rfl, rfl, rfl, rfl, rfl, rfl, rfl, trivial⟩
          refine WP.leave ?_
          refine WP.next ?_
          refine WP.seq ?_
          refine WD.start Trymixed 4 (There I _) (fun _ _ => False) (fun _ _ h => h) (fun _ _ h => h.elim) 6 [false, false, false, false, false, false] rfl rfl ?_
          refine WD.val (i := 0) rfl rfl rfl rfl (by kernel_rfl) rfl (Yld.move rfl rfl) ?_
          refine WD.val1 (i := 1) rfl rfl rfl rfl (by kernel_rfl) rfl (by kernel_rfl) (Yld.loadAll rfl ty_ag_31 rfl (.inl (by repeat (first | exact There.h | exact There.i (by assumption) | apply There.t | apply There.s))) rfl) ?_
          refine WD.val (i := 2) rfl rfl rfl rfl (by kernel_rfl) rfl (Yld.move rfl rfl) ?_
          refine WD.val (i := 3) rfl rfl rfl rfl (by kernel_rfl) rfl (Yld.assign rfl rfl) ?_
          refine WD.loud (i := 4) (by kernel_rfl) rfl rfl rfl ?_
          refine Op.storeAll rfl rfl ty_sz_31 rfl rfl rfl rfl (by repeat (first | exact Upd.head | apply Upd.tail | apply Upd.tailS)) rfl ?_
          refine WD.go (.inl rfl) (fun _ _ h => h.elim) ?_
          refine WD.val (i := 5) rfl rfl rfl rfl (by kernel_rfl) rfl (Yld.assign rfl rfl) ?_
          refine WD.done (by kernel_rfl) ?_
          refine WP.sub [(0, _), (1, _), (2, _), (4, _), (5, _), (6, _), (7, _), (8, _), (9, _), (10, _), (11, _), (20, _), (21, _), (28, _), (40, _), (45, _)] ?_ ⟨rfl, rfl, rfl, rfl, rfl, rfl, rfl, rfl, rfl, rfl, rfl, rfl, rfl, rfl, rfl, rfl, trivial⟩
          refine WP.next ?_
          refine WP.ret ?_
          refine WP.fin .ret (.inr rfl) (resT (rs := [.tmp 6, .cell 7 31, .tmp 8]) (vs := [_, _, _]) rfl ⟨rfl, ⟨_, _, _, _, rfl, (by repeat (first | exact There.h | exact There.i (by assumption) | apply There.t | apply There.s)), .inl ⟨ty_ag_31, by rfl, rfl⟩⟩, rfl, trivial⟩ rfl) (Lo ++ [(bo, row 3 _)]) (by repeat (first | exact Take.nil | apply Take.cons | apply Take.app | exact Rm.chunk | exact Rm.here | apply Rm.skip | apply Rm.skipS | apply Take.all)) (by repeat (first | exact Leave.done | apply Leave.drop | apply Leave.dropS)) (Imm.le_refl _) ?_
          have hself := set_self hnv
          have hself2 := congrArg (List.map (Value.int .i64)) hself
          rw [List.map_set] at hself2
          refine ⟨rfl, _, _, .blk (b := bo) (cap := co) (sp := sp) (xs := (now.set ce.toNat (actSt k A B ⟨nv, l, s, sw, m, a⟩).1.v).map (Value.int .i64)) (by simp) (by simpa using h5) h6, ?_, ?_⟩ <;> simp_all [actSt, inc]
      · refine WP.val rfl rfl rfl rfl (Yld.assign rfl rfl) ?_
        refine WP.nil ?_
        refine WP.sub [(0, _), (1, _), (2, _), (4, _), (5, _), (6, _), (7, _), (8, _), (9, _), (10, _), (11, _), (20, _), (21, _), (28, _), (40, _)] ?_ ⟨rfl, rfl, rfl, rfl, rfl, rfl, rfl, rfl, rfl, rfl, rfl, rfl, rfl, rfl, rfl, trivial⟩
        refine WP.next ?_
        refine WP.condF rfl ?_
        refine WP.seq ?_
        refine WP.region [0, 1] rfl ?_
        refine WP.split rfl rfl rfl rfl (Yld.eql rfl rfl rfl) (fun hk => ?_) (fun hk => ?_)
        · refine WP.val rfl rfl rfl rfl (Yld.assign rfl rfl) ?_
          refine WP.nil ?_
          refine WP.sub [(0, _), (1, _), (2, _), (4, _), (5, _), (6, _), (7, _), (8, _), (9, _), (10, _), (11, _), (20, _), (21, _), (28, _), (40, _), (60, _)] ?_ ⟨rfl, rfl, rfl, rfl, rfl, rfl, rfl, rfl, rfl, rfl, rfl, rfl, rfl, rfl, rfl, rfl, trivial⟩
          refine WP.next ?_
          refine WP.condT rfl ?_
          refine WP.seq ?_
          refine WP.region [0, 1, 2, 3, 4] rfl ?_
          refine WP.val rfl rfl rfl rfl (Yld.fieldAddr rfl ty_fd_31_4 rfl) ?_
          refine WP.val rfl rfl rfl rfl (Yld.load rfl ty_sc_3 rfl (by repeat (first | exact There.h | exact There.i (by assumption) | apply There.t | apply There.s)) rfl) ?_
          refine WP.val rfl rfl rfl rfl (Yld.add rfl rfl rfl) ?_
          refine WP.val rfl rfl rfl rfl (Yld.fieldAddr rfl ty_fd_31_4 rfl) ?_
          refine WP.loud rfl rfl ?_
          refine Op.store1 rfl rfl ty_sz_3 rfl rfl rfl (by repeat (first | exact Upd.head | apply Upd.tail | apply Upd.tailS)) (by repeat (first | exact SetAt.zero | apply SetAt.succ)) ?_
          refine WP.nil ?_
          refine WP.sub [(0, _), (1, _), (2, _), (4, _), (5, _), (6, _), (7, _), (8, _), (9, _), (10, _), (11, _), (20, _), (21, _), (28, _), (40, _), (60, _)] ?_ ⟨rfl, rfl, rfl, rfl, rfl, rfl, rfl, rfl, rfl, rfl, rfl, rfl, rfl, rfl, rfl, rfl, trivial⟩
          refine WP.next ?_
          refine WP.seq ?_
          refine WP.region [0, 1, 2, 3, 4, 5, 6, 7, 8] rfl ?_
          refine WP.val rfl rfl rfl rfl (Yld.move rfl rfl) ?_
          refine WP.val rfl rfl rfl rfl (Yld.fieldAddr rfl ty_fd_37_1 rfl) ?_
          refine WP.val rfl rfl rfl rfl (Yld.load rfl ty_sc_3 rfl (by repeat (first | exact There.h | exact There.i (by assumption) | apply There.t | apply There.s)) rfl) ?_
          refine WP.val rfl rfl rfl rfl (Yld.move rfl rfl) ?_
          refine WP.val rfl rfl rfl rfl (Yld.fieldAddr rfl ty_fd_37_2 rfl) ?_
          refine WP.val rfl rfl rfl rfl (Yld.load rfl ty_sc_3 rfl (by repeat (first | exact There.h | exact There.i (by assumption) | apply There.t | apply There.s)) rfl) ?_
          refine WP.val rfl rfl rfl rfl (Yld.add rfl rfl rfl) ?_
          refine WP.val rfl rfl rfl rfl (Yld.indexAddrI rfl ty_sl_22 rfl rfl h0 hi) ?_
          refine WP.loud rfl rfl ?_
          refine Op.store1 rfl rfl ty_sz_3 rfl rfl rfl (by repeat (first | exact Upd.head | apply Upd.tail | apply Upd.tailS)) (vals_set _ h0 hi) ?_
          refine WP.nil ?_
          refine WP.sub [(0, _), (1, _), (2, _), (4, _), (5, _), (6, _), (7, _), (8, _), (9, _), (10, _), (11, _), (20, _), (21, _), (28, _), (40, _), (60, _)] ?_ ⟨rfl, rfl, rfl, rfl, rfl, rfl, rfl, rfl, rfl, rfl, rfl, rfl, rfl, rfl, rfl, rfl, trivial⟩
          refine WP.next ?_
          refine WP.region [0, 1, 2, 3, 4] rfl ?_
          refine WP.val rfl rfl rfl rfl (Yld.move rfl rfl) ?_
          refine WP.val rfl rfl rfl rfl (Yld.fieldAddr rfl ty_fd_37_2 rfl) ?_
          refine WP.val rfl rfl rfl rfl (Yld.load rfl ty_sc_3 rfl (by repeat (first | exact There.h | exact There.i (by assumption) | apply There.t | apply There.s)) rfl) ?_
          refine WP.val rfl rfl rfl rfl (Yld.add rfl rfl rfl) ?_
          refine WP.val rfl rfl rfl rfl (Yld.assign rfl rfl) ?_
          refine WP.nil ?_
          refine WP.sub [(0, _), (1, _), (2, _), (4, _), (5, _), (6, _), (7, _), (8, _), (9, _), (10, _), (11, _), (20, _), (21, _), (28, _), (40, _), (60, _)] ?_ ⟨rfl, rfl, rfl, rfl, rfl, rfl, rfl, rfl, rfl, rfl, rfl, rfl, rfl, rfl, rfl, rfl, trivial⟩
          refine WP.leave ?_
          refine WP.next ?_
          refine WP.seq ?_
          refine WD.start Trymixed 4 (There I _) (fun _ _ => False) (fun _ _ h => h) (fun _ _ h => h.elim) 6 [false, false, false, false, false, false] rfl rfl ?_
          refine WD.val (i := 0) rfl rfl rfl rfl (by kernel_rfl) rfl (Yld.move rfl rfl) ?_
          refine WD.val1 (i := 1) rfl rfl rfl rfl (by kernel_rfl) rfl (by kernel_rfl) (Yld.loadAll rfl ty_ag_31 rfl (.inl (by repeat (first | exact There.h | exact There.i (by assumption) | apply There.t | apply There.s))) rfl) ?_
          refine WD.val (i := 2) rfl rfl rfl rfl (by kernel_rfl) rfl (Yld.move rfl rfl) ?_
          refine WD.val (i := 3) rfl rfl rfl rfl (by kernel_rfl) rfl (Yld.assign rfl rfl) ?_
          refine WD.loud (i := 4) (by kernel_rfl) rfl rfl rfl ?_
          refine Op.storeAll rfl rfl ty_sz_31 rfl rfl rfl rfl (by repeat (first | exact Upd.head | apply Upd.tail | apply Upd.tailS)) rfl ?_
          refine WD.go (.inl rfl) (fun _ _ h => h.elim) ?_
          refine WD.val (i := 5) rfl rfl rfl rfl (by kernel_rfl) rfl (Yld.assign rfl rfl) ?_
          refine WD.done (by kernel_rfl) ?_
          refine WP.sub [(0, _), (1, _), (2, _), (4, _), (5, _), (6, _), (7, _), (8, _), (9, _), (10, _), (11, _), (20, _), (21, _), (28, _), (40, _), (60, _)] ?_ ⟨rfl, rfl, rfl, rfl, rfl, rfl, rfl, rfl, rfl, rfl, rfl, rfl, rfl, rfl, rfl, rfl, trivial⟩
          refine WP.next ?_
          refine WP.ret ?_
          refine WP.fin .ret (.inr rfl) (resT (rs := [.tmp 6, .cell 7 31, .tmp 8]) (vs := [_, _, _]) rfl ⟨rfl, ⟨_, _, _, _, rfl, (by repeat (first | exact There.h | exact There.i (by assumption) | apply There.t | apply There.s)), .inl ⟨ty_ag_31, by rfl, rfl⟩⟩, rfl, trivial⟩ rfl) (Lo ++ [(bo, row 3 _)]) (by repeat (first | exact Take.nil | apply Take.cons | apply Take.app | exact Rm.chunk | exact Rm.here | apply Rm.skip | apply Rm.skipS | apply Take.all)) (by repeat (first | exact Leave.done | apply Leave.drop | apply Leave.dropS)) (Imm.le_refl _) ?_
          have hself := set_self hnv
          have hself2 := congrArg (List.map (Value.int .i64)) hself
          rw [List.map_set] at hself2
          refine ⟨rfl, _, _, .blk (b := bo) (cap := co) (sp := sp) (xs := (now.set ce.toNat (actSt k A B ⟨nv, l, s, sw, m, a⟩).1.v).map (Value.int .i64)) (by simp) (by simpa using h5) h6, ?_, ?_⟩ <;> simp_all [actSt, inc]
        · exact absurd hk (by omega)


end Go.Hp
