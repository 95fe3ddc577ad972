import Derived.Test.YtdobkjbpehdokaaLoomM
set_option linter.unusedVariables false
set_option linter.unusedSimpArgs false
namespace Go.Hp
open Go Go.Proofs

theorem doneAt_lt {xs : List Ad} {i : Nat} (h : i < xs.length) : doneAt xs (i : Int) = xs[i].done := by unfold doneAt; rw [adAt_lt h]
theorem stepsAt_lt {xs : List Ad} {i : Nat} (h : i < xs.length) : stepsAt xs (i : Int) = xs[i].steps := by unfold stepsAt; rw [adAt_lt h]
theorem doneAt_no {xs : List Ad} {k : Int} (h : k < 0 ∨ (xs.length : Int) ≤ k) : doneAt xs k = false := by unfold doneAt; rw [adAt_no h]
theorem stepsAt_no {xs : List Ad} {k : Int} (h : k < 0 ∨ (xs.length : Int) ≤ k) : stepsAt xs k = 0 := by unfold stepsAt; rw [adAt_no h]
theorem liveU_le {xs : List Ad} {i j : Nat} (h : i ≤ j) : ∃ r, liveU xs j = liveU xs i ++ r := by
  have e : ∀ k, liveU xs k = (List.range k).filter (liveP xs) := fun _ => rfl
  refine ⟨(List.range' i (j - i)).filter (liveP xs), ?_⟩
  rw [e, e, ← List.filter_append]
  congr 1
  rw [List.range_eq_range', List.range_eq_range', show List.range' i (j - i) = List.range' (0 + i) (j - i) by rw [Nat.zero_add], List.range'_append_1]
  congr 1
  omega
theorem live_at {xs : List Ad} {i : Nat} (h : i < xs.length) (hd : xs[i].done = false) : ∃ hk : (liveU xs i).length < (live xs).length, (live xs)[(liveU xs i).length] = i := by
  obtain ⟨r, hr⟩ := liveU_le (xs := xs) (i := i + 1) (j := xs.length) h
  rw [liveU_succ h, hd] at hr
  simp only [Bool.false_eq_true, if_false] at hr
  have hl : live xs = liveU xs i ++ ([i] ++ r) := by unfold live; rw [hr, List.append_assoc]
  refine ⟨by rw [hl]; simp, ?_⟩
  have : (live xs)[(liveU xs i).length]? = some i := by rw [hl, List.getElem?_append_right (Nat.le_refl _), Nat.sub_self]; rfl
  exact (List.getElem?_eq_some_iff.1 this).2

theorem set_valH {ps : List Value} {k : Nat} {v : Value} (h : k < ps.length) (sp : List Value) : SetAt (ps ++ sp) (0 + k * 1) v (ps.set k v ++ sp) := by
  have := SetAt.sym (l := ps ++ sp) (k := 0 + k * 1) (v := v) (by rw [List.length_append]; omega)
  rw [Nat.zero_add, Nat.mul_one] at this ⊢
  rwa [List.set_append_left _ _ h] at this
theorem loom_alike {I : Imm} {l q_ : Nat} {xs : List Ad} {L Lw : Chunks} {vw : Value} (hd : IsLoom l q_ xs L) (how : Own 46 7 vw (wc xs) xs.length Lw) (hxn : xs.length ≤ 30) : Spec Try.prog 21 [.pointer (some ⟨l, 0, none⟩), vw] I (L ++ Lw) (fun v J L' => v = .bool true ∧ I = J ∧ L' = L ++ Lw) := by
  refine Spec.of Try.func21 rfl Try.ntmps21 (Nat.le_of_ble_eq_true rfl) (fun F => ?_)
  try simp only [List.cons_append, List.nil_append, List.append_assoc]
  dsimp only [argsEnv]
  refine WP.seq ?_
  refine WP.region [0] rfl ?_
  refine WP.val rfl rfl rfl rfl (Yld.assign rfl rfl) ?_
  refine WP.nil ?_
  refine WP.next ?_
  refine WP.seq ?_
  refine WP.region [0, 1, 2] rfl ?_
  refine WP.val rfl rfl rfl rfl (Yld.move rfl rfl) ?_
  refine WP.loud rfl rfl ?_
  refine Op.call (loom_Live hd (by omega)) rfl Try.func17 rfl rfl rfl rfl (by repeat (first | exact Take.nil | with_reducible apply Take.cons | apply Take.app | exact Rm.chunk | exact Rm.here | exact Rm.nil0 | apply Rm.skip | apply Rm.skipS | (focus (apply Take.all; (repeat (first | exact Rm.chunk | exact Rm.here | exact Rm.nil0 | apply Rm.skip | apply Rm.skipS)); done)) | apply Take.cons)) ?_
  rintro v J L9 hJ ⟨rfl, Ll, rfl, hol⟩
  clear hJ; try simp only [List.cons_append, List.nil_append, List.append_assoc]
  try simp only [List.cons_append, List.nil_append, List.append_assoc]
  have hlb : (live xs).length ≤ xs.length := Nat.le_trans (List.length_filter_le _ _) (by simp)
  refine WP.val rfl rfl rfl rfl (Yld.assign rfl rfl) ?_
  refine WP.nil ?_
  refine WP.sub [(0, _), (1, _), (4, _), (5, _)] ?_ ⟨rfl, rfl, rfl, rfl, trivial⟩
  refine WP.next ?_
  refine WP.seq ?_
  refine WP.region [0] rfl ?_
  refine WP.val rfl rfl rfl rfl (Yld.assign rfl rfl) ?_
  refine WP.nil ?_
  refine WP.next ?_
  refine WP.seq ?_
  refine WP.seq ?_
  refine WP.region [0] rfl ?_
  refine WP.val rfl rfl rfl rfl (Yld.assign rfl rfl) ?_
  refine WP.nil ?_
  refine WP.next ?_
  refine WP.block ?_
  refine WP.loop (X := Nat) (fun i : Nat => [(0, .pointer (some ⟨l, 0, none⟩)), (1, vw), (5, v), (6, .int .i64 ((liveU xs i).length : Int)), (7, .int .i64 (i : Int))]) (fun _ => I) (fun i : Nat => Ll ++ (L ++ (Lw ++ F))) (fun i => i ≤ xs.length) (fun i => xs.length - i) 0 (Nat.zero_le _) ⟨rfl, rfl, rfl, rfl, rfl, trivial⟩ rfl (by (try dsimp only); repeat (first | exact Rm.chunk | exact Rm.here | exact Rm.nil0 | apply Rm.skip | apply Rm.skipS | apply PX.cons | (apply PX.done; (repeat (first | exact Leave.done | apply Leave.drop | apply Leave.dropS)); done) | apply PX.app)) ?_
  intro i hi0
  try dsimp only
  try simp only [List.cons_append, List.nil_append, List.append_assoc]
  refine WP.seq ?_
  refine WP.seq ?_
  refine WP.region [0, 1, 2, 3] rfl ?_
  refine WP.val rfl rfl rfl rfl (Yld.move rfl rfl) ?_
  refine WP.val rfl rfl rfl rfl (Yld.move rfl rfl) ?_
  refine WP.val rfl rfl rfl rfl (Yld.lenR (how.rd (I := I) (fun p hp => hp)) rfl ty_sl_44 rfl) ?_
  refine WP.split rfl rfl rfl rfl (Yld.lss rfl rfl rfl) (fun hlt => ?_) (fun hlt => ?_)
  · have hi : i < xs.length := by omega
    obtain ⟨bw, cw_, sw_, hvw, rfl, hqw, hrw⟩ := how.get (by omega)
    subst hvw
    have hsu := liveU_succ hi
    try simp only [List.cons_append, List.nil_append, List.append_assoc]
    refine WP.nil ?_
    refine WP.sub [(0, _), (1, _), (5, _), (6, _), (7, _), (14, _)] ?_ ⟨rfl, rfl, rfl, rfl, rfl, rfl, trivial⟩
    refine WP.next ?_
    refine WP.condT rfl ?_
    refine WP.skip ?_
    refine WP.next ?_
    refine WP.seq ?_
    refine WP.block ?_
    refine WP.seq ?_
    refine WP.seq ?_
    refine WQ.startAll Trymixed (by kernel_rfl) _ rfl ?_
    refine WQ.val rfl rfl rfl (Yld.move rfl rfl) ?_
    refine WQ.val rfl rfl rfl (Yld.move rfl rfl) ?_
    refine WQ.call (loom_Done hd (k := (i : Int))) (by rintro v' J L1 ⟨rfl, rfl, rfl⟩; exact ⟨rfl, rfl, rfl⟩) rfl Try.func26 rfl rfl rfl rfl rfl (by repeat (first | exact Take.nil | with_reducible apply Take.cons | apply Take.app | exact Rm.chunk | exact Rm.here | exact Rm.nil0 | apply Rm.skip | apply Rm.skipS | (focus (apply Take.all; (repeat (first | exact Rm.chunk | exact Rm.here | exact Rm.nil0 | apply Rm.skip | apply Rm.skipS)); done)) | apply Take.cons)) ?_
    rw [doneAt_lt hi]
    refine WQ.val rfl rfl rfl (Yld.move rfl rfl) ?_
    refine WQ.val rfl rfl rfl (Yld.move rfl rfl) ?_
    refine WQ.val rfl rfl rfl (Yld.indexAddr (i := i) rfl ty_sl_44 rfl rfl hi) ?_
    refine WQ.val rfl rfl rfl (Yld.fieldAddr rfl ty_fd_46_5 rfl) ?_
    refine WQ.val rfl rfl rfl (Yld.load rfl ty_sc_4 rfl (by repeat (first | exact There.h | exact There.i (by assumption) | apply There.t | apply There.s)) (flat_at rad_len (l := xs) (j := 5) hi (by decide) sw_ rfl)) ?_
    refine WQ.val rfl rfl rfl (Yld.neqBool rfl (by kernel_rfl) rfl rfl false (by simp)) ?_
    refine WQ.val rfl rfl rfl (Yld.move rfl rfl) ?_
    refine WQ.valG rfl rfl rfl rfl rfl rfl (Yld.move rfl rfl) ?_
    refine WQ.valG rfl rfl rfl rfl rfl rfl (Yld.move rfl rfl) ?_
    refine WQ.callG (loom_Steps hd (k := (i : Int))) (by rintro v' J L1 ⟨rfl, rfl, rfl⟩; exact ⟨rfl, rfl, rfl⟩) rfl Try.func25 rfl rfl rfl rfl rfl rfl rfl rfl (by repeat (first | exact Take.nil | with_reducible apply Take.cons | apply Take.app | exact Rm.chunk | exact Rm.here | exact Rm.nil0 | apply Rm.skip | apply Rm.skipS | (focus (apply Take.all; (repeat (first | exact Rm.chunk | exact Rm.here | exact Rm.nil0 | apply Rm.skip | apply Rm.skipS)); done)) | apply Take.cons)) ?_
    rw [stepsAt_lt hi]
    refine WQ.valG rfl rfl rfl rfl rfl rfl (Yld.move rfl rfl) ?_
    refine WQ.valG rfl rfl rfl rfl rfl rfl (Yld.move rfl rfl) ?_
    refine WQ.valG rfl rfl rfl rfl rfl rfl (Yld.indexAddr (i := i) rfl ty_sl_44 rfl rfl hi) ?_
    refine WQ.valG rfl rfl rfl rfl rfl rfl (Yld.fieldAddr rfl ty_fd_46_6 rfl) ?_
    refine WQ.valG rfl rfl rfl rfl rfl rfl (Yld.load rfl ty_sc_3 rfl (by repeat (first | exact There.h | exact There.i (by assumption) | apply There.t | apply There.s)) (flat_at rad_len (l := xs) (j := 6) hi (by decide) sw_ rfl)) ?_
    refine WQ.valG rfl rfl rfl rfl rfl rfl (Yld.neq rfl rfl rfl false (decide_eq_false (by simp))) ?_
    refine WQ.val rfl rfl rfl (Yld.pickF rfl rfl rfl) ?_
    refine WQ.nil ?_
    refine WP.sub [(0, _), (1, _), (5, _), (6, _), (7, _), (14, _), (36, _)] ?_ ⟨rfl, rfl, rfl, rfl, rfl, rfl, rfl, trivial⟩
    refine WP.next ?_
    refine WP.condF rfl ?_
    refine WP.skip ?_
    refine WP.next ?_
    refine WP.seq ?_
    refine WP.region [0, 1, 2, 3, 4, 5] rfl ?_
    refine WP.val rfl rfl rfl rfl (Yld.move rfl rfl) ?_
    refine WP.val rfl rfl rfl rfl (Yld.move rfl rfl) ?_
    refine WP.val rfl rfl rfl rfl (Yld.indexAddr (i := i) rfl ty_sl_44 rfl rfl hi) ?_
    refine WP.val rfl rfl rfl rfl (Yld.fieldAddr rfl ty_fd_46_5 rfl) ?_
    refine WP.splitB rfl rfl rfl rfl (Yld.load rfl ty_sc_4 rfl (by repeat (first | exact There.h | exact There.i (by assumption) | apply There.t | apply There.s)) (flat_at rad_len (l := xs) (j := 5) hi (by decide) sw_ rfl)) (fun hdn => ?_) (fun hdn => ?_)
    · refine WP.val rfl rfl rfl rfl (Yld.not rfl rfl) ?_
      refine WP.nil ?_
      refine WP.sub [(0, _), (1, _), (5, _), (6, _), (7, _), (14, _), (36, _), (42, _)] ?_ ⟨rfl, rfl, rfl, rfl, rfl, rfl, rfl, rfl, trivial⟩
      refine WP.next ?_
      refine WP.condF rfl ?_
      refine WP.skip ?_
      refine WP.leave ?_
      refine WP.next ?_
      refine WP.region [0, 1, 2] rfl ?_
      refine WP.val rfl rfl rfl rfl (Yld.move rfl rfl) ?_
      refine WP.val rfl rfl rfl rfl (Yld.add64 rfl rfl rfl (by omega)) ?_
      refine WP.val rfl rfl rfl rfl (Yld.assign rfl rfl) ?_
      refine WP.nil ?_
      refine WP.sub [(0, _), (1, _), (5, _), (6, _), (7, _), (14, _), (36, _), (42, _)] ?_ ⟨rfl, rfl, rfl, rfl, rfl, rfl, rfl, rfl, trivial⟩
      exact WP.again (i + 1) hi (by omega) ⟨rfl, rfl, rfl, (congrArg (fun z => some (Value.int .i64 z)) (by rw [hsu, if_pos hdn, List.append_nil])), rfl, trivial⟩ rfl (by (try dsimp only); repeat (first | exact Rm.chunk | exact Rm.here | exact Rm.nil0 | apply Rm.skip | apply Rm.skipS | apply PX.cons | (apply PX.done; (repeat (first | exact Leave.done | apply Leave.drop | apply Leave.dropS)); done) | apply PX.app))
    · obtain ⟨hkl, hkv⟩ := live_at hi hdn
      obtain ⟨bl, cl_, sl_, hvl, rfl, hql, hrl⟩ := hol.get (by omega)
      subst hvl
      try simp only [List.cons_append, List.nil_append, List.append_assoc]
      refine WP.val rfl rfl rfl rfl (Yld.not rfl rfl) ?_
      refine WP.nil ?_
      refine WP.sub [(0, _), (1, _), (5, _), (6, _), (7, _), (14, _), (36, _), (42, _)] ?_ ⟨rfl, rfl, rfl, rfl, rfl, rfl, rfl, rfl, trivial⟩
      refine WP.next ?_
      refine WP.condT rfl ?_
      refine WP.seq ?_
      refine WP.seq ?_
      refine WP.region [0, 1, 2, 3, 4, 5, 6, 7, 8, 9, 10, 11] rfl ?_
      refine WP.val rfl rfl rfl rfl (Yld.move rfl rfl) ?_
      refine WP.val rfl rfl rfl rfl (Yld.move rfl rfl) ?_
      refine WP.val rfl rfl rfl rfl (Yld.len rfl ty_sl_23 rfl) ?_
      refine WP.val rfl rfl rfl rfl (Yld.geq rfl rfl rfl false (decide_eq_false (by omega))) ?_
      refine WP.val rfl rfl rfl rfl (Yld.move rfl rfl) ?_
      refine WP.valG rfl rfl rfl rfl rfl rfl rfl (Yld.move rfl rfl) ?_
      refine WP.valG rfl rfl rfl rfl rfl rfl rfl (Yld.move rfl rfl) ?_
      refine WP.valG rfl rfl rfl rfl rfl rfl rfl (Yld.indexAddr (i := (liveU xs i).length) rfl ty_sl_23 rfl rfl hkl) ?_
      refine WP.valG rfl rfl rfl rfl rfl rfl rfl (Yld.load rfl ty_sc_3 rfl (by repeat (first | exact There.h | exact There.i (by assumption) | apply There.t | apply There.s)) (ints_at hkl sl_)) ?_
      rw [hkv]
      refine WP.valG rfl rfl rfl rfl rfl rfl rfl (Yld.move rfl rfl) ?_
      refine WP.valG rfl rfl rfl rfl rfl rfl rfl (Yld.neq rfl rfl rfl false (decide_eq_false (by simp))) ?_
      refine WP.val rfl rfl rfl rfl (Yld.pickF rfl rfl rfl) ?_
      refine WP.nil ?_
      refine WP.sub [(0, _), (1, _), (5, _), (6, _), (7, _), (14, _), (36, _), (42, _), (54, _)] ?_ ⟨rfl, rfl, rfl, rfl, rfl, rfl, rfl, rfl, rfl, trivial⟩
      refine WP.next ?_
      refine WP.condF rfl ?_
      refine WP.skip ?_
      refine WP.next ?_
      refine WP.region [0, 1, 2] rfl ?_
      refine WP.val rfl rfl rfl rfl (Yld.move rfl rfl) ?_
      refine WP.val rfl rfl rfl rfl (Yld.add64 rfl rfl rfl (by omega)) ?_
      refine WP.val rfl rfl rfl rfl (Yld.assign rfl rfl) ?_
      refine WP.nil ?_
      refine WP.sub [(0, _), (1, _), (5, _), (6, _), (7, _), (14, _), (36, _), (42, _), (54, _)] ?_ ⟨rfl, rfl, rfl, rfl, rfl, rfl, rfl, rfl, rfl, trivial⟩
      refine WP.leave ?_
      refine WP.next ?_
      refine WP.region [0, 1, 2] rfl ?_
      refine WP.val rfl rfl rfl rfl (Yld.move rfl rfl) ?_
      refine WP.val rfl rfl rfl rfl (Yld.add64 rfl rfl rfl (by omega)) ?_
      refine WP.val rfl rfl rfl rfl (Yld.assign rfl rfl) ?_
      refine WP.nil ?_
      refine WP.sub [(0, _), (1, _), (5, _), (6, _), (7, _), (14, _), (36, _), (42, _), (54, _)] ?_ ⟨rfl, rfl, rfl, rfl, rfl, rfl, rfl, rfl, rfl, trivial⟩
      exact WP.again (i + 1) hi (by omega) ⟨rfl, rfl, rfl, (congrArg (fun z => some (Value.int .i64 z)) (by rw [hsu, if_neg (by rw [hdn]; decide), List.length_append, List.length_singleton, Int.natCast_add]; rfl)), rfl, trivial⟩ rfl (by (try dsimp only); repeat (first | exact Rm.chunk | exact Rm.here | exact Rm.nil0 | apply Rm.skip | apply Rm.skipS | apply PX.cons | (apply PX.done; (repeat (first | exact Leave.done | apply Leave.drop | apply Leave.dropS)); done) | apply PX.app))
  · obtain rfl : i = xs.length := by omega
    have hlv : (liveU xs xs.length).length = (live xs).length := rfl
    rw [hlv]
    have hol : Own 3 1 v ((live xs).map fun (i : Nat) => Value.int .i64 (i : Int)) (live xs).length Ll := hol
    refine WP.nil ?_
    refine WP.sub [(0, _), (1, _), (5, _), (6, _), (7, _), (14, _)] ?_ ⟨rfl, rfl, rfl, rfl, rfl, rfl, trivial⟩
    refine WP.next ?_
    refine WP.condF rfl ?_
    refine WP.exit ?_
    refine WP.thenE ?_
    refine WP.thenE ?_
    refine WP.hit ?_
    refine WP.next ?_
    refine WP.seq ?_
    refine WP.seq ?_
    refine WP.region [0] rfl ?_
    refine WP.val rfl rfl rfl rfl (Yld.assign rfl rfl) ?_
    refine WP.nil ?_
    refine WP.next ?_
    refine WP.block ?_
    refine WP.loop (X := Nat × List Value × Chunks) (fun t : Nat × List Value × Chunks => [(0, .pointer (some ⟨l, 0, none⟩)), (1, vw), (5, v), (6, .int .i64 ((live xs).length : Int)), (8, .int .i64 (t.1 : Int))]) (fun _ => I) (fun t : Nat × List Value × Chunks => t.2.2 ++ (L ++ (Lw ++ F))) (fun t : Nat × List Value × Chunks => t.1 ≤ (live xs).length ∧ Own 3 1 v t.2.1 (live xs).length t.2.2) (fun t => (live xs).length - t.1) ⟨0, _, _⟩ ⟨Nat.zero_le _, hol⟩ ⟨rfl, rfl, rfl, rfl, rfl, trivial⟩ rfl (by (try dsimp only); repeat (first | exact Rm.chunk | exact Rm.here | exact Rm.nil0 | apply Rm.skip | apply Rm.skipS | apply PX.cons | (apply PX.done; (repeat (first | exact Leave.done | apply Leave.drop | apply Leave.dropS)); done) | apply PX.app)) ?_
    rintro ⟨i, zs, Ll⟩ ⟨hi0, hol⟩
    try dsimp only
    try simp only [List.cons_append, List.nil_append, List.append_assoc]
    refine WP.seq ?_
    refine WP.seq ?_
    refine WP.region [0, 1, 2, 3] rfl ?_
    refine WP.val rfl rfl rfl rfl (Yld.move rfl rfl) ?_
    refine WP.val rfl rfl rfl rfl (Yld.move rfl rfl) ?_
    refine WP.val rfl rfl rfl rfl (Yld.lenR (hol.rd (I := I) (fun p hp => hp)) rfl ty_sl_23 rfl) ?_
    refine WP.split rfl rfl rfl rfl (Yld.lss rfl rfl rfl) (fun hlt => ?_) (fun hlt => ?_)
    · simp only at hi0 hol
      have hi : i < (live xs).length := by first | omega | (simp only at hlt; omega)
      have hxl := hol.len
      obtain ⟨bl, cl_, sl_, hvl, rfl, hql, hrl⟩ := hol.get (by omega)
      subst hvl
      try simp only [List.cons_append, List.nil_append, List.append_assoc]
      refine WP.nil ?_
      refine WP.sub [(0, _), (1, _), (5, _), (6, _), (8, _), (60, _)] ?_ ⟨rfl, rfl, rfl, rfl, rfl, rfl, trivial⟩
      refine WP.next ?_
      refine WP.condT rfl ?_
      refine WP.skip ?_
      refine WP.next ?_
      refine WP.seq ?_
      refine WP.block ?_
      refine WP.region [0, 1, 2, 3] rfl ?_
      refine WP.val rfl rfl rfl rfl (Yld.move rfl rfl) ?_
      refine WP.val rfl rfl rfl rfl (Yld.move rfl rfl) ?_
      refine WP.val rfl rfl rfl rfl (Yld.indexAddr (i := i) rfl ty_sl_23 rfl rfl hi) ?_
      refine WP.loud rfl rfl ?_
      refine Op.store1 rfl rfl ty_sz_3 rfl rfl rfl (by repeat (first | exact Upd.head | apply Upd.tail | apply Upd.tailS)) (set_valH (by omega) sl_) ?_
      refine WP.nil ?_
      refine WP.sub [(0, _), (1, _), (5, _), (6, _), (8, _), (60, _)] ?_ ⟨rfl, rfl, rfl, rfl, rfl, rfl, trivial⟩
      refine WP.leave ?_
      refine WP.next ?_
      refine WP.region [0, 1, 2] rfl ?_
      refine WP.val rfl rfl rfl rfl (Yld.move rfl rfl) ?_
      refine WP.val rfl rfl rfl rfl (Yld.add64 rfl rfl rfl (by omega)) ?_
      refine WP.val rfl rfl rfl rfl (Yld.assign rfl rfl) ?_
      refine WP.nil ?_
      refine WP.sub [(0, _), (1, _), (5, _), (6, _), (8, _), (60, _)] ?_ ⟨rfl, rfl, rfl, rfl, rfl, rfl, trivial⟩
      exact WP.again ⟨i + 1, zs.set i (.int .i64 (-7)), [(bl, row 3 (zs.set i (.int .i64 (-7)) ++ sl_))]⟩ ⟨hi, Own.blk (by simpa using hxl) (by simpa using hql) hrl⟩ (by simp only; omega) ⟨rfl, rfl, rfl, rfl, rfl, trivial⟩ rfl (by (try dsimp only); repeat (first | exact Rm.chunk | exact Rm.here | exact Rm.nil0 | apply Rm.skip | apply Rm.skipS | apply PX.cons | (apply PX.done; (repeat (first | exact Leave.done | apply Leave.drop | apply Leave.dropS)); done) | apply PX.app))
    · simp only at hi0 hol
      refine WP.nil ?_
      refine WP.sub [(0, _), (1, _), (5, _), (6, _), (8, _), (60, _)] ?_ ⟨rfl, rfl, rfl, rfl, rfl, rfl, trivial⟩
      refine WP.next ?_
      refine WP.condF rfl ?_
      refine WP.exit ?_
      refine WP.thenE ?_
      refine WP.thenE ?_
      refine WP.hit ?_
      refine WP.next ?_
      refine WP.seq ?_
      refine WP.region [0, 1, 2, 3, 4, 5, 6, 7, 8, 9, 10, 11, 12, 13, 14, 15, 16, 17, 18, 19, 20, 21, 22, 23, 24, 25, 26, 27, 28] rfl ?_
      refine WP.val rfl rfl rfl rfl (Yld.move rfl rfl) ?_
      refine WP.val rfl rfl rfl rfl (Yld.move rfl rfl) ?_
      refine WP.val rfl rfl rfl rfl (Yld.lenR (hol.rd (I := I) (fun p hp => hp)) rfl ty_sl_23 rfl) ?_
      refine WP.val rfl rfl rfl rfl (Yld.eql rfl rfl rfl true (decide_eq_true (by rfl))) ?_
      refine WP.val rfl rfl rfl rfl (Yld.move rfl rfl) ?_
      refine WP.valG rfl rfl rfl rfl rfl rfl rfl (Yld.move rfl rfl) ?_
      refine WP.loudG rfl rfl rfl rfl rfl ?_
      refine Op.call (loom_Done hd (k := -1)) rfl Try.func26 rfl rfl rfl rfl (by repeat (first | exact Take.nil | with_reducible apply Take.cons | apply Take.app | exact Rm.chunk | exact Rm.here | exact Rm.nil0 | apply Rm.skip | apply Rm.skipS | (focus (apply Take.all; (repeat (first | exact Rm.chunk | exact Rm.here | exact Rm.nil0 | apply Rm.skip | apply Rm.skipS)); done)) | apply Take.cons)) ?_
      rintro v J L1 hJ ⟨rfl, rfl, rfl⟩
      clear hJ; try simp only [List.cons_append, List.nil_append, List.append_assoc]
      rw [doneAt_no (.inl (by decide))]
      refine WP.valG rfl rfl rfl rfl rfl rfl rfl (Yld.not rfl rfl) ?_
      refine WP.val rfl rfl rfl rfl (Yld.pickT rfl rfl rfl) ?_
      refine WP.val rfl rfl rfl rfl (Yld.move rfl rfl) ?_
      refine WP.valG rfl rfl rfl rfl rfl rfl rfl (Yld.move rfl rfl) ?_
      refine WP.loudG rfl rfl rfl rfl rfl ?_
      refine Op.call (loom_Steps hd (k := -1)) rfl Try.func25 rfl rfl rfl rfl (by repeat (first | exact Take.nil | with_reducible apply Take.cons | apply Take.app | exact Rm.chunk | exact Rm.here | exact Rm.nil0 | apply Rm.skip | apply Rm.skipS | (focus (apply Take.all; (repeat (first | exact Rm.chunk | exact Rm.here | exact Rm.nil0 | apply Rm.skip | apply Rm.skipS)); done)) | apply Take.cons)) ?_
      rintro v J L1 hJ ⟨rfl, rfl, rfl⟩
      clear hJ; try simp only [List.cons_append, List.nil_append, List.append_assoc]
      rw [stepsAt_no (.inl (by decide))]
      refine WP.valG rfl rfl rfl rfl rfl rfl rfl (Yld.eql rfl rfl rfl true (decide_eq_true (by rfl))) ?_
      refine WP.val rfl rfl rfl rfl (Yld.pickT rfl rfl rfl) ?_
      refine WP.val rfl rfl rfl rfl (Yld.move rfl rfl) ?_
      refine WP.valG rfl rfl rfl rfl rfl rfl rfl (Yld.move rfl rfl) ?_
      refine WP.valG rfl rfl rfl rfl rfl rfl rfl (Yld.move rfl rfl) ?_
      refine WP.valG rfl rfl rfl rfl rfl rfl rfl (Yld.lenR (how.rd (I := I) (fun p hp => hp)) rfl ty_sl_44 rfl) ?_
      refine WP.loudG rfl rfl rfl rfl rfl ?_
      refine Op.call (loom_Done hd (k := (xs.length : Int))) rfl Try.func26 rfl rfl rfl rfl (by repeat (first | exact Take.nil | with_reducible apply Take.cons | apply Take.app | exact Rm.chunk | exact Rm.here | exact Rm.nil0 | apply Rm.skip | apply Rm.skipS | (focus (apply Take.all; (repeat (first | exact Rm.chunk | exact Rm.here | exact Rm.nil0 | apply Rm.skip | apply Rm.skipS)); done)) | apply Take.cons)) ?_
      rintro v J L1 hJ ⟨rfl, rfl, rfl⟩
      clear hJ; try simp only [List.cons_append, List.nil_append, List.append_assoc]
      rw [doneAt_no (.inr (Int.le_refl _))]
      refine WP.valG rfl rfl rfl rfl rfl rfl rfl (Yld.not rfl rfl) ?_
      refine WP.val rfl rfl rfl rfl (Yld.pickT rfl rfl rfl) ?_
      refine WP.val rfl rfl rfl rfl (Yld.move rfl rfl) ?_
      refine WP.valG rfl rfl rfl rfl rfl rfl rfl (Yld.move rfl rfl) ?_
      refine WP.valG rfl rfl rfl rfl rfl rfl rfl (Yld.move rfl rfl) ?_
      refine WP.valG rfl rfl rfl rfl rfl rfl rfl (Yld.lenR (how.rd (I := I) (fun p hp => hp)) rfl ty_sl_44 rfl) ?_
      refine WP.loudG rfl rfl rfl rfl rfl ?_
      refine Op.call (loom_Steps hd (k := (xs.length : Int))) rfl Try.func25 rfl rfl rfl rfl (by repeat (first | exact Take.nil | with_reducible apply Take.cons | apply Take.app | exact Rm.chunk | exact Rm.here | exact Rm.nil0 | apply Rm.skip | apply Rm.skipS | (focus (apply Take.all; (repeat (first | exact Rm.chunk | exact Rm.here | exact Rm.nil0 | apply Rm.skip | apply Rm.skipS)); done)) | apply Take.cons)) ?_
      rintro v J L1 hJ ⟨rfl, rfl, rfl⟩
      clear hJ; try simp only [List.cons_append, List.nil_append, List.append_assoc]
      rw [stepsAt_no (.inr (Int.le_refl _))]
      refine WP.valG rfl rfl rfl rfl rfl rfl rfl (Yld.eql rfl rfl rfl true (decide_eq_true (by rfl))) ?_
      refine WP.val rfl rfl rfl rfl (Yld.pickT rfl rfl rfl) ?_
      refine WP.val rfl rfl rfl rfl (Yld.assign rfl rfl) ?_
      refine WP.nil ?_
      refine WP.sub [(0, _), (1, _), (4, _), (5, _), (6, _), (8, _), (60, _)] ?_ ⟨rfl, rfl, rfl, rfl, rfl, rfl, rfl, trivial⟩
      refine WP.next ?_
      refine WP.ret ?_
      refine WP.fin .ret (.inr rfl) (res1 rfl rfl) (L ++ Lw) (by repeat (first | exact Take.nil | with_reducible apply Take.cons | apply Take.app | exact Rm.chunk | exact Rm.here | exact Rm.nil0 | apply Rm.skip | apply Rm.skipS | (focus (apply Take.all; (repeat (first | exact Rm.chunk | exact Rm.here | exact Rm.nil0 | apply Rm.skip | apply Rm.skipS)); done)) | apply Take.cons)) (by repeat (first | exact Leave.done | apply Leave.drop | apply Leave.dropS)) (Imm.le_refl _) ?_
      exact ⟨rfl, rfl, rfl⟩


end Go.Hp
