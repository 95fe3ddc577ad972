import Derived.Test.YtdobkjbpehdokaaLoomL
set_option linter.unusedVariables false
set_option linter.unusedSimpArgs false
namespace Go.Hp
open Go Go.Proofs

structure RX where
  xs : List Ad
  v : Int
  k : Int
  lv : Bool
  Lw : Chunks
theorem refRunL_stop {most : Int} {f : Nat} {xs : List Ad} {v k : Int} (h : ¬ k < most) : refRunL most f (xs, v, k) = (xs, v, k) := by
  cases f with
  | zero => rfl
  | succ f => rw [refRunL, if_neg h]
theorem rsw_stop {most : Int} {l : List Nat} {xs : List Ad} {v k : Int} {lv : Bool} (h : ¬ k < most) : rsw most l (xs, v, k, lv) = (xs, v, k, lv) := by
  cases l with
  | nil => rfl
  | cons i l => rw [rsw, if_neg h]
theorem refStep_left {a : Ad} {v : Int} (h : a.left ≤ 9223372036854775807) : (refStep a v).1.left ≤ 9223372036854775807 := by
  unfold refStep
  split
  · exact h
  split
  · exact h
  split
  · exact h
  split
  · exact h
  · show a.left - 1 ≤ _; omega
theorem lefts_set {xs : List Ad} (h : lefts xs) {a : Ad} (ha : a.left ≤ 9223372036854775807) (i : Nat) : lefts (xs.set i a) := by
  intro b hb
  rcases List.mem_or_eq_of_mem_set hb with hb | rfl
  · exact h b hb
  · exact ha
theorem loom_refRun {I : Imm} {xs : List Ad} {vw : Value} {v most : Int} {Lw : Chunks} (how : Own 46 7 vw (wc xs) xs.length Lw) (hlf : lefts xs) (hmm : most ≤ 4000) (hxn : xs.length ≤ 30) : Spec Try.prog 24 [vw, .int .i64 v, .int .i64 most] I Lw (fun v' J L => v' = .tuple #[.int .i64 (refRunL most most.toNat (xs, v, 0)).2.1, .int .i64 (refRunL most most.toNat (xs, v, 0)).2.2] ∧ I = J ∧ Own 46 7 vw (wc (refRunL most most.toNat (xs, v, 0)).1) (refRunL most most.toNat (xs, v, 0)).1.length L) := by
  refine Spec.of Try.func24 rfl Try.ntmps24 (Nat.le_of_ble_eq_true rfl) (fun F => ?_)
  try simp only [List.cons_append, List.nil_append, List.append_assoc]
  dsimp only [argsEnv]
  refine WP.seq ?_
  refine WP.region [0, 1] rfl ?_
  refine WP.val rfl rfl rfl rfl (Yld.assign rfl rfl) ?_
  refine WP.val rfl rfl rfl rfl (Yld.assign rfl rfl) ?_
  refine WP.nil ?_
  refine WP.next ?_
  refine WP.seq ?_
  refine WP.region [0] rfl ?_
  refine WP.val rfl rfl rfl rfl (Yld.assign rfl rfl) ?_
  refine WP.nil ?_
  refine WP.next ?_
  refine WP.seq ?_
  refine WP.block ?_
  refine WP.loop (X := Nat × RX) (fun t : Nat × RX => [(0, vw), (1, .int .i64 t.2.v), (2, .int .i64 most), (8, .int .i64 t.2.k)]) (fun _ => I) (fun t : Nat × RX => t.2.Lw ++ F) (fun t : Nat × RX => t.2.xs.length = xs.length ∧ lefts t.2.xs ∧ Own 46 7 vw (wc t.2.xs) t.2.xs.length t.2.Lw ∧ 0 ≤ t.2.k ∧ (most - t.2.k).toNat ≤ t.1 ∧ refRunL most t.1 (t.2.xs, t.2.v, t.2.k) = refRunL most most.toNat (xs, v, 0)) (fun t => (most - t.2.k).toNat) ⟨most.toNat, ⟨xs, v, 0, false, Lw⟩⟩ ⟨rfl, hlf, how, Int.le_refl _, by simp, rfl⟩ ⟨rfl, rfl, rfl, rfl, trivial⟩ rfl (by (try dsimp only); repeat (first | exact Rm.chunk | exact Rm.here | exact Rm.nil0 | apply Rm.skip | apply Rm.skipS | apply PX.cons | (apply PX.done; (repeat (first | exact Leave.done | apply Leave.drop | apply Leave.dropS)); done) | apply PX.app)) ?_
  rintro ⟨f, xo, vo, ko, lo, Lo⟩ ⟨hxo, hlo, how, hk0, hkf, hrun⟩
  try dsimp only
  try simp only [List.cons_append, List.nil_append, List.append_assoc]
  refine WP.seq ?_
  refine WP.seq ?_
  refine WP.region [0, 1, 2] rfl ?_
  refine WP.val rfl rfl rfl rfl (Yld.move rfl rfl) ?_
  refine WP.val rfl rfl rfl rfl (Yld.move rfl rfl) ?_
  refine WP.split rfl rfl rfl rfl (Yld.lss rfl rfl rfl) (fun hlt => ?_) (fun hlt => ?_)
  · simp only at hxo hlo how hk0 hkf hrun hlt
    obtain ⟨f, rfl⟩ : ∃ g, f = g + 1 := ⟨f - 1, by omega⟩
    rw [refRunL, if_pos hlt] at hrun
    obtain ⟨hn1, hn2, hn3, hn4⟩ := rsw_n most (List.range xo.length) (xo, vo, ko, false) (by simp only; omega)
    simp only at hn1 hn2 hn3 hn4
    refine WP.nil ?_
    refine WP.sub [(0, _), (1, _), (2, _), (8, _), (13, _)] ?_ ⟨rfl, rfl, rfl, rfl, rfl, trivial⟩
    refine WP.next ?_
    refine WP.condT rfl ?_
    refine WP.skip ?_
    refine WP.next ?_
    refine WP.block ?_
    refine WP.seq ?_
    refine WP.region [0] rfl ?_
    refine WP.val rfl rfl rfl rfl (Yld.assign rfl rfl) ?_
    refine WP.nil ?_
    refine WP.next ?_
    refine WP.seq ?_
    refine WP.seq ?_
    refine WP.region [0] rfl ?_
    refine WP.val rfl rfl rfl rfl (Yld.assign rfl rfl) ?_
    refine WP.nil ?_
    refine WP.next ?_
    refine WP.block ?_
    refine WP.loop (X := Nat × RX) (fun t : Nat × RX => [(0, vw), (1, .int .i64 t.2.v), (2, .int .i64 most), (8, .int .i64 t.2.k), (9, .bool t.2.lv), (10, .int .i64 (t.1 : Int))]) (fun _ => I) (fun t : Nat × RX => t.2.Lw ++ F) (fun t : Nat × RX => t.1 ≤ xo.length ∧ t.2.xs.length = xo.length ∧ lefts t.2.xs ∧ Own 46 7 vw (wc t.2.xs) t.2.xs.length t.2.Lw ∧ 0 ≤ t.2.k ∧ t.2.k ≤ most ∧ rsw most (List.range' t.1 (xo.length - t.1)) (t.2.xs, t.2.v, t.2.k, t.2.lv) = (rsw most (List.range xo.length) (xo, vo, ko, false))) (fun t => xo.length - t.1) ⟨0, ⟨xo, vo, ko, false, Lo⟩⟩ ⟨Nat.zero_le _, rfl, hlo, how, hk0, Int.le_of_lt hlt, by rw [List.range_eq_range']; rfl⟩ ⟨rfl, rfl, rfl, rfl, rfl, rfl, trivial⟩ rfl (by (try dsimp only); repeat (first | exact Rm.chunk | exact Rm.here | exact Rm.nil0 | apply Rm.skip | apply Rm.skipS | apply PX.cons | (apply PX.done; (repeat (first | exact Leave.done | apply Leave.drop | apply Leave.dropS)); done) | apply PX.app)) ?_
    rintro ⟨i, x1, v1, k1, l1, L1⟩ ⟨hi0, hx1, hl1, how, hk1, hkm, hsw⟩
    try dsimp only
    try simp only [List.cons_append, List.nil_append, List.append_assoc]
    refine WP.seq ?_
    refine WP.seq ?_
    refine WP.region [0, 1, 2, 3, 4, 5, 6, 7, 8] rfl ?_
    refine WP.val rfl rfl rfl rfl (Yld.move rfl rfl) ?_
    refine WP.val rfl rfl rfl rfl (Yld.move rfl rfl) ?_
    refine WP.val rfl rfl rfl rfl (Yld.lenR (how.rd (I := I) (fun p hp => hp)) rfl ty_sl_44 rfl) ?_
    refine WP.split rfl rfl rfl rfl (Yld.lss rfl rfl rfl) (fun g1 => ?_) (fun g1 => ?_)
    · simp only at hi0 hx1 hl1 how hk1 hkm hsw g1
      refine WP.val rfl rfl rfl rfl (Yld.move rfl rfl) ?_
      refine WP.valG rfl rfl rfl rfl rfl rfl rfl (Yld.move rfl rfl) ?_
      refine WP.valG rfl rfl rfl rfl rfl rfl rfl (Yld.move rfl rfl) ?_
      refine WP.splitG rfl rfl rfl rfl rfl rfl rfl (Yld.lss rfl rfl rfl) (fun g2 => ?_) (fun g2 => ?_)
      · have hi : i < xo.length := by omega
        have hr' : List.range' i (xo.length - i) = i :: List.range' (i + 1) (xo.length - (i + 1)) := by rw [show xo.length - i = (xo.length - (i + 1)) + 1 by omega, List.range'_succ]
        have hil : i < x1.length := by omega
        obtain ⟨bw, cw_, sw_, hvw, rfl, hqw, hrw⟩ := how.get (by omega)
        subst hvw
        try simp only [List.cons_append, List.nil_append, List.append_assoc]
        have hg : x1[i]? = some x1[i] := List.getElem?_eq_getElem hil
        rw [hr', rsw, if_pos g2, hg] at hsw
        simp only at hsw
        refine WP.val rfl rfl rfl rfl (Yld.pickT rfl rfl rfl) ?_
        refine WP.nil ?_
        refine WP.sub [(0, _), (1, _), (2, _), (8, _), (9, _), (10, _), (22, _)] ?_ ⟨rfl, rfl, rfl, rfl, rfl, rfl, rfl, trivial⟩
        refine WP.next ?_
        refine WP.condT rfl ?_
        refine WP.skip ?_
        refine WP.next ?_
        refine WP.seq ?_
        refine WP.block ?_
        refine WP.seq ?_
        refine WP.region [0, 1, 2, 3, 4, 5] rfl ?_
        refine WP.val rfl rfl rfl rfl (Yld.move rfl rfl) ?_
        refine WP.val rfl rfl rfl rfl (Yld.move rfl rfl) ?_
        refine WP.val rfl rfl rfl rfl (Yld.indexAddr (i := i) rfl ty_sl_44 rfl rfl hil) ?_
        refine WP.val rfl rfl rfl rfl (Yld.fieldAddr rfl ty_fd_46_5 rfl) ?_
        refine WP.splitB rfl rfl rfl rfl (Yld.load rfl ty_sc_4 rfl (by repeat (first | exact There.h | exact There.i (by assumption) | apply There.t | apply There.s)) (flat_at rad_len (l := x1) (j := 5) hil (by decide) sw_ rfl)) (fun hdn => ?_) (fun hdn => ?_)
        · have hsw2 : rsw most (List.range' (i + 1) (xo.length - (i + 1))) (x1, v1, k1, l1) = (rsw most (List.range xo.length) (xo, vo, ko, false)) := by rw [← hsw, if_pos hdn]
          refine WP.val rfl rfl rfl rfl (Yld.not rfl rfl) ?_
          refine WP.nil ?_
          refine WP.sub [(0, _), (1, _), (2, _), (8, _), (9, _), (10, _), (22, _), (30, _)] ?_ ⟨rfl, rfl, rfl, rfl, rfl, rfl, rfl, rfl, trivial⟩
          refine WP.next ?_
          refine WP.condF rfl ?_
          refine WP.skip ?_
          refine WP.leave ?_
          refine WP.next ?_
          refine WP.region [0, 1, 2] rfl ?_
          refine WP.val rfl rfl rfl rfl (Yld.move rfl rfl) ?_
          refine WP.val rfl rfl rfl rfl (Yld.add64 rfl rfl rfl (by omega)) ?_
          refine WP.val rfl rfl rfl rfl (Yld.assign rfl rfl) ?_
          refine WP.nil ?_
          refine WP.sub [(0, _), (1, _), (2, _), (8, _), (9, _), (10, _), (22, _), (30, _)] ?_ ⟨rfl, rfl, rfl, rfl, rfl, rfl, rfl, rfl, trivial⟩
          exact WP.again ⟨i + 1, ⟨x1, v1, k1, l1, [(bw, row 46 (wc x1 ++ sw_))]⟩⟩ ⟨by omega, hx1, hl1, how, hk1, hkm, hsw2⟩ (by simp only; omega) ⟨rfl, rfl, rfl, rfl, rfl, rfl, trivial⟩ rfl (by (try dsimp only); repeat (first | exact Rm.chunk | exact Rm.here | exact Rm.nil0 | apply Rm.skip | apply Rm.skipS | apply PX.cons | (apply PX.done; (repeat (first | exact Leave.done | apply Leave.drop | apply Leave.dropS)); done) | apply PX.app))
        · have hsw2 : rsw most (List.range' (i + 1) (xo.length - (i + 1))) (x1.set i (refStep x1[i] v1).1, (refStep x1[i] v1).2, k1 + 1, true) = (rsw most (List.range xo.length) (xo, vo, ko, false)) := by rw [← hsw, if_neg (by rw [hdn]; decide)]
          refine WP.val rfl rfl rfl rfl (Yld.not rfl rfl) ?_
          refine WP.nil ?_
          refine WP.sub [(0, _), (1, _), (2, _), (8, _), (9, _), (10, _), (22, _), (30, _)] ?_ ⟨rfl, rfl, rfl, rfl, rfl, rfl, rfl, rfl, trivial⟩
          refine WP.next ?_
          refine WP.condT rfl ?_
          refine WP.seq ?_
          refine WP.region [0, 1, 2, 3, 4, 5] rfl ?_
          refine WP.val rfl rfl rfl rfl (Yld.move rfl rfl) ?_
          refine WP.val rfl rfl rfl rfl (Yld.move rfl rfl) ?_
          refine WP.val rfl rfl rfl rfl (Yld.indexAddr (i := i) rfl ty_sl_44 rfl rfl hil) ?_
          refine WP.val rfl rfl rfl rfl (Yld.move rfl rfl) ?_
          refine WP.loud rfl rfl ?_
          refine Op.call (loom_refStepI hil (hl1 _ (List.getElem_mem hil))) rfl Try.func20 rfl rfl rfl rfl (by repeat (first | exact Take.nil | with_reducible apply Take.cons | apply Take.app | exact Rm.chunk | exact Rm.here | exact Rm.nil0 | apply Rm.skip | apply Rm.skipS | (focus (apply Take.all; (repeat (first | exact Rm.chunk | exact Rm.here | exact Rm.nil0 | apply Rm.skip | apply Rm.skipS)); done)) | apply Take.cons)) ?_
          rintro v J L1 hJ ⟨rfl, rfl, rfl⟩
          clear hJ; try simp only [List.cons_append, List.nil_append, List.append_assoc]
          refine WP.val rfl rfl rfl rfl (Yld.assign rfl rfl) ?_
          refine WP.nil ?_
          refine WP.sub [(0, _), (1, _), (2, _), (8, _), (9, _), (10, _), (22, _), (30, _)] ?_ ⟨rfl, rfl, rfl, rfl, rfl, rfl, rfl, rfl, trivial⟩
          refine WP.next ?_
          refine WP.seq ?_
          refine WP.region [0] rfl ?_
          refine WP.val rfl rfl rfl rfl (Yld.assign rfl rfl) ?_
          refine WP.nil ?_
          refine WP.next ?_
          refine WP.region [0, 1, 2] rfl ?_
          refine WP.val rfl rfl rfl rfl (Yld.move rfl rfl) ?_
          refine WP.val rfl rfl rfl rfl (Yld.add64 rfl rfl rfl (by omega)) ?_
          refine WP.val rfl rfl rfl rfl (Yld.assign rfl rfl) ?_
          refine WP.nil ?_
          refine WP.sub [(0, _), (1, _), (2, _), (8, _), (9, _), (10, _), (22, _), (30, _)] ?_ ⟨rfl, rfl, rfl, rfl, rfl, rfl, rfl, rfl, trivial⟩
          refine WP.leave ?_
          refine WP.next ?_
          refine WP.region [0, 1, 2] rfl ?_
          refine WP.val rfl rfl rfl rfl (Yld.move rfl rfl) ?_
          refine WP.val rfl rfl rfl rfl (Yld.add64 rfl rfl rfl (by omega)) ?_
          refine WP.val rfl rfl rfl rfl (Yld.assign rfl rfl) ?_
          refine WP.nil ?_
          refine WP.sub [(0, _), (1, _), (2, _), (8, _), (9, _), (10, _), (22, _), (30, _)] ?_ ⟨rfl, rfl, rfl, rfl, rfl, rfl, rfl, rfl, trivial⟩
          exact WP.again ⟨i + 1, ⟨x1.set i (refStep x1[i] v1).1, (refStep x1[i] v1).2, k1 + 1, true, [(bw, row 46 (wc (x1.set i (refStep x1[i] v1).1) ++ sw_))]⟩⟩ ⟨by omega, by simp only [List.length_set]; exact hx1, lefts_set hl1 (refStep_left (hl1 _ (List.getElem_mem hil))) i, by simp only [List.length_set]; exact Own.blk (by rw [wc, flat_len rad_len, List.length_set]) (by rw [wc, flat_len rad_len, List.length_set]; rw [wc, flat_len rad_len] at hqw; exact hqw) hrw, by simp only; omega, by simp only; omega, hsw2⟩ (by simp only; omega) ⟨rfl, rfl, rfl, rfl, rfl, rfl, trivial⟩ rfl (by (try dsimp only); repeat (first | exact Rm.chunk | exact Rm.here | exact Rm.nil0 | apply Rm.skip | apply Rm.skipS | apply PX.cons | (apply PX.done; (repeat (first | exact Leave.done | apply Leave.drop | apply Leave.dropS)); done) | apply PX.app))
      · have hR : (rsw most (List.range xo.length) (xo, vo, ko, false)) = (x1, v1, k1, l1) := by rw [← hsw]; exact rsw_stop g2
        refine WP.val rfl rfl rfl rfl (Yld.pickT rfl rfl rfl) ?_
        refine WP.nil ?_
        refine WP.sub [(0, _), (1, _), (2, _), (8, _), (9, _), (10, _), (22, _)] ?_ ⟨rfl, rfl, rfl, rfl, rfl, rfl, rfl, trivial⟩
        refine WP.next ?_
        refine WP.condF rfl ?_
        refine WP.exit ?_
        refine WP.thenE ?_
        refine WP.thenE ?_
        refine WP.hit ?_
        refine WP.next ?_
        refine WP.seq ?_
        rw [hR] at hrun hn1 hn2 hn3 hn4
        simp only at hrun hn1 hn2 hn3 hn4
        by_cases hb_l1 : l1 = true
        · subst hb_l1
          refine WP.region [0, 1] rfl ?_
          refine WP.val rfl rfl rfl rfl (Yld.move rfl rfl) ?_
          refine WP.val rfl rfl rfl rfl (Yld.not rfl rfl) ?_
          refine WP.nil ?_
          refine WP.sub [(0, _), (1, _), (2, _), (8, _), (9, _), (10, _), (22, _), (39, _)] ?_ ⟨rfl, rfl, rfl, rfl, rfl, rfl, rfl, rfl, trivial⟩
          refine WP.next ?_
          refine WP.condF rfl ?_
          refine WP.skip ?_
          refine WP.leave ?_
          rw [if_pos rfl] at hrun
          have hlt1 : ko < k1 := by rcases hn4 rfl with h | h; exact absurd h (by decide); exact h
          exact WP.again ⟨f, ⟨x1, v1, k1, true, L1⟩⟩ ⟨by simp only; omega, hl1, how, by simp only; omega, by simp only; omega, hrun⟩ (by simp only; omega) ⟨rfl, rfl, rfl, rfl, trivial⟩ rfl (by (try dsimp only); repeat (first | exact Rm.chunk | exact Rm.here | exact Rm.nil0 | apply Rm.skip | apply Rm.skipS | apply PX.cons | (apply PX.done; (repeat (first | exact Leave.done | apply Leave.drop | apply Leave.dropS)); done) | apply PX.app))
        · obtain rfl : l1 = false := by simpa using hb_l1
          refine WP.region [0, 1] rfl ?_
          refine WP.val rfl rfl rfl rfl (Yld.move rfl rfl) ?_
          refine WP.val rfl rfl rfl rfl (Yld.not rfl rfl) ?_
          refine WP.nil ?_
          refine WP.sub [(0, _), (1, _), (2, _), (8, _), (9, _), (10, _), (22, _), (39, _)] ?_ ⟨rfl, rfl, rfl, rfl, rfl, rfl, rfl, rfl, trivial⟩
          refine WP.next ?_
          refine WP.condT rfl ?_
          refine WP.seq ?_
          refine WP.region [0, 1, 2, 3] rfl ?_
          refine WP.val rfl rfl rfl rfl (Yld.move rfl rfl) ?_
          refine WP.val rfl rfl rfl rfl (Yld.move rfl rfl) ?_
          refine WP.val rfl rfl rfl rfl (Yld.assign rfl rfl) ?_
          refine WP.val rfl rfl rfl rfl (Yld.assign rfl rfl) ?_
          refine WP.nil ?_
          refine WP.sub [(0, _), (1, _), (2, _), (6, _), (7, _), (8, _), (9, _), (10, _), (22, _), (39, _)] ?_ ⟨rfl, rfl, rfl, rfl, rfl, rfl, rfl, rfl, rfl, rfl, trivial⟩
          refine WP.next ?_
          refine WP.ret ?_
          refine WP.fin .ret (.inr rfl) (res2 rfl rfl rfl) (L1) (by repeat (first | exact Take.nil | with_reducible apply Take.cons | apply Take.app | exact Rm.chunk | exact Rm.here | exact Rm.nil0 | apply Rm.skip | apply Rm.skipS | (focus (apply Take.all; (repeat (first | exact Rm.chunk | exact Rm.here | exact Rm.nil0 | apply Rm.skip | apply Rm.skipS)); done)) | apply Take.cons)) (by repeat (first | exact Leave.done | apply Leave.drop | apply Leave.dropS)) (Imm.le_refl _) ?_
          rw [if_neg (by decide)] at hrun
          rw [← hrun]
          exact ⟨rfl, rfl, how⟩
    · simp only at hi0 hx1 hl1 how hk1 hkm hsw g1
      have hR : (rsw most (List.range xo.length) (xo, vo, ko, false)) = (x1, v1, k1, l1) := by rw [← hsw, show xo.length - i = 0 by omega]; rfl
      refine WP.val rfl rfl rfl rfl (Yld.move rfl rfl) ?_
      refine WP.passG rfl rfl rfl rfl rfl rfl rfl rfl ?_
      refine WP.passG rfl rfl rfl rfl rfl rfl rfl rfl ?_
      refine WP.passG rfl rfl rfl rfl rfl rfl rfl rfl ?_
      refine WP.val rfl rfl rfl rfl (Yld.pickF rfl rfl rfl) ?_
      refine WP.nil ?_
      refine WP.sub [(0, _), (1, _), (2, _), (8, _), (9, _), (10, _), (22, _)] ?_ ⟨rfl, rfl, rfl, rfl, rfl, rfl, rfl, trivial⟩
      refine WP.next ?_
      refine WP.condF rfl ?_
      refine WP.exit ?_
      refine WP.thenE ?_
      refine WP.thenE ?_
      refine WP.hit ?_
      refine WP.next ?_
      refine WP.seq ?_
      rw [hR] at hrun hn1 hn2 hn3 hn4
      simp only at hrun hn1 hn2 hn3 hn4
      by_cases hb_l1 : l1 = true
      · subst hb_l1
        refine WP.region [0, 1] rfl ?_
        refine WP.val rfl rfl rfl rfl (Yld.move rfl rfl) ?_
        refine WP.val rfl rfl rfl rfl (Yld.not rfl rfl) ?_
        refine WP.nil ?_
        refine WP.sub [(0, _), (1, _), (2, _), (8, _), (9, _), (10, _), (22, _), (39, _)] ?_ ⟨rfl, rfl, rfl, rfl, rfl, rfl, rfl, rfl, trivial⟩
        refine WP.next ?_
        refine WP.condF rfl ?_
        refine WP.skip ?_
        refine WP.leave ?_
        rw [if_pos rfl] at hrun
        have hlt1 : ko < k1 := by rcases hn4 rfl with h | h; exact absurd h (by decide); exact h
        exact WP.again ⟨f, ⟨x1, v1, k1, true, L1⟩⟩ ⟨by simp only; omega, hl1, how, by simp only; omega, by simp only; omega, hrun⟩ (by simp only; omega) ⟨rfl, rfl, rfl, rfl, trivial⟩ rfl (by (try dsimp only); repeat (first | exact Rm.chunk | exact Rm.here | exact Rm.nil0 | apply Rm.skip | apply Rm.skipS | apply PX.cons | (apply PX.done; (repeat (first | exact Leave.done | apply Leave.drop | apply Leave.dropS)); done) | apply PX.app))
      · obtain rfl : l1 = false := by simpa using hb_l1
        refine WP.region [0, 1] rfl ?_
        refine WP.val rfl rfl rfl rfl (Yld.move rfl rfl) ?_
        refine WP.val rfl rfl rfl rfl (Yld.not rfl rfl) ?_
        refine WP.nil ?_
        refine WP.sub [(0, _), (1, _), (2, _), (8, _), (9, _), (10, _), (22, _), (39, _)] ?_ ⟨rfl, rfl, rfl, rfl, rfl, rfl, rfl, rfl, trivial⟩
        refine WP.next ?_
        refine WP.condT rfl ?_
        refine WP.seq ?_
        refine WP.region [0, 1, 2, 3] rfl ?_
        refine WP.val rfl rfl rfl rfl (Yld.move rfl rfl) ?_
        refine WP.val rfl rfl rfl rfl (Yld.move rfl rfl) ?_
        refine WP.val rfl rfl rfl rfl (Yld.assign rfl rfl) ?_
        refine WP.val rfl rfl rfl rfl (Yld.assign rfl rfl) ?_
        refine WP.nil ?_
        refine WP.sub [(0, _), (1, _), (2, _), (6, _), (7, _), (8, _), (9, _), (10, _), (22, _), (39, _)] ?_ ⟨rfl, rfl, rfl, rfl, rfl, rfl, rfl, rfl, rfl, rfl, trivial⟩
        refine WP.next ?_
        refine WP.ret ?_
        refine WP.fin .ret (.inr rfl) (res2 rfl rfl rfl) (L1) (by repeat (first | exact Take.nil | with_reducible apply Take.cons | apply Take.app | exact Rm.chunk | exact Rm.here | exact Rm.nil0 | apply Rm.skip | apply Rm.skipS | (focus (apply Take.all; (repeat (first | exact Rm.chunk | exact Rm.here | exact Rm.nil0 | apply Rm.skip | apply Rm.skipS)); done)) | apply Take.cons)) (by repeat (first | exact Leave.done | apply Leave.drop | apply Leave.dropS)) (Imm.le_refl _) ?_
        rw [if_neg (by decide)] at hrun
        rw [← hrun]
        exact ⟨rfl, rfl, how⟩
  · simp only at hxo hlo how hk0 hkf hrun hlt
    rw [refRunL_stop hlt] at hrun
    refine WP.nil ?_
    refine WP.sub [(0, _), (1, _), (2, _), (8, _), (13, _)] ?_ ⟨rfl, rfl, rfl, rfl, rfl, trivial⟩
    refine WP.next ?_
    refine WP.condF rfl ?_
    refine WP.exit ?_
    refine WP.thenE ?_
    refine WP.thenE ?_
    refine WP.hit ?_
    refine WP.next ?_
    refine WP.seq ?_
    refine WP.region [0, 1, 2, 3] rfl ?_
    refine WP.val rfl rfl rfl rfl (Yld.move rfl rfl) ?_
    refine WP.val rfl rfl rfl rfl (Yld.move rfl rfl) ?_
    refine WP.val rfl rfl rfl rfl (Yld.assign rfl rfl) ?_
    refine WP.val rfl rfl rfl rfl (Yld.assign rfl rfl) ?_
    refine WP.nil ?_
    refine WP.sub [(0, _), (1, _), (2, _), (6, _), (7, _), (8, _), (13, _)] ?_ ⟨rfl, rfl, rfl, rfl, rfl, rfl, rfl, trivial⟩
    refine WP.next ?_
    refine WP.ret ?_
    refine WP.fin .ret (.inr rfl) (res2 rfl rfl rfl) (Lo) (by repeat (first | exact Take.nil | with_reducible apply Take.cons | apply Take.app | exact Rm.chunk | exact Rm.here | exact Rm.nil0 | apply Rm.skip | apply Rm.skipS | (focus (apply Take.all; (repeat (first | exact Rm.chunk | exact Rm.here | exact Rm.nil0 | apply Rm.skip | apply Rm.skipS)); done)) | apply Take.cons)) (by repeat (first | exact Leave.done | apply Leave.drop | apply Leave.dropS)) (Imm.le_refl _) ?_
    rw [← hrun]
    exact ⟨rfl, rfl, how⟩


end Go.Hp
