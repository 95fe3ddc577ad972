import Derived.Test.YtdobkjbpehdokaaLoomS
set_option linter.unusedVariables false
set_option linter.unusedSimpArgs false
namespace Go.Hp
open Go Go.Proofs

theorem nd_all (l : List Ad) (h : ∀ a ∈ l, a.done = false) : sumI nd l = l.length := by
  induction l with
  | nil => rfl
  | cons a l ih =>
    have h1 := ih (fun b hb => h b (by simp [hb]))
    simp only [sumI, List.map_cons, List.sum_cons, List.length_cons] at h1 ⊢
    rw [h1, show nd a = 1 by simp [nd, h a (by simp)]]
    omega
theorem pick_live {xs : List Ad} {s : CS} {i : Nat} (h : i < xs.length) (hd : xs[i].done = false) : pick xs s (i : Int) = ((stepAt xs s i).1, (stepAt xs s i).2, 0) := by
  unfold pick; rw [adAt_lt h]; simp [hd]
structure LV where
  i : Nat
  xs : List Ad
  s : CS
  still : Int
  Ll : Chunks
theorem loom_LoomMoves {I : Imm} {first : Int} (hfr : -9223372036854775808 ≤ first ∧ first ≤ 9223372036854775807) {jobs : List Job} {vj : Value} (hj : Slc I 3 RJob vj jobs) {picks : List Int} {vp : Value} (hp : SlRd (fun b o => I.blk b = some o) vp picks.length 1 (picks.map (Value.int .i64))) (hpn : picks.length ≤ 1152921504606846976) : Spec Try.prog 3 [.int .i64 first, vj, vp] I [] (fun v J L => v = .bool true ∧ I = J ∧ L = []) := by
  obtain ⟨A, cap, rfl, hcap, hjobs⟩ := hj
  refine Spec.of Try.func3 rfl Try.ntmps3 (Nat.le_of_ble_eq_true rfl) (fun F => ?_)
  try simp only [List.cons_append, List.nil_append, List.append_assoc]
  dsimp only [argsEnv]
  refine WP.seq ?_
  refine WP.region [0] rfl ?_
  refine WP.val rfl rfl rfl rfl (Yld.assign rfl rfl) ?_
  refine WP.nil ?_
  refine WP.next ?_
  refine WP.seq ?_
  refine WP.region [0, 1] rfl ?_
  refine WP.loud rfl rfl ?_
  refine Op.call (loom_awake _) rfl Try.func11 rfl rfl rfl rfl (by repeat (first | exact Take.nil | with_reducible apply Take.cons | apply Take.app | exact Rm.chunk | exact Rm.here | exact Rm.nil0 | apply Rm.skip | apply Rm.skipS | (focus (apply Take.all; (repeat (first | exact Rm.chunk | exact Rm.here | exact Rm.nil0 | apply Rm.skip | apply Rm.skipS)); done)) | apply Take.cons)) ?_
  rintro v J L1 hJ ⟨rfl, rfl, rfl⟩
  clear hJ; try simp only [List.cons_append, List.nil_append, List.append_assoc]
  refine WP.val rfl rfl rfl rfl (Yld.assign rfl rfl) ?_
  refine WP.nil ?_
  refine WP.sub [(0, _), (1, _), (2, _), (6, _), (7, _)] ?_ ⟨rfl, rfl, rfl, rfl, rfl, trivial⟩
  refine WP.next ?_
  refine WP.seq ?_
  refine WP.seq ?_
  refine WP.region [0, 1, 2, 3, 4, 5, 6, 7, 8, 9, 10, 11] rfl ?_
  refine WP.val rfl rfl rfl rfl (Yld.move rfl rfl) ?_
  refine WP.val rfl rfl rfl rfl (Yld.not rfl rfl) ?_
  refine WP.val rfl rfl rfl rfl (Yld.move rfl rfl) ?_
  refine WP.valG rfl rfl rfl rfl rfl rfl rfl (Yld.move rfl rfl) ?_
  refine WP.valG rfl rfl rfl rfl rfl rfl rfl (Yld.len rfl ty_sl_22 rfl) ?_
  refine WP.splitG rfl rfl rfl rfl rfl rfl rfl (Yld.lss rfl rfl rfl) (fun h1j => ?_) (fun h1j => ?_)
  · refine WP.val rfl rfl rfl rfl (Yld.pickF rfl rfl rfl) ?_
    refine WP.val rfl rfl rfl rfl (Yld.move rfl rfl) ?_
    refine WP.passG rfl rfl rfl rfl rfl rfl rfl rfl ?_
    refine WP.passG rfl rfl rfl rfl rfl rfl rfl rfl ?_
    refine WP.passG rfl rfl rfl rfl rfl rfl rfl rfl ?_
    refine WP.val rfl rfl rfl rfl (Yld.pickT rfl rfl rfl) ?_
    refine WP.nil ?_
    refine WP.sub [(0, _), (1, _), (2, _), (6, _), (7, _), (32, _)] ?_ ⟨rfl, rfl, rfl, rfl, rfl, rfl, trivial⟩
    refine WP.next ?_
    refine WP.condT rfl ?_
    refine WP.seq ?_
    refine WP.region [0, 1] rfl ?_
    refine WP.val rfl rfl rfl rfl (Yld.move rfl rfl) ?_
    refine WP.val rfl rfl rfl rfl (Yld.assign rfl rfl) ?_
    refine WP.nil ?_
    refine WP.sub [(0, _), (1, _), (2, _), (6, _), (7, _), (32, _)] ?_ ⟨rfl, rfl, rfl, rfl, rfl, rfl, trivial⟩
    refine WP.next ?_
    refine WP.ret ?_
    refine WP.fin .ret (.inr rfl) (res1 rfl rfl) [] (by repeat (first | exact Take.nil | with_reducible apply Take.cons | apply Take.app | exact Rm.chunk | exact Rm.here | exact Rm.nil0 | apply Rm.skip | apply Rm.skipS | (focus (apply Take.all; (repeat (first | exact Rm.chunk | exact Rm.here | exact Rm.nil0 | apply Rm.skip | apply Rm.skipS)); done)) | apply Take.cons)) (by repeat (first | exact Leave.done | apply Leave.drop | apply Leave.dropS)) (Imm.le_refl _) ?_
    exact ⟨rfl, rfl, rfl⟩
  · refine WP.val rfl rfl rfl rfl (Yld.pickF rfl rfl rfl) ?_
    refine WP.val rfl rfl rfl rfl (Yld.move rfl rfl) ?_
    refine WP.valG rfl rfl rfl rfl rfl rfl rfl (Yld.move rfl rfl) ?_
    refine WP.valG rfl rfl rfl rfl rfl rfl rfl (Yld.len rfl ty_sl_22 rfl) ?_
    refine WP.splitG rfl rfl rfl rfl rfl rfl rfl (Yld.gtr rfl rfl rfl) (fun h30 => ?_) (fun h30 => ?_)
    · refine WP.val rfl rfl rfl rfl (Yld.pickF rfl rfl rfl) ?_
      refine WP.nil ?_
      refine WP.sub [(0, _), (1, _), (2, _), (6, _), (7, _), (32, _)] ?_ ⟨rfl, rfl, rfl, rfl, rfl, rfl, trivial⟩
      refine WP.next ?_
      refine WP.condT rfl ?_
      refine WP.seq ?_
      refine WP.region [0, 1] rfl ?_
      refine WP.val rfl rfl rfl rfl (Yld.move rfl rfl) ?_
      refine WP.val rfl rfl rfl rfl (Yld.assign rfl rfl) ?_
      refine WP.nil ?_
      refine WP.sub [(0, _), (1, _), (2, _), (6, _), (7, _), (32, _)] ?_ ⟨rfl, rfl, rfl, rfl, rfl, rfl, trivial⟩
      refine WP.next ?_
      refine WP.ret ?_
      refine WP.fin .ret (.inr rfl) (res1 rfl rfl) [] (by repeat (first | exact Take.nil | with_reducible apply Take.cons | apply Take.app | exact Rm.chunk | exact Rm.here | exact Rm.nil0 | apply Rm.skip | apply Rm.skipS | (focus (apply Take.all; (repeat (first | exact Rm.chunk | exact Rm.here | exact Rm.nil0 | apply Rm.skip | apply Rm.skipS)); done)) | apply Take.cons)) (by repeat (first | exact Leave.done | apply Leave.drop | apply Leave.dropS)) (Imm.le_refl _) ?_
      exact ⟨rfl, rfl, rfl⟩
    · refine WP.val rfl rfl rfl rfl (Yld.pickF rfl rfl rfl) ?_
      refine WP.nil ?_
      refine WP.sub [(0, _), (1, _), (2, _), (6, _), (7, _), (32, _)] ?_ ⟨rfl, rfl, rfl, rfl, rfl, rfl, trivial⟩
      refine WP.next ?_
      refine WP.condF rfl ?_
      refine WP.skip ?_
      refine WP.next ?_
      refine WP.seq ?_
      refine WP.region [0, 1] rfl ?_
      refine WP.loud rfl rfl ?_
      refine Op.call (cell_NewCount _) rfl Try.func12 rfl rfl rfl rfl (by repeat (first | exact Take.nil | with_reducible apply Take.cons | apply Take.app | exact Rm.chunk | exact Rm.here | exact Rm.nil0 | apply Rm.skip | apply Rm.skipS | (focus (apply Take.all; (repeat (first | exact Rm.chunk | exact Rm.here | exact Rm.nil0 | apply Rm.skip | apply Rm.skipS)); done)) | apply Take.cons)) ?_
      rintro v J L1 hJ ⟨c, rfl, rfl, rfl⟩
      clear hJ; try simp only [List.cons_append, List.nil_append, List.append_assoc]
      refine WP.val rfl rfl rfl rfl (Yld.assign rfl rfl) ?_
      refine WP.nil ?_
      refine WP.sub [(0, _), (1, _), (2, _), (6, _), (7, _), (8, _), (32, _)] ?_ ⟨rfl, rfl, rfl, rfl, rfl, rfl, rfl, trivial⟩
      refine WP.next ?_
      refine WP.seq ?_
      refine WP.region [0, 1, 2, 3] rfl ?_
      refine WP.val rfl rfl rfl rfl (Yld.move rfl rfl) ?_
      refine WP.val rfl rfl rfl rfl (Yld.move rfl rfl) ?_
      refine WP.loud rfl rfl ?_
      refine Op.call cs_New rfl Try.func13 rfl rfl rfl rfl (by repeat (first | exact Take.nil | with_reducible apply Take.cons | apply Take.app | exact Rm.chunk | exact Rm.here | exact Rm.nil0 | apply Rm.skip | apply Rm.skipS | (focus (apply Take.all; (repeat (first | exact Rm.chunk | exact Rm.here | exact Rm.nil0 | apply Rm.skip | apply Rm.skipS)); done)) | apply Take.cons)) ?_
      rintro v J L1 hJ ⟨q, rfl, rfl, rfl⟩
      clear hJ; try simp only [List.cons_append, List.nil_append, List.append_assoc]
      refine WP.val rfl rfl rfl rfl (Yld.assign rfl rfl) ?_
      refine WP.nil ?_
      refine WP.sub [(0, _), (1, _), (2, _), (6, _), (7, _), (8, _), (9, _), (32, _)] ?_ ⟨rfl, rfl, rfl, rfl, rfl, rfl, rfl, rfl, trivial⟩
      refine WP.next ?_
      refine WP.seq ?_
      refine WP.region [0, 1] rfl ?_
      refine WP.loud rfl rfl ?_
      refine Op.call (loom_New I q) rfl Try.func14 rfl rfl rfl rfl (by repeat (first | exact Take.nil | with_reducible apply Take.cons | apply Take.app | exact Rm.chunk | exact Rm.here | exact Rm.nil0 | apply Rm.skip | apply Rm.skipS | (focus (apply Take.all; (repeat (first | exact Rm.chunk | exact Rm.here | exact Rm.nil0 | apply Rm.skip | apply Rm.skipS)); done)) | apply Take.cons)) ?_
      rintro v J Ll hJ ⟨l, rfl, rfl, hd⟩
      clear hJ; try simp only [List.cons_append, List.nil_append, List.append_assoc]
      refine WP.val rfl rfl rfl rfl (Yld.assign rfl rfl) ?_
      refine WP.nil ?_
      refine WP.sub [(0, _), (1, _), (2, _), (6, _), (7, _), (8, _), (9, _), (10, _), (32, _)] ?_ ⟨rfl, rfl, rfl, rfl, rfl, rfl, rfl, rfl, rfl, trivial⟩
      refine WP.next ?_
      refine WP.seq ?_
      refine WP.seq ?_
      refine WP.region [0] rfl ?_
      refine WP.val rfl rfl rfl rfl (Yld.assign rfl rfl) ?_
      refine WP.nil ?_
      refine WP.next ?_
      refine WP.block ?_
      refine WP.loop (X := Nat × Chunks) (fun t : Nat × Chunks => [(1, .slice A jobs.length cap), (2, vp), (8, .pointer (some ⟨c, 0, none⟩)), (9, .pointer (some ⟨q, 0, none⟩)), (10, .pointer (some ⟨l, 0, none⟩)), (11, .int .i64 (t.1 : Int))]) (fun _ => I) (fun t : Nat × Chunks => t.2 ++ (csCh q c ⟨first, 0, 0, 0, 0, 0⟩ ++ F)) (fun t : Nat × Chunks => t.1 ≤ jobs.length ∧ IsLoom l q (mkSs jobs t.1) t.2) (fun t => jobs.length - t.1) ⟨0, Ll⟩ ⟨Nat.zero_le _, hd⟩ ⟨rfl, rfl, rfl, rfl, rfl, rfl, trivial⟩ rfl (by (try dsimp only); repeat (first | exact Rm.chunk | exact Rm.here | exact Rm.nil0 | apply Rm.skip | apply Rm.skipS | apply PX.cons | (apply PX.done; (repeat (first | exact Leave.done | apply Leave.drop | apply Leave.dropS)); done) | apply PX.app)) ?_
      rintro ⟨i, Ll⟩ ⟨hle, hd⟩
      try dsimp only
      try simp only [List.cons_append, List.nil_append, List.append_assoc]
      refine WP.seq ?_
      refine WP.seq ?_
      refine WP.region [0, 1, 2, 3] rfl ?_
      refine WP.val rfl rfl rfl rfl (Yld.move rfl rfl) ?_
      refine WP.val rfl rfl rfl rfl (Yld.move rfl rfl) ?_
      refine WP.val rfl rfl rfl rfl (Yld.len rfl ty_sl_22 rfl) ?_
      refine WP.split rfl rfl rfl rfl (Yld.lss rfl rfl rfl) (fun hlt => ?_) (fun hlt => ?_)
      · simp only at hle hd
        have hi : i < jobs.length := by first | omega | (simp only at hlt; omega)
        obtain ⟨b, kk, arr, T, fr, rfl, hb, hel⟩ := hjobs.resolve_left (by rintro rfl; simp at hi)
        obtain ⟨_, hR⟩ := hel i _ (List.getElem?_eq_getElem hi)
        unfold RJob at hR
        have e0 := take_cells hR 0 _ rfl (by decide)
        have e1 := take_cells hR 1 _ rfl (by decide)
        have e2 := take_cells hR 2 _ rfl (by decide)
        rw [Array.getElem?_toList] at e0 e1 e2
        have htm := tm_le jobs[i].times
        refine WP.nil ?_
        refine WP.sub [(1, _), (2, _), (8, _), (9, _), (10, _), (11, _), (42, _)] ?_ ⟨rfl, rfl, rfl, rfl, rfl, rfl, rfl, trivial⟩
        refine WP.next ?_
        refine WP.condT rfl ?_
        refine WP.skip ?_
        refine WP.next ?_
        refine WP.seq ?_
        refine WP.block ?_
        refine WD.start Trymixed 14 (There I []) (fun _ _ => False) SubL.nil (fun _ _ h => h.elim) 15 [false, false, false, false, false, false, false, false, false, false, false, false, false, false, false] rfl rfl ?_
        refine WD.val (i := 0) rfl rfl rfl rfl (by kernel_rfl) rfl (Yld.move rfl rfl) ?_
        refine WD.val (i := 1) rfl rfl rfl rfl (by kernel_rfl) rfl (Yld.move rfl rfl) ?_
        refine WD.val (i := 2) rfl rfl rfl rfl (by kernel_rfl) rfl (Yld.move rfl rfl) ?_
        refine WD.val (i := 3) rfl rfl rfl rfl (by kernel_rfl) rfl (Yld.move rfl rfl) ?_
        refine WD.val (i := 4) rfl rfl rfl rfl (by kernel_rfl) rfl (Yld.indexAddr (i := i) rfl ty_sl_22 rfl rfl hi) ?_
        refine WD.val (i := 5) rfl rfl rfl rfl (by kernel_rfl) rfl (Yld.fieldAddr rfl ty_fd_36_0 rfl) ?_
        refine WD.val1 (i := 6) rfl rfl rfl rfl (by kernel_rfl) rfl (by kernel_rfl) (Yld.loadC rfl ty_sc_3 rfl (.inl (There.i hb)) e0) ?_
        refine WD.val (i := 7) rfl rfl rfl rfl (by kernel_rfl) rfl (Yld.remT rfl rfl rfl (by decide)) ?_
        refine WD.val (i := 8) rfl rfl rfl rfl (by kernel_rfl) rfl (Yld.move rfl rfl) ?_
        refine WD.val (i := 9) rfl rfl rfl rfl (by kernel_rfl) rfl (Yld.move rfl rfl) ?_
        refine WD.val (i := 10) rfl rfl rfl rfl (by kernel_rfl) rfl (Yld.indexAddr (i := i) rfl ty_sl_22 rfl rfl hi) ?_
        refine WD.val (i := 11) rfl rfl rfl rfl (by kernel_rfl) rfl (Yld.fieldAddr rfl ty_fd_36_1 rfl) ?_
        refine WD.val1 (i := 12) rfl rfl rfl rfl (by kernel_rfl) rfl (by kernel_rfl) (Yld.loadC rfl ty_sc_3 rfl (.inl (There.i hb)) e1) ?_
        refine WD.loud (i := 13) (by kernel_rfl) rfl rfl rfl ?_
        refine Op.call loom_NewAdder rfl Try.func16 rfl rfl rfl rfl (by repeat (first | exact Take.nil | with_reducible apply Take.cons | apply Take.app | exact Rm.chunk | exact Rm.here | exact Rm.nil0 | apply Rm.skip | apply Rm.skipS | (focus (apply Take.all; (repeat (first | exact Rm.chunk | exact Rm.here | exact Rm.nil0 | apply Rm.skip | apply Rm.skipS)); done)) | apply Take.cons)) ?_
        rintro v J L1 hJ ⟨mb, rfl, rfl, rfl⟩
        clear hJ; try simp only [List.cons_append, List.nil_append, List.append_assoc]
        refine WD.go (.inr SubL.nil) (fun _ _ h => h.elim) ?_
        refine WD.loud (i := 14) (by kernel_rfl) rfl rfl rfl ?_
        refine Op.call (loom_Add hd (by rw [mkSs_len _ _ (by omega)]; omega) (a := mkS jobs[i]) (by show tm _ ≤ _; omega)) rfl Try.func15 rfl rfl rfl rfl (by repeat (first | exact Take.nil | with_reducible apply Take.cons | apply Take.app | exact Rm.chunk | exact Rm.here | exact Rm.nil0 | apply Rm.skip | apply Rm.skipS | (focus (apply Take.all; (repeat (first | exact Rm.chunk | exact Rm.here | exact Rm.nil0 | apply Rm.skip | apply Rm.skipS)); done)) | apply Take.cons)) ?_
        rintro v J Ll' hJ ⟨rfl, rfl, hd'⟩
        clear hJ; try simp only [List.cons_append, List.nil_append, List.append_assoc]
        have hd' : IsLoom l q (mkSs jobs (i + 1)) Ll' := by rw [mkSs_succ hi]; exact hd'
        refine WD.go (.inl rfl) (fun _ _ h => h.elim) ?_
        refine WD.done (by kernel_rfl) ?_
        refine WP.sub [(1, _), (2, _), (8, _), (9, _), (10, _), (11, _), (42, _)] ?_ ⟨rfl, rfl, rfl, rfl, rfl, rfl, rfl, trivial⟩
        refine WP.leave ?_
        refine WP.next ?_
        refine WP.region [0, 1, 2] rfl ?_
        refine WP.val rfl rfl rfl rfl (Yld.move rfl rfl) ?_
        refine WP.val rfl rfl rfl rfl (Yld.add64 rfl rfl rfl (by omega)) ?_
        refine WP.val rfl rfl rfl rfl (Yld.assign rfl rfl) ?_
        refine WP.nil ?_
        refine WP.sub [(1, _), (2, _), (8, _), (9, _), (10, _), (11, _), (42, _)] ?_ ⟨rfl, rfl, rfl, rfl, rfl, rfl, rfl, trivial⟩
        exact WP.again ⟨i + 1, Ll'⟩ ⟨hi, hd'⟩ (by simp only; omega) ⟨rfl, rfl, rfl, rfl, rfl, rfl, trivial⟩ rfl (by (try dsimp only); repeat (first | exact Rm.chunk | exact Rm.here | exact Rm.nil0 | apply Rm.skip | apply Rm.skipS | apply PX.cons | (apply PX.done; (repeat (first | exact Leave.done | apply Leave.drop | apply Leave.dropS)); done) | apply PX.app))
      · simp only at hle hd
        obtain rfl : i = jobs.length := by first | omega | (simp only at hlt; omega)
        have hll := mkSs_len jobs jobs.length (Nat.le_refl _)
        have hks := keep_start (l := jobs) (by omega) hfr
        have had := mkSs_rem jobs jobs.length (Nat.le_refl _)
        generalize hA : sumI rem (mkSs jobs jobs.length) = A9 at *
        generalize hT : first + sumI remBy (mkSs jobs jobs.length) = T9 at *
        have hnd0 : sumI nd (mkSs jobs jobs.length) = jobs.length := by rw [nd_all _ (fun a ha => (mkSs_mem ha).2.2), hll]
        have hsl0 := sumI_le (slk first) 2 (mkSs jobs jobs.length) (fun a _ => (slk_le _ a).2)
        rw [hll] at hsl0
        refine WP.nil ?_
        refine WP.sub [(1, _), (2, _), (8, _), (9, _), (10, _), (11, _), (42, _)] ?_ ⟨rfl, rfl, rfl, rfl, rfl, rfl, rfl, trivial⟩
        refine WP.next ?_
        refine WP.condF rfl ?_
        refine WP.exit ?_
        refine WP.thenE ?_
        refine WP.thenE ?_
        refine WP.hit ?_
        refine WP.next ?_
        refine WP.seq ?_
        refine WP.region [0] rfl ?_
        refine WP.val rfl rfl rfl rfl (Yld.assign rfl rfl) ?_
        refine WP.nil ?_
        refine WP.next ?_
        refine WP.seq ?_
        refine WP.region [0] rfl ?_
        refine WP.val rfl rfl rfl rfl (Yld.assign rfl rfl) ?_
        refine WP.nil ?_
        refine WP.next ?_
        refine WP.seq ?_
        refine WP.region [0] rfl ?_
        refine WP.val rfl rfl rfl rfl (Yld.assign rfl rfl) ?_
        refine WP.nil ?_
        refine WP.next ?_
        refine WP.seq ?_
        refine WP.seq ?_
        refine WP.region [0] rfl ?_
        refine WP.val rfl rfl rfl rfl (Yld.assign rfl rfl) ?_
        refine WP.nil ?_
        refine WP.next ?_
        refine WP.block ?_
        refine WP.loop (X := LV) (fun t : LV => [(1, .slice A jobs.length cap), (2, vp), (8, .pointer (some ⟨c, 0, none⟩)), (9, .pointer (some ⟨q, 0, none⟩)), (10, .pointer (some ⟨l, 0, none⟩)), (12, .int .i64 t.still), (13, .int .i64 t.s.sw), (14, .int .i64 ((jobs.length : Int) - sumI nd t.xs)), (15, .int .i64 (t.i : Int))]) (fun _ => I) (fun t : LV => t.Ll ++ (csCh q c t.s ++ F)) (fun t => t.i ≤ picks.length ∧ IsLoom l q t.xs t.Ll ∧ Keep A9 T9 t.xs t.s ∧ t.xs.length = jobs.length ∧ 0 ≤ t.still ∧ t.still + sumI (slk t.s.v) t.xs ≤ 2 * (jobs.length : Int)) (fun t => picks.length - t.i) ⟨0, mkSs jobs jobs.length, ⟨first, 0, 0, 0, 0, 0⟩, 0, Ll⟩ ⟨Nat.zero_le _, hd, hks, hll, Int.le_refl _, by simp only; omega⟩ ⟨rfl, rfl, rfl, rfl, rfl, rfl, rfl, (congrArg (fun z => some (Value.int .i64 z)) (by simp only; omega)), rfl, trivial⟩ rfl (by (try dsimp only); repeat (first | exact Rm.chunk | exact Rm.here | exact Rm.nil0 | apply Rm.skip | apply Rm.skipS | apply PX.cons | (apply PX.done; (repeat (first | exact Leave.done | apply Leave.drop | apply Leave.dropS)); done) | apply PX.app)) ?_
        rintro ⟨i, xs, s, still, Ll⟩ ⟨hle2, hd, hks, hxl, hs0, hsl⟩
        try dsimp only
        try simp only [List.cons_append, List.nil_append, List.append_assoc]
        refine WP.seq ?_
        refine WP.seq ?_
        refine WP.region [0, 1, 2, 3] rfl ?_
        refine WP.val rfl rfl rfl rfl (Yld.move rfl rfl) ?_
        refine WP.val rfl rfl rfl rfl (Yld.move rfl rfl) ?_
        refine WP.val rfl rfl rfl rfl (Yld.lenR hp rfl ty_sl_23 rfl) ?_
        refine WP.split rfl rfl rfl rfl (Yld.lss rfl rfl rfl) (fun hlt => ?_) (fun hlt => ?_)
        · simp only at hle2 hd hks hxl hs0 hsl
          have hip : i < picks.length := by first | omega | (simp only at hlt; omega)
          obtain ⟨bk, kk, ck, Tk, frk, arrk, hvk, hck, hbk, hk4⟩ := hp.get (by omega)
          subst hvk
          have ek := take_cells hk4 i (.int .i64 picks[i]) (by simp [hip]) (by simpa using hip)
          rw [Array.getElem?_toList] at ek
          have hslk0 := sumI_nonneg (slk s.v) xs (fun a _ => (slk_le _ a).1)
          have hnd := nd_live xs
          refine WP.nil ?_
          refine WP.sub [(1, _), (2, _), (8, _), (9, _), (10, _), (12, _), (13, _), (14, _), (15, _), (63, _)] ?_ ⟨rfl, rfl, rfl, rfl, rfl, rfl, rfl, rfl, rfl, rfl, trivial⟩
          refine WP.next ?_
          refine WP.condT rfl ?_
          refine WP.skip ?_
          refine WP.next ?_
          refine WP.seq ?_
          refine WP.block ?_
          refine WP.seq ?_
          refine WP.region [0, 1, 2] rfl ?_
          refine WP.val rfl rfl rfl rfl (Yld.move rfl rfl) ?_
          refine WP.loud rfl rfl ?_
          refine Op.call (loom_Live hd (by omega)) rfl Try.func17 rfl rfl rfl rfl (by repeat (first | exact Take.nil | with_reducible apply Take.cons | apply Take.app | exact Rm.chunk | exact Rm.here | exact Rm.nil0 | apply Rm.skip | apply Rm.skipS | (focus (apply Take.all; (repeat (first | exact Rm.chunk | exact Rm.here | exact Rm.nil0 | apply Rm.skip | apply Rm.skipS)); done)) | apply Take.cons)) ?_
          rintro v J L9 hJ ⟨rfl, Lo, rfl, how⟩
          clear hJ; try simp only [List.cons_append, List.nil_append, List.append_assoc]
          try simp only [List.cons_append, List.nil_append, List.append_assoc]
          have hlb : (live xs).length ≤ xs.length := Nat.le_trans (List.length_filter_le _ _) (by simp)
          refine WP.val rfl rfl rfl rfl (Yld.assign rfl rfl) ?_
          refine WP.nil ?_
          refine WP.sub [(1, _), (2, _), (8, _), (9, _), (10, _), (12, _), (13, _), (14, _), (15, _), (16, _), (63, _)] ?_ ⟨rfl, rfl, rfl, rfl, rfl, rfl, rfl, rfl, rfl, rfl, rfl, trivial⟩
          refine WP.next ?_
          refine WP.seq ?_
          refine WP.seq ?_
          refine WP.region [0, 1, 2] rfl ?_
          refine WP.val rfl rfl rfl rfl (Yld.move rfl rfl) ?_
          refine WP.val rfl rfl rfl rfl (Yld.lenR (how.rd (I := I) (fun p hp => hp)) rfl ty_sl_23 rfl) ?_
          refine WP.split rfl rfl rfl rfl (Yld.eql rfl rfl rfl) (fun hz0 => ?_) (fun hz0 => ?_)
          · refine WP.nil ?_
            refine WP.sub [(1, _), (2, _), (8, _), (9, _), (10, _), (12, _), (13, _), (14, _), (15, _), (16, _), (63, _), (70, _)] ?_ ⟨rfl, rfl, rfl, rfl, rfl, rfl, rfl, rfl, rfl, rfl, rfl, rfl, trivial⟩
            refine WP.next ?_
            refine WP.condT rfl ?_
            refine WP.seq ?_
            refine WP.region [0] rfl ?_
            refine WP.val rfl rfl rfl rfl (Yld.assign rfl rfl) ?_
            refine WP.nil ?_
            refine WP.next ?_
            refine WP.ret ?_
            refine WP.fin .ret (.inr rfl) (res1 rfl rfl) [] (by repeat (first | exact Take.nil | with_reducible apply Take.cons | apply Take.app | exact Rm.chunk | exact Rm.here | exact Rm.nil0 | apply Rm.skip | apply Rm.skipS | (focus (apply Take.all; (repeat (first | exact Rm.chunk | exact Rm.here | exact Rm.nil0 | apply Rm.skip | apply Rm.skipS)); done)) | apply Take.cons)) (by repeat (first | exact Leave.done | apply Leave.drop | apply Leave.dropS)) (Imm.le_refl _) ?_
            exact ⟨rfl, rfl, rfl⟩
          · have hz1 : 0 < (live xs).length := by omega
            obtain ⟨bo, co, so, rfl, rfl, hqo, hro⟩ := how.get hz1
            have hm1 := Int.lt_tmod_of_pos picks[i] (show (0 : Int) < ((live xs).length : Int) by omega)
            have hm2 := Int.tmod_lt_of_pos picks[i] (show (0 : Int) < ((live xs).length : Int) by omega)
            try simp only [List.cons_append, List.nil_append, List.append_assoc]
            refine WP.nil ?_
            refine WP.sub [(1, _), (2, _), (8, _), (9, _), (10, _), (12, _), (13, _), (14, _), (15, _), (16, _), (63, _), (70, _)] ?_ ⟨rfl, rfl, rfl, rfl, rfl, rfl, rfl, rfl, rfl, rfl, rfl, rfl, trivial⟩
            refine WP.next ?_
            refine WP.condF rfl ?_
            refine WP.skip ?_
            refine WP.next ?_
            refine WP.seq ?_
            refine WP.region [0, 1, 2, 3, 4, 5, 6, 7] rfl ?_
            refine WP.val rfl rfl rfl rfl (Yld.move rfl rfl) ?_
            refine WP.val rfl rfl rfl rfl (Yld.move rfl rfl) ?_
            refine WP.val rfl rfl rfl rfl (Yld.indexAddr (i := i) rfl ty_sl_23 rfl rfl hip) ?_
            refine WP.val rfl rfl rfl rfl (Yld.loadC rfl ty_sc_3 rfl (There.i hbk) (by rw [Nat.mul_one]; exact ek)) ?_
            refine WP.val rfl rfl rfl rfl (Yld.move rfl rfl) ?_
            refine WP.val rfl rfl rfl rfl (Yld.len rfl ty_sl_23 rfl) ?_
            refine WP.val rfl rfl rfl rfl (Yld.remT rfl rfl rfl (by omega)) ?_
            refine WP.val rfl rfl rfl rfl (Yld.assign rfl rfl) ?_
            refine WP.nil ?_
            refine WP.sub [(1, _), (2, _), (8, _), (9, _), (10, _), (12, _), (13, _), (14, _), (15, _), (16, _), (17, _), (63, _), (70, _)] ?_ ⟨rfl, rfl, rfl, rfl, rfl, rfl, rfl, rfl, rfl, rfl, rfl, rfl, rfl, trivial⟩
            refine WP.next ?_
            refine WP.cut (X := Nat) (fun j : Nat => [(1, .slice A jobs.length cap), (2, .slice (some ⟨bk, kk, none⟩) picks.length ck), (8, .pointer (some ⟨c, 0, none⟩)), (9, .pointer (some ⟨q, 0, none⟩)), (10, .pointer (some ⟨l, 0, none⟩)), (12, .int .i64 still), (13, .int .i64 s.sw), (14, .int .i64 ((jobs.length : Int) - sumI nd xs)), (15, .int .i64 (i : Int)), (16, .slice (some ⟨bo, 0, none⟩) (live xs).length co), (17, .int .i64 (j : Int))]) (fun _ => I) (fun _ => (bo, row 3 (ints (live xs) ++ so)) :: (Ll ++ (csCh q c s ++ F))) (fun j => j < (live xs).length) ?_ ?_
            · skip
              refine WP.seq ?_
              refine WP.region [0, 1] rfl ?_
              refine WP.val rfl rfl rfl rfl (Yld.move rfl rfl) ?_
              refine WP.split rfl rfl rfl rfl (Yld.lss rfl rfl rfl) (fun hneg => ?_) (fun hneg => ?_)
              · refine WP.nil ?_
                refine WP.sub [(1, _), (2, _), (8, _), (9, _), (10, _), (12, _), (13, _), (14, _), (15, _), (16, _), (17, _), (63, _), (70, _), (79, _)] ?_ ⟨rfl, rfl, rfl, rfl, rfl, rfl, rfl, rfl, rfl, rfl, rfl, rfl, rfl, rfl, trivial⟩
                refine WP.next ?_
                refine WP.condT rfl ?_
                refine WP.region [0, 1, 2, 3, 4] rfl ?_
                refine WP.val rfl rfl rfl rfl (Yld.move rfl rfl) ?_
                refine WP.val rfl rfl rfl rfl (Yld.move rfl rfl) ?_
                refine WP.val rfl rfl rfl rfl (Yld.len rfl ty_sl_23 rfl) ?_
                refine WP.val rfl rfl rfl rfl (Yld.add64 rfl rfl rfl (by omega)) ?_
                refine WP.val rfl rfl rfl rfl (Yld.assign rfl rfl) ?_
                refine WP.nil ?_
                refine WP.sub [(1, _), (2, _), (8, _), (9, _), (10, _), (12, _), (13, _), (14, _), (15, _), (16, _), (17, _), (63, _), (70, _), (79, _)] ?_ ⟨rfl, rfl, rfl, rfl, rfl, rfl, rfl, rfl, rfl, rfl, rfl, rfl, rfl, rfl, trivial⟩
                exact WP.meet (picks[i].tmod ((live xs).length : Int) + ((live xs).length : Int)).toNat (by omega) ⟨rfl, rfl, rfl, rfl, rfl, rfl, rfl, rfl, rfl, rfl, (congrArg (fun z => some (Value.int .i64 z)) (by omega)), trivial⟩ rfl (by (try dsimp only); repeat (first | exact Rm.chunk | exact Rm.here | exact Rm.nil0 | apply Rm.skip | apply Rm.skipS | apply PX.cons | (apply PX.done; (repeat (first | exact Leave.done | apply Leave.drop | apply Leave.dropS)); done) | apply PX.app))
              · refine WP.nil ?_
                refine WP.sub [(1, _), (2, _), (8, _), (9, _), (10, _), (12, _), (13, _), (14, _), (15, _), (16, _), (17, _), (63, _), (70, _), (79, _)] ?_ ⟨rfl, rfl, rfl, rfl, rfl, rfl, rfl, rfl, rfl, rfl, rfl, rfl, rfl, rfl, trivial⟩
                refine WP.next ?_
                refine WP.condF rfl ?_
                refine WP.skip ?_
                exact WP.meet (picks[i].tmod ((live xs).length : Int)).toNat (by omega) ⟨rfl, rfl, rfl, rfl, rfl, rfl, rfl, rfl, rfl, rfl, (congrArg (fun z => some (Value.int .i64 z)) (by omega)), trivial⟩ rfl (by (try dsimp only); repeat (first | exact Rm.chunk | exact Rm.here | exact Rm.nil0 | apply Rm.skip | apply Rm.skipS | apply PX.cons | (apply PX.done; (repeat (first | exact Leave.done | apply Leave.drop | apply Leave.dropS)); done) | apply PX.app))
            · intro j hj
              refine WP.seq ?_
              obtain ⟨hli, hld⟩ := live_mem (List.getElem_mem hj)
              generalize hlg : (live xs)[j] = li at hli hld
              have hpl := pick_live (s := s) hli hld
              have hst := keep_step hks (by omega) hli hld
              refine WP.region [0, 1, 2, 3, 4, 5, 6] rfl ?_
              refine WP.val rfl rfl rfl rfl (Yld.move rfl rfl) ?_
              refine WP.val rfl rfl rfl rfl (Yld.move rfl rfl) ?_
              refine WP.val rfl rfl rfl rfl (Yld.move rfl rfl) ?_
              refine WP.val rfl rfl rfl rfl (Yld.indexAddr (i := j) rfl ty_sl_23 rfl rfl hj) ?_
              refine WP.val rfl rfl rfl rfl (Yld.load rfl ty_sc_3 rfl (by repeat (first | exact There.h | exact There.i (by assumption) | apply There.t | apply There.s)) (ints_at hj so)) ?_
              rw [hlg]
              refine WP.loud rfl rfl ?_
              refine Op.call (loom_Pick hd (k := (li : Int))) rfl Try.func18 rfl rfl rfl rfl (by repeat (first | exact Take.nil | with_reducible apply Take.cons | apply Take.app | exact Rm.chunk | exact Rm.here | exact Rm.nil0 | apply Rm.skip | apply Rm.skipS | (focus (apply Take.all; (repeat (first | exact Rm.chunk | exact Rm.here | exact Rm.nil0 | apply Rm.skip | apply Rm.skipS)); done)) | apply Take.cons)) ?_
              rintro v J L9 hJ ⟨rfl, rfl, L1, rfl, hd2⟩
              clear hJ; try simp only [List.cons_append, List.nil_append, List.append_assoc]
              rw [hpl] at hd2 ⊢
              try dsimp only at hd2 ⊢
              have hnd2 := nd_live (stepAt xs s li).1
              have hslk1 := sumI_nonneg (slk (stepAt xs s li).2.v) (stepAt xs s li).1 (fun a _ => (slk_le _ a).1)
              have hsl9 := sumI_le (slk (stepAt xs s li).2.v) 2 (stepAt xs s li).1 (fun a _ => (slk_le _ a).2)
              rw [stepAt_len, hxl] at hsl9
              have hstl := hst.slack
              have hlb2 : (live (stepAt xs s li).1).length ≤ xs.length := by rw [← stepAt_len xs s li]; exact Nat.le_trans (List.length_filter_le _ _) (by simp)
              try simp only [List.cons_append, List.nil_append, List.append_assoc]
              refine WP.val rfl rfl rfl rfl (Yld.assign rfl rfl) ?_
              refine WP.nil ?_
              refine WP.sub [(1, _), (2, _), (8, _), (9, _), (10, _), (12, _), (13, _), (14, _), (15, _), (16, _), (17, _), (18, _)] ?_ ⟨rfl, rfl, rfl, rfl, rfl, rfl, rfl, rfl, rfl, rfl, rfl, rfl, trivial⟩
              refine WP.next ?_
              refine WP.seq ?_
              refine WP.region [0, 1, 2] rfl ?_
              refine WP.val rfl rfl rfl rfl (Yld.move rfl rfl) ?_
              refine WP.val rfl rfl rfl rfl (Yld.add64 rfl rfl rfl (by omega)) ?_
              refine WP.val rfl rfl rfl rfl (Yld.assign rfl rfl) ?_
              refine WP.nil ?_
              refine WP.sub [(1, _), (2, _), (8, _), (9, _), (10, _), (12, _), (13, _), (14, _), (15, _), (16, _), (17, _), (18, _)] ?_ ⟨rfl, rfl, rfl, rfl, rfl, rfl, rfl, rfl, rfl, rfl, rfl, rfl, trivial⟩
              refine WP.next ?_
              refine WP.seq ?_
              refine WP.region [0, 1, 2, 3, 4, 5, 6] rfl ?_
              refine WP.val rfl rfl rfl rfl (Yld.move rfl rfl) ?_
              refine WP.val rfl rfl rfl rfl (Yld.len rfl ty_sl_22 rfl) ?_
              refine WP.val rfl rfl rfl rfl (Yld.move rfl rfl) ?_
              refine WP.loud rfl rfl ?_
              refine Op.call (loom_Live hd2 (by rw [stepAt_len]; omega)) rfl Try.func17 rfl rfl rfl rfl (by repeat (first | exact Take.nil | with_reducible apply Take.cons | apply Take.app | exact Rm.chunk | exact Rm.here | exact Rm.nil0 | apply Rm.skip | apply Rm.skipS | (focus (apply Take.all; (repeat (first | exact Rm.chunk | exact Rm.here | exact Rm.nil0 | apply Rm.skip | apply Rm.skipS)); done)) | apply Take.cons)) ?_
              rintro v J L9 hJ ⟨rfl, Lo2, rfl, how2⟩
              clear hJ; try simp only [List.cons_append, List.nil_append, List.append_assoc]
              try simp only [List.cons_append, List.nil_append, List.append_assoc]
              refine WP.val rfl rfl rfl rfl (Yld.lenR (how2.rd (I := I) (fun p hp => hp)) rfl ty_sl_23 rfl) ?_
              refine WP.val rfl rfl rfl rfl (Yld.sub64 rfl rfl rfl (by omega)) ?_
              refine WP.val rfl rfl rfl rfl (Yld.assign rfl rfl) ?_
              refine WP.nil ?_
              refine WP.sub [(1, _), (2, _), (8, _), (9, _), (10, _), (12, _), (13, _), (14, _), (15, _), (16, _), (17, _), (18, _), (19, _)] ?_ ⟨rfl, rfl, rfl, rfl, rfl, rfl, rfl, rfl, rfl, rfl, rfl, rfl, rfl, trivial⟩
              refine WP.next ?_
              refine WP.cut (X := Int) (fun st2 => [(1, .slice A jobs.length cap), (2, .slice (some ⟨bk, kk, none⟩) picks.length ck), (8, .pointer (some ⟨c, 0, none⟩)), (9, .pointer (some ⟨q, 0, none⟩)), (10, .pointer (some ⟨l, 0, none⟩)), (12, .int .i64 st2), (13, .int .i64 (stepAt xs s li).2.sw), (14, .int .i64 ((jobs.length : Int) - sumI nd (stepAt xs s li).1)), (15, .int .i64 (i : Int)), (18, .int .i64 0)]) (fun _ => I) (fun _ => L1 ++ (csCh q c (stepAt xs s li).2 ++ F)) (fun st2 => 0 ≤ st2 ∧ st2 + sumI (slk (stepAt xs s li).2.v) (stepAt xs s li).1 ≤ 2 * (jobs.length : Int)) ?_ ?_
              · skip
                refine WP.seq ?_
                refine WP.region [0, 1, 2, 3, 4, 5, 6, 7, 8, 9] rfl ?_
                refine WP.val rfl rfl rfl rfl (Yld.move rfl rfl) ?_
                refine WP.loud rfl rfl ?_
                refine Op.call cs_Tally rfl Try.func19 rfl rfl rfl rfl (by repeat (first | exact Take.nil | with_reducible apply Take.cons | apply Take.app | exact Rm.chunk | exact Rm.here | exact Rm.nil0 | apply Rm.skip | apply Rm.skipS | (focus (apply Take.all; (repeat (first | exact Rm.chunk | exact Rm.here | exact Rm.nil0 | apply Rm.skip | apply Rm.skipS)); done)) | apply Take.cons)) ?_
                rintro v J L1 hJ ⟨rfl, rfl, rfl⟩
                clear hJ; try simp only [List.cons_append, List.nil_append, List.append_assoc]
                refine WP.val rfl rfl rfl rfl (Yld.field rfl ty_fl_41_2 ty_sc_3 rfl rfl) ?_
                refine WP.val rfl rfl rfl rfl (Yld.move rfl rfl) ?_
                refine WP.split rfl rfl rfl rfl (Yld.gtr rfl rfl rfl) (fun hsw => ?_) (fun hsw => ?_)
                · refine WP.val rfl rfl rfl rfl (Yld.move rfl rfl) ?_
                  refine WP.passG rfl rfl rfl rfl rfl rfl rfl rfl ?_
                  refine WP.passG rfl rfl rfl rfl rfl rfl rfl rfl ?_
                  refine WP.passG rfl rfl rfl rfl rfl rfl rfl rfl ?_
                  refine WP.val rfl rfl rfl rfl (Yld.pickT rfl rfl rfl) ?_
                  refine WP.nil ?_
                  refine WP.sub [(1, _), (2, _), (8, _), (9, _), (10, _), (12, _), (13, _), (14, _), (15, _), (16, _), (17, _), (18, _), (19, _), (107, _)] ?_ ⟨rfl, rfl, rfl, rfl, rfl, rfl, rfl, rfl, rfl, rfl, rfl, rfl, rfl, rfl, trivial⟩
                  refine WP.next ?_
                  refine WP.condT rfl ?_
                  refine WP.seq ?_
                  refine WP.region [0, 1, 2, 3] rfl ?_
                  refine WP.val rfl rfl rfl rfl (Yld.move rfl rfl) ?_
                  refine WP.loud rfl rfl ?_
                  refine Op.call cs_Tally rfl Try.func19 rfl rfl rfl rfl (by repeat (first | exact Take.nil | with_reducible apply Take.cons | apply Take.app | exact Rm.chunk | exact Rm.here | exact Rm.nil0 | apply Rm.skip | apply Rm.skipS | (focus (apply Take.all; (repeat (first | exact Rm.chunk | exact Rm.here | exact Rm.nil0 | apply Rm.skip | apply Rm.skipS)); done)) | apply Take.cons)) ?_
                  rintro v J L1 hJ ⟨rfl, rfl, rfl⟩
                  clear hJ; try simp only [List.cons_append, List.nil_append, List.append_assoc]
                  refine WP.val rfl rfl rfl rfl (Yld.field rfl ty_fl_41_2 ty_sc_3 rfl rfl) ?_
                  refine WP.val rfl rfl rfl rfl (Yld.assign rfl rfl) ?_
                  refine WP.nil ?_
                  refine WP.sub [(1, _), (2, _), (8, _), (9, _), (10, _), (12, _), (13, _), (14, _), (15, _), (16, _), (17, _), (18, _), (19, _), (107, _)] ?_ ⟨rfl, rfl, rfl, rfl, rfl, rfl, rfl, rfl, rfl, rfl, rfl, rfl, rfl, rfl, trivial⟩
                  refine WP.next ?_
                  refine WP.seq ?_
                  refine WP.region [0, 1] rfl ?_
                  refine WP.val rfl rfl rfl rfl (Yld.move rfl rfl) ?_
                  refine WP.val rfl rfl rfl rfl (Yld.assign rfl rfl) ?_
                  refine WP.nil ?_
                  refine WP.sub [(1, _), (2, _), (8, _), (9, _), (10, _), (12, _), (13, _), (14, _), (15, _), (16, _), (17, _), (18, _), (19, _), (107, _)] ?_ ⟨rfl, rfl, rfl, rfl, rfl, rfl, rfl, rfl, rfl, rfl, rfl, rfl, rfl, rfl, trivial⟩
                  refine WP.next ?_
                  refine WP.region [0] rfl ?_
                  refine WP.val rfl rfl rfl rfl (Yld.assign rfl rfl) ?_
                  refine WP.nil ?_
                  exact WP.meet 0 ⟨Int.le_refl _, by omega⟩ ⟨rfl, rfl, rfl, rfl, rfl, rfl, rfl, (congrArg (fun z => some (Value.int .i64 z)) (by omega)), rfl, rfl, trivial⟩ rfl (by (try dsimp only); repeat (first | exact Rm.chunk | exact Rm.here | exact Rm.nil0 | apply Rm.skip | apply Rm.skipS | apply PX.cons | (apply PX.done; (repeat (first | exact Leave.done | apply Leave.drop | apply Leave.dropS)); done) | apply PX.app))
                · refine WP.val rfl rfl rfl rfl (Yld.move rfl rfl) ?_
                  refine WP.valG rfl rfl rfl rfl rfl rfl rfl (Yld.move rfl rfl) ?_
                  refine WP.valG rfl rfl rfl rfl rfl rfl rfl (Yld.move rfl rfl) ?_
                  refine WP.splitG rfl rfl rfl rfl rfl rfl rfl (Yld.gtr rfl rfl rfl) (fun hen => ?_) (fun hen => ?_)
                  · refine WP.val rfl rfl rfl rfl (Yld.pickF rfl rfl rfl) ?_
                    refine WP.nil ?_
                    refine WP.sub [(1, _), (2, _), (8, _), (9, _), (10, _), (12, _), (13, _), (14, _), (15, _), (16, _), (17, _), (18, _), (19, _), (107, _)] ?_ ⟨rfl, rfl, rfl, rfl, rfl, rfl, rfl, rfl, rfl, rfl, rfl, rfl, rfl, rfl, trivial⟩
                    refine WP.next ?_
                    refine WP.condT rfl ?_
                    refine WP.seq ?_
                    refine WP.region [0, 1, 2, 3] rfl ?_
                    refine WP.val rfl rfl rfl rfl (Yld.move rfl rfl) ?_
                    refine WP.loud rfl rfl ?_
                    refine Op.call cs_Tally rfl Try.func19 rfl rfl rfl rfl (by repeat (first | exact Take.nil | with_reducible apply Take.cons | apply Take.app | exact Rm.chunk | exact Rm.here | exact Rm.nil0 | apply Rm.skip | apply Rm.skipS | (focus (apply Take.all; (repeat (first | exact Rm.chunk | exact Rm.here | exact Rm.nil0 | apply Rm.skip | apply Rm.skipS)); done)) | apply Take.cons)) ?_
                    rintro v J L1 hJ ⟨rfl, rfl, rfl⟩
                    clear hJ; try simp only [List.cons_append, List.nil_append, List.append_assoc]
                    refine WP.val rfl rfl rfl rfl (Yld.field rfl ty_fl_41_2 ty_sc_3 rfl rfl) ?_
                    refine WP.val rfl rfl rfl rfl (Yld.assign rfl rfl) ?_
                    refine WP.nil ?_
                    refine WP.sub [(1, _), (2, _), (8, _), (9, _), (10, _), (12, _), (13, _), (14, _), (15, _), (16, _), (17, _), (18, _), (19, _), (107, _)] ?_ ⟨rfl, rfl, rfl, rfl, rfl, rfl, rfl, rfl, rfl, rfl, rfl, rfl, rfl, rfl, trivial⟩
                    refine WP.next ?_
                    refine WP.seq ?_
                    refine WP.region [0, 1] rfl ?_
                    refine WP.val rfl rfl rfl rfl (Yld.move rfl rfl) ?_
                    refine WP.val rfl rfl rfl rfl (Yld.assign rfl rfl) ?_
                    refine WP.nil ?_
                    refine WP.sub [(1, _), (2, _), (8, _), (9, _), (10, _), (12, _), (13, _), (14, _), (15, _), (16, _), (17, _), (18, _), (19, _), (107, _)] ?_ ⟨rfl, rfl, rfl, rfl, rfl, rfl, rfl, rfl, rfl, rfl, rfl, rfl, rfl, rfl, trivial⟩
                    refine WP.next ?_
                    refine WP.region [0] rfl ?_
                    refine WP.val rfl rfl rfl rfl (Yld.assign rfl rfl) ?_
                    refine WP.nil ?_
                    exact WP.meet 0 ⟨Int.le_refl _, by omega⟩ ⟨rfl, rfl, rfl, rfl, rfl, rfl, rfl, (congrArg (fun z => some (Value.int .i64 z)) (by omega)), rfl, rfl, trivial⟩ rfl (by (try dsimp only); repeat (first | exact Rm.chunk | exact Rm.here | exact Rm.nil0 | apply Rm.skip | apply Rm.skipS | apply PX.cons | (apply PX.done; (repeat (first | exact Leave.done | apply Leave.drop | apply Leave.dropS)); done) | apply PX.app))
                  · refine WP.val rfl rfl rfl rfl (Yld.pickF rfl rfl rfl) ?_
                    refine WP.nil ?_
                    refine WP.sub [(1, _), (2, _), (8, _), (9, _), (10, _), (12, _), (13, _), (14, _), (15, _), (16, _), (17, _), (18, _), (19, _), (107, _)] ?_ ⟨rfl, rfl, rfl, rfl, rfl, rfl, rfl, rfl, rfl, rfl, rfl, rfl, rfl, rfl, trivial⟩
                    refine WP.next ?_
                    refine WP.condF rfl ?_
                    refine WP.skip ?_
                    exact WP.meet (still + 1) ⟨by omega, by omega⟩ ⟨rfl, rfl, rfl, rfl, rfl, rfl, (congrArg (fun z => some (Value.int .i64 z)) (by omega)), (congrArg (fun z => some (Value.int .i64 z)) (by omega)), rfl, rfl, trivial⟩ rfl (by (try dsimp only); repeat (first | exact Rm.chunk | exact Rm.here | exact Rm.nil0 | apply Rm.skip | apply Rm.skipS | apply PX.cons | (apply PX.done; (repeat (first | exact Leave.done | apply Leave.drop | apply Leave.dropS)); done) | apply PX.app))
              · rintro st2 ⟨hs2, hsl2⟩
                refine WP.seq ?_
                refine WP.region [0, 1, 2, 3, 4, 5, 6, 7, 8, 9] rfl ?_
                refine WP.val rfl rfl rfl rfl (Yld.move rfl rfl) ?_
                refine WP.val rfl rfl rfl rfl (Yld.neq rfl rfl rfl false (decide_eq_false (by decide))) ?_
                refine WP.val rfl rfl rfl rfl (Yld.move rfl rfl) ?_
                refine WP.valG rfl rfl rfl rfl rfl rfl rfl (Yld.move rfl rfl) ?_
                refine WP.valG rfl rfl rfl rfl rfl rfl rfl (Yld.move rfl rfl) ?_
                refine WP.valG rfl rfl rfl rfl rfl rfl rfl (Yld.len rfl ty_sl_22 rfl) ?_
                refine WP.valG rfl rfl rfl rfl rfl rfl rfl (Yld.mul64 rfl rfl rfl (by omega)) ?_
                refine WP.valG rfl rfl rfl rfl rfl rfl rfl (Yld.add64 rfl rfl rfl (by omega)) ?_
                refine WP.valG rfl rfl rfl rfl rfl rfl rfl (Yld.gtr rfl rfl rfl false (decide_eq_false (by have := sumI_nonneg (slk (stepAt xs s li).2.v) (stepAt xs s li).1 (fun a _ => (slk_le _ a).1); omega))) ?_
                refine WP.val rfl rfl rfl rfl (Yld.pickF rfl rfl rfl) ?_
                refine WP.nil ?_
                refine WP.sub [(1, _), (2, _), (8, _), (9, _), (10, _), (12, _), (13, _), (14, _), (15, _), (18, _), (121, _)] ?_ ⟨rfl, rfl, rfl, rfl, rfl, rfl, rfl, rfl, rfl, rfl, rfl, trivial⟩
                refine WP.next ?_
                refine WP.condF rfl ?_
                refine WP.skip ?_
                refine WP.leave ?_
                refine WP.next ?_
                refine WP.region [0, 1, 2] rfl ?_
                refine WP.val rfl rfl rfl rfl (Yld.move rfl rfl) ?_
                refine WP.val rfl rfl rfl rfl (Yld.add64 rfl rfl rfl (by omega)) ?_
                refine WP.val rfl rfl rfl rfl (Yld.assign rfl rfl) ?_
                refine WP.nil ?_
                refine WP.sub [(1, _), (2, _), (8, _), (9, _), (10, _), (12, _), (13, _), (14, _), (15, _), (18, _), (121, _)] ?_ ⟨rfl, rfl, rfl, rfl, rfl, rfl, rfl, rfl, rfl, rfl, rfl, trivial⟩
                exact WP.again ⟨i + 1, (stepAt xs s li).1, (stepAt xs s li).2, st2, L1⟩ ⟨hip, hd2, hst.keep, by rw [stepAt_len]; exact hxl, hs2, hsl2⟩ (by simp only; omega) ⟨rfl, rfl, rfl, rfl, rfl, rfl, rfl, rfl, rfl, trivial⟩ rfl (by (try dsimp only); repeat (first | exact Rm.chunk | exact Rm.here | exact Rm.nil0 | apply Rm.skip | apply Rm.skipS | apply PX.cons | (apply PX.done; (repeat (first | exact Leave.done | apply Leave.drop | apply Leave.dropS)); done) | apply PX.app))
        · refine WP.nil ?_
          refine WP.sub [(1, _), (2, _), (8, _), (9, _), (10, _), (12, _), (13, _), (14, _), (15, _), (63, _)] ?_ ⟨rfl, rfl, rfl, rfl, rfl, rfl, rfl, rfl, rfl, rfl, trivial⟩
          refine WP.next ?_
          refine WP.condF rfl ?_
          refine WP.exit ?_
          refine WP.thenE ?_
          refine WP.thenE ?_
          refine WP.hit ?_
          refine WP.next ?_
          refine WP.seq ?_
          refine WP.region [0] rfl ?_
          refine WP.val rfl rfl rfl rfl (Yld.assign rfl rfl) ?_
          refine WP.nil ?_
          refine WP.next ?_
          refine WP.ret ?_
          refine WP.fin .ret (.inr rfl) (res1 rfl rfl) [] (by repeat (first | exact Take.nil | with_reducible apply Take.cons | apply Take.app | exact Rm.chunk | exact Rm.here | exact Rm.nil0 | apply Rm.skip | apply Rm.skipS | (focus (apply Take.all; (repeat (first | exact Rm.chunk | exact Rm.here | exact Rm.nil0 | apply Rm.skip | apply Rm.skipS)); done)) | apply Take.cons)) (by repeat (first | exact Leave.done | apply Leave.drop | apply Leave.dropS)) (Imm.le_refl _) ?_
          exact ⟨rfl, rfl, rfl⟩


end Go.Hp
