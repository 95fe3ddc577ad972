import Derived.Test.YtdobkjbpehdokaaLoomN
set_option linter.unusedVariables false
set_option linter.unusedSimpArgs false
namespace Go.Hp
open Go Go.Proofs

theorem IsLoom.lefts' {l q : Nat} {xs : List Ad} {L : Chunks} (h : IsLoom l q xs L) : lefts xs := by cases h with | mk e ow hl => exact hl
theorem wc_len (l : List Ad) : (wc l).length = l.length * 7 := flat_len rad_len l
theorem pick_done {xs : List Ad} {s : CS} {i : Nat} (h : i < xs.length) (hd : xs[i].done = true) : pick xs s (i : Int) = (xs, s, 5) := by unfold pick; rw [adAt_lt h]; simp [hd]
theorem pick_step {xs : List Ad} {s : CS} {i : Nat} (h : i < xs.length) (hd : xs[i].done = false) (hl : lefts xs) : (pick xs s (i : Int)).1 = xs.set i (refStep xs[i] s.v).1 ∧ (pick xs s (i : Int)).2.1.v = (refStep xs[i] s.v).2 ∧ (pick xs s (i : Int)).2.2 = 0 := by
  have hst := ref_tStep (a := xs[i]) (s := s) hd (hl _ (List.getElem_mem h))
  unfold pick
  rw [adAt_lt h]
  simp only [hd, Bool.false_eq_true, if_false, Int.toNat_natCast, stepAt_lt h, hst.1, hst.2, and_self]
structure LD where
  i : Nat
  xs : List Ad
  s : CS
  vw : Value
  Ll : Chunks
  Lw : Chunks

theorem runL_len (most : Int) : ∀ (f : Nat) (st : List Ad × CS × Int), (runL most f st).1.length = st.1.length
  | 0, _ => rfl
  | f + 1, st => by
    rw [runL]
    split
    · split
      · rfl
      · rw [runL_len most f, sweep_len]
    · rfl
theorem run_len (xs : List Ad) (s : CS) (most : Int) : (run xs s most).1.length = xs.length := runL_len _ _ _
theorem loom_LoomDoes {I : Imm} {first most : Int} {jobs : List Job} {vj : Value} (hj : Slc I 3 RJob vj jobs) {picks : List Int} {vp : Value} (hp : SlRd (fun b o => I.blk b = some o) vp picks.length 1 (picks.map (Value.int .i64))) (hpn : picks.length ≤ 1152921504606846976) : Spec Try.prog 4 [.int .i64 first, vj, vp, .int .i64 most] I [] (fun v J L => v = .bool true ∧ I = J ∧ L = []) := by
  obtain ⟨A, cap, rfl, hcap, hjobs⟩ := hj
  refine Spec.of Try.func4 rfl Try.ntmps4 (Nat.le_of_ble_eq_true rfl) (fun F => ?_)
  try simp only [List.cons_append, List.nil_append, List.append_assoc]
  dsimp only [argsEnv]
  refine WP.seq ?_
  refine WP.region [0] rfl ?_
  refine WP.val rfl rfl rfl rfl (Yld.assign rfl rfl) ?_
  refine WP.nil ?_
  refine WP.next ?_
  refine WP.seq ?_
  refine WP.region [0, 1] rfl ?_
  refine WP.loud rfl rfl ?_
  refine Op.call (loom_awake _) rfl Try.func11 rfl rfl rfl rfl (by repeat (first | exact Take.nil | with_reducible apply Take.cons | apply Take.app | exact Rm.chunk | exact Rm.here | exact Rm.nil0 | apply Rm.skip | apply Rm.skipS | (focus (apply Take.all; (repeat (first | exact Rm.chunk | exact Rm.here | exact Rm.nil0 | apply Rm.skip | apply Rm.skipS)); done)) | apply Take.cons)) ?_
  rintro v J L1 hJ ⟨rfl, rfl, rfl⟩
  clear hJ; try simp only [List.cons_append, List.nil_append, List.append_assoc]
  refine WP.val rfl rfl rfl rfl (Yld.assign rfl rfl) ?_
  refine WP.nil ?_
  refine WP.sub [(0, _), (1, _), (2, _), (3, _), (8, _), (9, _)] ?_ ⟨rfl, rfl, rfl, rfl, rfl, rfl, trivial⟩
  refine WP.next ?_
  refine WP.seq ?_
  refine WP.seq ?_
  refine WP.region [0, 1, 2, 3, 4, 5, 6, 7, 8, 9, 10] rfl ?_
  refine WP.val rfl rfl rfl rfl (Yld.move rfl rfl) ?_
  refine WP.val rfl rfl rfl rfl (Yld.not rfl rfl) ?_
  refine WP.val rfl rfl rfl rfl (Yld.move rfl rfl) ?_
  refine WP.valG rfl rfl rfl rfl rfl rfl rfl (Yld.move rfl rfl) ?_
  refine WP.valG rfl rfl rfl rfl rfl rfl rfl (Yld.len rfl ty_sl_22 rfl) ?_
  refine WP.splitG rfl rfl rfl rfl rfl rfl rfl (Yld.gtr rfl rfl rfl) (fun h30 => ?_) (fun h30 => ?_)
  · refine WP.val rfl rfl rfl rfl (Yld.pickF rfl rfl rfl) ?_
    refine WP.val rfl rfl rfl rfl (Yld.move rfl rfl) ?_
    refine WP.passG rfl rfl rfl rfl rfl rfl rfl rfl ?_
    refine WP.passG rfl rfl rfl rfl rfl rfl rfl rfl ?_
    refine WP.val rfl rfl rfl rfl (Yld.pickT rfl rfl rfl) ?_
    refine WP.nil ?_
    refine WP.sub [(0, _), (1, _), (2, _), (3, _), (8, _), (9, _), (37, _)] ?_ ⟨rfl, rfl, rfl, rfl, rfl, rfl, rfl, trivial⟩
    refine WP.next ?_
    refine WP.condT rfl ?_
    refine WP.seq ?_
    refine WP.region [0, 1] rfl ?_
    refine WP.val rfl rfl rfl rfl (Yld.move rfl rfl) ?_
    refine WP.val rfl rfl rfl rfl (Yld.assign rfl rfl) ?_
    refine WP.nil ?_
    refine WP.sub [(0, _), (1, _), (2, _), (3, _), (8, _), (9, _), (37, _)] ?_ ⟨rfl, rfl, rfl, rfl, rfl, rfl, rfl, trivial⟩
    refine WP.next ?_
    refine WP.ret ?_
    refine WP.fin .ret (.inr rfl) (res1 rfl rfl) [] (by repeat (first | exact Take.nil | with_reducible apply Take.cons | apply Take.app | exact Rm.chunk | exact Rm.here | exact Rm.nil0 | apply Rm.skip | apply Rm.skipS | (focus (apply Take.all; (repeat (first | exact Rm.chunk | exact Rm.here | exact Rm.nil0 | apply Rm.skip | apply Rm.skipS)); done)) | apply Take.cons)) (by repeat (first | exact Leave.done | apply Leave.drop | apply Leave.dropS)) (Imm.le_refl _) ?_
    exact ⟨rfl, rfl, rfl⟩
  · refine WP.val rfl rfl rfl rfl (Yld.pickF rfl rfl rfl) ?_
    refine WP.val rfl rfl rfl rfl (Yld.move rfl rfl) ?_
    refine WP.valG rfl rfl rfl rfl rfl rfl rfl (Yld.move rfl rfl) ?_
    refine WP.splitG rfl rfl rfl rfl rfl rfl rfl (Yld.gtr rfl rfl rfl) (fun h40 => ?_) (fun h40 => ?_)
    · refine WP.val rfl rfl rfl rfl (Yld.pickF rfl rfl rfl) ?_
      refine WP.nil ?_
      refine WP.sub [(0, _), (1, _), (2, _), (3, _), (8, _), (9, _), (37, _)] ?_ ⟨rfl, rfl, rfl, rfl, rfl, rfl, rfl, trivial⟩
      refine WP.next ?_
      refine WP.condT rfl ?_
      refine WP.seq ?_
      refine WP.region [0, 1] rfl ?_
      refine WP.val rfl rfl rfl rfl (Yld.move rfl rfl) ?_
      refine WP.val rfl rfl rfl rfl (Yld.assign rfl rfl) ?_
      refine WP.nil ?_
      refine WP.sub [(0, _), (1, _), (2, _), (3, _), (8, _), (9, _), (37, _)] ?_ ⟨rfl, rfl, rfl, rfl, rfl, rfl, rfl, trivial⟩
      refine WP.next ?_
      refine WP.ret ?_
      refine WP.fin .ret (.inr rfl) (res1 rfl rfl) [] (by repeat (first | exact Take.nil | with_reducible apply Take.cons | apply Take.app | exact Rm.chunk | exact Rm.here | exact Rm.nil0 | apply Rm.skip | apply Rm.skipS | (focus (apply Take.all; (repeat (first | exact Rm.chunk | exact Rm.here | exact Rm.nil0 | apply Rm.skip | apply Rm.skipS)); done)) | apply Take.cons)) (by repeat (first | exact Leave.done | apply Leave.drop | apply Leave.dropS)) (Imm.le_refl _) ?_
      exact ⟨rfl, rfl, rfl⟩
    · refine WP.val rfl rfl rfl rfl (Yld.pickF rfl rfl rfl) ?_
      refine WP.nil ?_
      refine WP.sub [(0, _), (1, _), (2, _), (3, _), (8, _), (9, _), (37, _)] ?_ ⟨rfl, rfl, rfl, rfl, rfl, rfl, rfl, trivial⟩
      refine WP.next ?_
      refine WP.condF rfl ?_
      refine WP.skip ?_
      refine WP.next ?_
      refine WP.seq ?_
      refine WP.region [0, 1, 2] rfl ?_
      refine WP.val rfl rfl rfl rfl (Yld.move rfl rfl) ?_
      refine WP.loud rfl rfl ?_
      refine Op.call cs_New0 rfl Try.func13 rfl rfl rfl rfl (by repeat (first | exact Take.nil | with_reducible apply Take.cons | apply Take.app | exact Rm.chunk | exact Rm.here | exact Rm.nil0 | apply Rm.skip | apply Rm.skipS | (focus (apply Take.all; (repeat (first | exact Rm.chunk | exact Rm.here | exact Rm.nil0 | apply Rm.skip | apply Rm.skipS)); done)) | apply Take.cons)) ?_
      rintro v J L1 hJ ⟨q, c, rfl, rfl, rfl⟩
      clear hJ; try simp only [List.cons_append, List.nil_append, List.append_assoc]
      refine WP.val rfl rfl rfl rfl (Yld.assign rfl rfl) ?_
      refine WP.nil ?_
      refine WP.sub [(0, _), (1, _), (2, _), (3, _), (8, _), (9, _), (10, _), (37, _)] ?_ ⟨rfl, rfl, rfl, rfl, rfl, rfl, rfl, rfl, trivial⟩
      refine WP.next ?_
      refine WP.seq ?_
      refine WP.region [0, 1] rfl ?_
      refine WP.loud rfl rfl ?_
      refine Op.call (loom_New I q) rfl Try.func14 rfl rfl rfl rfl (by repeat (first | exact Take.nil | with_reducible apply Take.cons | apply Take.app | exact Rm.chunk | exact Rm.here | exact Rm.nil0 | apply Rm.skip | apply Rm.skipS | (focus (apply Take.all; (repeat (first | exact Rm.chunk | exact Rm.here | exact Rm.nil0 | apply Rm.skip | apply Rm.skipS)); done)) | apply Take.cons)) ?_
      rintro v J Ll hJ ⟨l, rfl, rfl, hd⟩
      clear hJ; try simp only [List.cons_append, List.nil_append, List.append_assoc]
      refine WP.val rfl rfl rfl rfl (Yld.assign rfl rfl) ?_
      refine WP.nil ?_
      refine WP.sub [(0, _), (1, _), (2, _), (3, _), (8, _), (9, _), (10, _), (11, _), (37, _)] ?_ ⟨rfl, rfl, rfl, rfl, rfl, rfl, rfl, rfl, rfl, trivial⟩
      refine WP.next ?_
      refine WP.seq ?_
      refine WP.region [0] rfl ?_
      refine WP.val rfl rfl rfl rfl (Yld.assign rfl rfl) ?_
      refine WP.nil ?_
      refine WP.next ?_
      refine WP.seq ?_
      refine WP.seq ?_
      refine WP.region [0] rfl ?_
      refine WP.val rfl rfl rfl rfl (Yld.assign rfl rfl) ?_
      refine WP.nil ?_
      refine WP.next ?_
      refine WP.block ?_
      refine WP.loop (X := LD) (fun t : LD => [(0, .int .i64 first), (1, .slice A jobs.length cap), (2, vp), (3, .int .i64 most), (10, .pointer (some ⟨q, 0, none⟩)), (11, .pointer (some ⟨l, 0, none⟩)), (12, t.vw), (13, .int .i64 (t.i : Int))]) (fun _ => I) (fun t : LD => t.Ll ++ (t.Lw ++ (csCh q c ⟨first, 0, 0, 0, 0, 0⟩ ++ F))) (fun t => t.i ≤ jobs.length ∧ IsLoom l q (mks jobs t.i) t.Ll ∧ Own 46 7 t.vw (wc (mks jobs t.i)) t.i t.Lw) (fun t => jobs.length - t.i) ⟨0, [], ⟨first, 0, 0, 0, 0, 0⟩, .slice none 0 0, Ll, []⟩ ⟨Nat.zero_le _, hd, .none0⟩ ⟨rfl, rfl, rfl, rfl, rfl, rfl, rfl, rfl, trivial⟩ rfl (by (try dsimp only); repeat (first | exact Rm.chunk | exact Rm.here | exact Rm.nil0 | apply Rm.skip | apply Rm.skipS | apply PX.cons | (apply PX.done; (repeat (first | exact Leave.done | apply Leave.drop | apply Leave.dropS)); done) | apply PX.app)) ?_
      rintro ⟨i, x0, s0, vw, Ll, Lw⟩ ⟨hle, hd, how⟩
      try dsimp only
      try simp only [List.cons_append, List.nil_append, List.append_assoc]
      refine WP.seq ?_
      refine WP.seq ?_
      refine WP.region [0, 1, 2, 3] rfl ?_
      refine WP.val rfl rfl rfl rfl (Yld.move rfl rfl) ?_
      refine WP.val rfl rfl rfl rfl (Yld.move rfl rfl) ?_
      refine WP.val rfl rfl rfl rfl (Yld.len rfl ty_sl_22 rfl) ?_
      refine WP.split rfl rfl rfl rfl (Yld.lss rfl rfl rfl) (fun hlt => ?_) (fun hlt => ?_)
      · simp only at hle hd how
        have hi : i < jobs.length := by first | omega | (simp only at hlt; omega)
        obtain ⟨b, kk, arr, T, fr, rfl, hb, hel⟩ := hjobs.resolve_left (by rintro rfl; simp at hi)
        obtain ⟨_, hR⟩ := hel i _ (List.getElem?_eq_getElem hi)
        unfold RJob at hR
        have e0 := take_cells hR 0 _ rfl (by decide)
        have e1 := take_cells hR 1 _ rfl (by decide)
        have e2 := take_cells hR 2 _ rfl (by decide)
        rw [Array.getElem?_toList] at e0 e1 e2
        have htm := tm_le jobs[i].times
        refine WP.nil ?_
        refine WP.sub [(0, _), (1, _), (2, _), (3, _), (10, _), (11, _), (12, _), (13, _), (45, _)] ?_ ⟨rfl, rfl, rfl, rfl, rfl, rfl, rfl, rfl, rfl, trivial⟩
        refine WP.next ?_
        refine WP.condT rfl ?_
        refine WP.skip ?_
        refine WP.next ?_
        refine WP.seq ?_
        refine WP.block ?_
        refine WP.seq ?_
        refine WP.region [0, 1, 2, 3, 4, 5, 6] rfl ?_
        refine WP.val rfl rfl rfl rfl (Yld.move rfl rfl) ?_
        refine WP.val rfl rfl rfl rfl (Yld.move rfl rfl) ?_
        refine WP.val rfl rfl rfl rfl (Yld.indexAddr (i := i) rfl ty_sl_22 rfl rfl hi) ?_
        refine WP.val rfl rfl rfl rfl (Yld.fieldAddr rfl ty_fd_36_0 rfl) ?_
        refine WP.val rfl rfl rfl rfl (Yld.loadC rfl ty_sc_3 rfl (There.i hb) e0) ?_
        refine WP.val rfl rfl rfl rfl (Yld.remT rfl rfl rfl (by decide)) ?_
        refine WP.val rfl rfl rfl rfl (Yld.assign rfl rfl) ?_
        refine WP.nil ?_
        refine WP.sub [(0, _), (1, _), (2, _), (3, _), (10, _), (11, _), (12, _), (13, _), (14, _), (45, _)] ?_ ⟨rfl, rfl, rfl, rfl, rfl, rfl, rfl, rfl, rfl, rfl, trivial⟩
        refine WP.next ?_
        refine WP.seq ?_
        refine WD.start Trymixed 14 (There I []) (fun _ _ => False) SubL.nil (fun _ _ h => h.elim) 16 [false, false, false, false, false, false, false, false, false, false, false, false, false, false, false, false] rfl rfl ?_
        refine WD.val (i := 0) rfl rfl rfl rfl (by kernel_rfl) rfl (Yld.move rfl rfl) ?_
        refine WD.val (i := 1) rfl rfl rfl rfl (by kernel_rfl) rfl (Yld.move rfl rfl) ?_
        refine WD.val (i := 2) rfl rfl rfl rfl (by kernel_rfl) rfl (Yld.move rfl rfl) ?_
        refine WD.val (i := 3) rfl rfl rfl rfl (by kernel_rfl) rfl (Yld.move rfl rfl) ?_
        refine WD.val (i := 4) rfl rfl rfl rfl (by kernel_rfl) rfl (Yld.move rfl rfl) ?_
        refine WD.val (i := 5) rfl rfl rfl rfl (by kernel_rfl) rfl (Yld.indexAddr (i := i) rfl ty_sl_22 rfl rfl hi) ?_
        refine WD.val (i := 6) rfl rfl rfl rfl (by kernel_rfl) rfl (Yld.fieldAddr rfl ty_fd_36_1 rfl) ?_
        refine WD.val1 (i := 7) rfl rfl rfl rfl (by kernel_rfl) rfl (by kernel_rfl) (Yld.loadC rfl ty_sc_3 rfl (.inl (There.i hb)) e1) ?_
        refine WD.val (i := 8) rfl rfl rfl rfl (by kernel_rfl) rfl (Yld.move rfl rfl) ?_
        refine WD.val (i := 9) rfl rfl rfl rfl (by kernel_rfl) rfl (Yld.move rfl rfl) ?_
        refine WD.val (i := 10) rfl rfl rfl rfl (by kernel_rfl) rfl (Yld.indexAddr (i := i) rfl ty_sl_22 rfl rfl hi) ?_
        refine WD.val (i := 11) rfl rfl rfl rfl (by kernel_rfl) rfl (Yld.fieldAddr rfl ty_fd_36_2 rfl) ?_
        refine WD.val1 (i := 12) rfl rfl rfl rfl (by kernel_rfl) rfl (by kernel_rfl) (Yld.loadC rfl ty_sc_4 rfl (.inl (There.i hb)) e2) ?_
        refine WD.loud (i := 13) (by kernel_rfl) rfl rfl rfl ?_
        refine Op.call loom_NewAdder rfl Try.func16 rfl rfl rfl rfl (by repeat (first | exact Take.nil | with_reducible apply Take.cons | apply Take.app | exact Rm.chunk | exact Rm.here | exact Rm.nil0 | apply Rm.skip | apply Rm.skipS | (focus (apply Take.all; (repeat (first | exact Rm.chunk | exact Rm.here | exact Rm.nil0 | apply Rm.skip | apply Rm.skipS)); done)) | apply Take.cons)) ?_
        rintro v J L1 hJ ⟨mb, rfl, rfl, rfl⟩
        clear hJ; try simp only [List.cons_append, List.nil_append, List.append_assoc]
        refine WD.go (.inr SubL.nil) (fun _ _ h => h.elim) ?_
        refine WD.loud (i := 14) (by kernel_rfl) rfl rfl rfl ?_
        refine Op.call (loom_Add hd (by rw [mks_len _ _ (by omega)]; omega) (a := mkAd jobs[i]) (by show tm _ ≤ _; omega)) rfl Try.func15 rfl rfl rfl rfl (by repeat (first | exact Take.nil | with_reducible apply Take.cons | apply Take.app | exact Rm.chunk | exact Rm.here | exact Rm.nil0 | apply Rm.skip | apply Rm.skipS | (focus (apply Take.all; (repeat (first | exact Rm.chunk | exact Rm.here | exact Rm.nil0 | apply Rm.skip | apply Rm.skipS)); done)) | apply Take.cons)) ?_
        rintro v J Ll' hJ ⟨rfl, rfl, hd'⟩
        clear hJ; try simp only [List.cons_append, List.nil_append, List.append_assoc]
        have hd' : IsLoom l q (mks jobs (i + 1)) Ll' := by rw [mks_succ hi]; exact hd'
        refine WD.go (.inl rfl) (fun _ _ h => h.elim) ?_
        refine WD.val (i := 15) rfl rfl rfl rfl (by kernel_rfl) rfl (Yld.assign rfl rfl) ?_
        refine WD.done (by kernel_rfl) ?_
        refine WP.sub [(0, _), (1, _), (2, _), (3, _), (10, _), (11, _), (12, _), (13, _), (14, _), (15, _), (45, _)] ?_ ⟨rfl, rfl, rfl, rfl, rfl, rfl, rfl, rfl, rfl, rfl, rfl, trivial⟩
        refine WP.next ?_
        refine WP.seq ?_
        obtain ⟨Aw, cw_, rfl, hcw⟩ := how.slice
        refine WD.start Trymixed 14 (There I []) (fun _ _ => False) SubL.nil (fun _ _ h => h.elim) 16 [false, false, false, false, false, false, false, false, false, false, false, false, false, false, false, false] rfl rfl ?_
        refine WD.val (i := 0) rfl rfl rfl rfl (by kernel_rfl) rfl (Yld.move rfl rfl) ?_
        refine WD.val (i := 1) rfl rfl rfl rfl (by kernel_rfl) rfl (Yld.move rfl rfl) ?_
        refine WD.val (i := 2) rfl rfl rfl rfl (by kernel_rfl) rfl (Yld.move rfl rfl) ?_
        refine WD.val (i := 3) rfl rfl rfl rfl (by kernel_rfl) rfl (Yld.move rfl rfl) ?_
        refine WD.val (i := 4) rfl rfl rfl rfl (by kernel_rfl) rfl (Yld.indexAddr (i := i) rfl ty_sl_22 rfl rfl hi) ?_
        refine WD.val (i := 5) rfl rfl rfl rfl (by kernel_rfl) rfl (Yld.fieldAddr rfl ty_fd_36_1 rfl) ?_
        refine WD.val1 (i := 6) rfl rfl rfl rfl (by kernel_rfl) rfl (by kernel_rfl) (Yld.loadC rfl ty_sc_3 rfl (.inl (There.i hb)) e1) ?_
        refine WD.val (i := 7) rfl rfl rfl rfl (by kernel_rfl) rfl (Yld.move rfl rfl) ?_
        refine WD.val (i := 8) rfl rfl rfl rfl (by kernel_rfl) rfl (Yld.move rfl rfl) ?_
        refine WD.val (i := 9) rfl rfl rfl rfl (by kernel_rfl) rfl (Yld.indexAddr (i := i) rfl ty_sl_22 rfl rfl hi) ?_
        refine WD.val (i := 10) rfl rfl rfl rfl (by kernel_rfl) rfl (Yld.fieldAddr rfl ty_fd_36_2 rfl) ?_
        refine WD.val1 (i := 11) rfl rfl rfl rfl (by kernel_rfl) rfl (by kernel_rfl) (Yld.loadC rfl ty_sc_4 rfl (.inl (There.i hb)) e2) ?_
        refine WD.val (i := 12) rfl rfl rfl rfl (by kernel_rfl) rfl (Yld.buildS (pl := [(0, 0, 1), (1, 1, 1), (2, 2, 1)]) rfl ty_zr_46 ty_zd_46 (by kernel_rfl) rfl (vs := [_, _, _]) rfl (segs := [(0, [_]), (1, [_]), (2, [_])]) rfl rfl (by repeat (first | exact SetSeg.nil | apply SetSeg.one | exact SetAt.zero | apply SetAt.succ))) ?_
        refine WD.loud (i := 13) (by kernel_rfl) rfl rfl rfl ?_
        refine Op.buildSlice rfl ty_sl_44 ty_el2_44 rfl rfl rfl rfl (vs := [_]) rfl (segs := [(0, (rad (mkAd jobs[i])))]) (cs := (rad (mkAd jobs[i]))) rfl rfl (.seg (Nat.le_refl _) rfl .nil) (fun bz => ?_)
        refine WD.go (.inr SubL.nil) (fun _ _ h => h.elim) ?_
        refine WD.loud (i := 14) (by kernel_rfl) rfl rfl rfl ?_
        refine Op.append rfl ty_sl_44 ty_el_44 rfl rfl rfl rfl rfl how (SlRd.lit (by repeat (first | exact There.h | exact There.i (by assumption) | apply There.t | apply There.s)) rfl (Nat.le_refl _)) (by repeat (first | exact Take.nil | with_reducible apply Take.cons | apply Take.app | exact Rm.chunk | exact Rm.here | exact Rm.nil0 | apply Rm.skip | apply Rm.skipS | (focus (apply Take.all; (repeat (first | exact Rm.chunk | exact Rm.here | exact Rm.nil0 | apply Rm.skip | apply Rm.skipS)); done)) | apply Take.cons)) rfl (by omega) (by omega) (fun vq Lq hq => ?_)
        have hq : Own 46 7 vq (wc (mks jobs (i + 1))) (i + 1) Lq := by rw [mks_succ hi]; simpa [wc] using hq
        try simp only [List.cons_append, List.nil_append, List.append_assoc]
        refine WD.go (.inl rfl) (fun _ _ h => h.elim) ?_
        refine WD.val (i := 15) rfl rfl rfl rfl (by kernel_rfl) rfl (Yld.assign rfl rfl) ?_
        refine WD.done (by kernel_rfl) ?_
        refine WP.sub [(0, _), (1, _), (2, _), (3, _), (10, _), (11, _), (12, _), (13, _), (14, _), (15, _), (45, _)] ?_ ⟨rfl, rfl, rfl, rfl, rfl, rfl, rfl, rfl, rfl, rfl, rfl, trivial⟩
        refine WP.next ?_
        refine WP.seq ?_
        refine WP.region [0, 1, 2] rfl ?_
        refine WP.val rfl rfl rfl rfl (Yld.move rfl rfl) ?_
        refine WP.val rfl rfl rfl rfl (Yld.move rfl rfl) ?_
        refine WP.val rfl rfl rfl rfl (Yld.neq rfl rfl rfl false (decide_eq_false (by rw [mks_len _ _ (by omega)]; simp))) ?_
        refine WP.nil ?_
        refine WP.sub [(0, _), (1, _), (2, _), (3, _), (10, _), (11, _), (12, _), (13, _), (14, _), (15, _), (45, _), (86, _)] ?_ ⟨rfl, rfl, rfl, rfl, rfl, rfl, rfl, rfl, rfl, rfl, rfl, rfl, trivial⟩
        refine WP.next ?_
        refine WP.condF rfl ?_
        refine WP.skip ?_
        refine WP.leave ?_
        refine WP.next ?_
        refine WP.region [0, 1, 2] rfl ?_
        refine WP.val rfl rfl rfl rfl (Yld.move rfl rfl) ?_
        refine WP.val rfl rfl rfl rfl (Yld.add64 rfl rfl rfl (by omega)) ?_
        refine WP.val rfl rfl rfl rfl (Yld.assign rfl rfl) ?_
        refine WP.nil ?_
        refine WP.sub [(0, _), (1, _), (2, _), (3, _), (10, _), (11, _), (12, _), (13, _), (14, _), (15, _), (45, _), (86, _)] ?_ ⟨rfl, rfl, rfl, rfl, rfl, rfl, rfl, rfl, rfl, rfl, rfl, rfl, trivial⟩
        exact WP.again ⟨i + 1, [], ⟨first, 0, 0, 0, 0, 0⟩, vq, Ll', Lq⟩ ⟨hi, hd', hq⟩ (by simp only; omega) ⟨rfl, rfl, rfl, rfl, rfl, rfl, rfl, rfl, trivial⟩ rfl (by (try dsimp only); repeat (first | exact Rm.chunk | exact Rm.here | exact Rm.nil0 | apply Rm.skip | apply Rm.skipS | apply PX.cons | (apply PX.done; (repeat (first | exact Leave.done | apply Leave.drop | apply Leave.dropS)); done) | apply PX.app))
      · simp only at hle hd how
        obtain rfl : i = jobs.length := by first | omega | (simp only at hlt; omega)
        have hll := mks_len jobs jobs.length (Nat.le_refl _)
        refine WP.nil ?_
        refine WP.sub [(0, _), (1, _), (2, _), (3, _), (10, _), (11, _), (12, _), (13, _), (45, _)] ?_ ⟨rfl, rfl, rfl, rfl, rfl, rfl, rfl, rfl, rfl, trivial⟩
        refine WP.next ?_
        refine WP.condF rfl ?_
        refine WP.exit ?_
        refine WP.thenE ?_
        refine WP.thenE ?_
        refine WP.hit ?_
        refine WP.next ?_
        refine WP.seq ?_
        refine WP.region [0, 1] rfl ?_
        refine WP.val rfl rfl rfl rfl (Yld.move rfl rfl) ?_
        refine WP.val rfl rfl rfl rfl (Yld.assign rfl rfl) ?_
        refine WP.nil ?_
        refine WP.sub [(0, _), (1, _), (2, _), (3, _), (10, _), (11, _), (12, _), (13, _), (16, _), (45, _)] ?_ ⟨rfl, rfl, rfl, rfl, rfl, rfl, rfl, rfl, rfl, rfl, trivial⟩
        refine WP.next ?_
        refine WP.seq ?_
        refine WP.seq ?_
        refine WP.region [0] rfl ?_
        refine WP.val rfl rfl rfl rfl (Yld.assign rfl rfl) ?_
        refine WP.nil ?_
        refine WP.next ?_
        refine WP.block ?_
        refine WP.loop (X := LD) (fun t : LD => [(0, .int .i64 first), (1, .slice A jobs.length cap), (2, vp), (3, .int .i64 most), (10, .pointer (some ⟨q, 0, none⟩)), (11, .pointer (some ⟨l, 0, none⟩)), (12, vw), (16, .int .i64 t.s.v), (17, .int .i64 (t.i : Int))]) (fun _ => I) (fun t : LD => t.Ll ++ (t.Lw ++ (csCh q c t.s ++ F))) (fun t => t.i ≤ picks.length ∧ t.xs.length ≤ 30 ∧ IsLoom l q t.xs t.Ll ∧ Own 46 7 vw (wc t.xs) t.xs.length t.Lw) (fun t => picks.length - t.i) ⟨0, mks jobs jobs.length, ⟨first, 0, 0, 0, 0, 0⟩, vw, Ll, Lw⟩ ⟨Nat.zero_le _, by simp only; omega, hd, by simp only; rw [hll]; exact how⟩ ⟨rfl, rfl, rfl, rfl, rfl, rfl, rfl, rfl, rfl, trivial⟩ rfl (by (try dsimp only); repeat (first | exact Rm.chunk | exact Rm.here | exact Rm.nil0 | apply Rm.skip | apply Rm.skipS | apply PX.cons | (apply PX.done; (repeat (first | exact Leave.done | apply Leave.drop | apply Leave.dropS)); done) | apply PX.app)) ?_
        rintro ⟨i, xs, s, v0, Ll, Lw⟩ ⟨hle, hxl, hd, how⟩
        try dsimp only
        try simp only [List.cons_append, List.nil_append, List.append_assoc]
        refine WP.seq ?_
        refine WP.seq ?_
        refine WP.region [0, 1, 2, 3] rfl ?_
        refine WP.val rfl rfl rfl rfl (Yld.move rfl rfl) ?_
        refine WP.val rfl rfl rfl rfl (Yld.move rfl rfl) ?_
        refine WP.val rfl rfl rfl rfl (Yld.lenR hp rfl ty_sl_23 rfl) ?_
        refine WP.split rfl rfl rfl rfl (Yld.lss rfl rfl rfl) (fun hlt => ?_) (fun hlt => ?_)
        · simp only at hle hxl hd how
          have hip : i < picks.length := by first | omega | (simp only at hlt; omega)
          obtain ⟨bk, kk, ck, Tk, frk, arrk, hvk, hck, hbk, hk4⟩ := hp.get (by omega)
          subst hvk
          have ek := take_cells hk4 i (.int .i64 picks[i]) (by simp [hip]) (by simpa using hip)
          rw [Array.getElem?_toList] at ek
          have hpl := pick_len xs s picks[i]
          have hlf := hd.lefts'
          refine WP.nil ?_
          refine WP.sub [(0, _), (1, _), (2, _), (3, _), (10, _), (11, _), (12, _), (16, _), (17, _), (91, _)] ?_ ⟨rfl, rfl, rfl, rfl, rfl, rfl, rfl, rfl, rfl, rfl, trivial⟩
          refine WP.next ?_
          refine WP.condT rfl ?_
          refine WP.skip ?_
          refine WP.next ?_
          refine WP.seq ?_
          refine WP.block ?_
          refine WP.seq ?_
          refine WP.region [0, 1, 2, 3, 4] rfl ?_
          refine WP.val rfl rfl rfl rfl (Yld.move rfl rfl) ?_
          refine WP.val rfl rfl rfl rfl (Yld.move rfl rfl) ?_
          refine WP.val rfl rfl rfl rfl (Yld.indexAddr (i := i) rfl ty_sl_23 rfl rfl hip) ?_
          refine WP.val rfl rfl rfl rfl (Yld.loadC rfl ty_sc_3 rfl (There.i hbk) (by rw [Nat.mul_one]; exact ek)) ?_
          refine WP.val rfl rfl rfl rfl (Yld.assign rfl rfl) ?_
          refine WP.nil ?_
          refine WP.sub [(0, _), (1, _), (2, _), (3, _), (10, _), (11, _), (12, _), (16, _), (17, _), (18, _), (91, _)] ?_ ⟨rfl, rfl, rfl, rfl, rfl, rfl, rfl, rfl, rfl, rfl, rfl, trivial⟩
          refine WP.next ?_
          refine WP.seq ?_
          refine WP.region [0] rfl ?_
          refine WP.val rfl rfl rfl rfl (Yld.assign rfl rfl) ?_
          refine WP.nil ?_
          refine WP.next ?_
          refine WP.cut (X := Chunks) (fun _ => [(0, .int .i64 first), (1, .slice A jobs.length cap), (2, .slice (some ⟨bk, kk, none⟩) picks.length ck), (3, .int .i64 most), (10, .pointer (some ⟨q, 0, none⟩)), (11, .pointer (some ⟨l, 0, none⟩)), (12, vw), (16, .int .i64 (pick xs s picks[i]).2.1.v), (17, .int .i64 (i : Int)), (18, .int .i64 picks[i]), (19, .int .i64 (pick xs s picks[i]).2.2)]) (fun _ => I) (fun Lw' => Lw' ++ (Ll ++ (csCh q c s ++ F))) (fun Lw' => Own 46 7 vw (wc (pick xs s picks[i]).1) (pick xs s picks[i]).1.length Lw') ?_ ?_
          · skip
            refine WP.seq ?_
            refine WP.region [0, 1, 2, 3, 4, 5, 6, 7] rfl ?_
            refine WP.val rfl rfl rfl rfl (Yld.move rfl rfl) ?_
            refine WP.split rfl rfl rfl rfl (Yld.lss rfl rfl rfl) (fun g1 => ?_) (fun g1 => ?_)
            · refine WP.val rfl rfl rfl rfl (Yld.move rfl rfl) ?_
              refine WP.passG rfl rfl rfl rfl rfl rfl rfl rfl ?_
              refine WP.passG rfl rfl rfl rfl rfl rfl rfl rfl ?_
              refine WP.passG rfl rfl rfl rfl rfl rfl rfl rfl ?_
              refine WP.passG rfl rfl rfl rfl rfl rfl rfl rfl ?_
              refine WP.val rfl rfl rfl rfl (Yld.pickT rfl rfl rfl) ?_
              refine WP.nil ?_
              refine WP.sub [(0, _), (1, _), (2, _), (3, _), (10, _), (11, _), (12, _), (16, _), (17, _), (18, _), (19, _), (91, _), (105, _)] ?_ ⟨rfl, rfl, rfl, rfl, rfl, rfl, rfl, rfl, rfl, rfl, rfl, rfl, rfl, trivial⟩
              refine WP.next ?_
              refine WP.condT rfl ?_
              refine WP.region [0] rfl ?_
              refine WP.val rfl rfl rfl rfl (Yld.assign rfl rfl) ?_
              refine WP.nil ?_
              exact WP.meet Lw (by rw [pick_no (by omega)]; exact how) ⟨rfl, rfl, rfl, rfl, rfl, rfl, rfl, (congrArg (fun z => some (Value.int .i64 z)) (by rw [pick_no (by omega)])), rfl, rfl, (congrArg (fun z => some (Value.int .i64 z)) (by rw [pick_no (by omega)])), trivial⟩ rfl (by (try dsimp only); repeat (first | exact Rm.chunk | exact Rm.here | exact Rm.nil0 | apply Rm.skip | apply Rm.skipS | apply PX.cons | (apply PX.done; (repeat (first | exact Leave.done | apply Leave.drop | apply Leave.dropS)); done) | apply PX.app))
            · refine WP.val rfl rfl rfl rfl (Yld.move rfl rfl) ?_
              refine WP.valG rfl rfl rfl rfl rfl rfl rfl (Yld.move rfl rfl) ?_
              refine WP.valG rfl rfl rfl rfl rfl rfl rfl (Yld.move rfl rfl) ?_
              refine WP.valG rfl rfl rfl rfl rfl rfl rfl (Yld.lenR (how.rd (I := I) (fun p hp => hp)) rfl ty_sl_44 rfl) ?_
              refine WP.splitG rfl rfl rfl rfl rfl rfl rfl (Yld.geq rfl rfl rfl) (fun g2 => ?_) (fun g2 => ?_)
              · refine WP.val rfl rfl rfl rfl (Yld.pickF rfl rfl rfl) ?_
                refine WP.nil ?_
                refine WP.sub [(0, _), (1, _), (2, _), (3, _), (10, _), (11, _), (12, _), (16, _), (17, _), (18, _), (19, _), (91, _), (105, _)] ?_ ⟨rfl, rfl, rfl, rfl, rfl, rfl, rfl, rfl, rfl, rfl, rfl, rfl, rfl, trivial⟩
                refine WP.next ?_
                refine WP.condT rfl ?_
                refine WP.region [0] rfl ?_
                refine WP.val rfl rfl rfl rfl (Yld.assign rfl rfl) ?_
                refine WP.nil ?_
                exact WP.meet Lw (by rw [pick_no (by omega)]; exact how) ⟨rfl, rfl, rfl, rfl, rfl, rfl, rfl, (congrArg (fun z => some (Value.int .i64 z)) (by rw [pick_no (by omega)])), rfl, rfl, (congrArg (fun z => some (Value.int .i64 z)) (by rw [pick_no (by omega)])), trivial⟩ rfl (by (try dsimp only); repeat (first | exact Rm.chunk | exact Rm.here | exact Rm.nil0 | apply Rm.skip | apply Rm.skipS | apply PX.cons | (apply PX.done; (repeat (first | exact Leave.done | apply Leave.drop | apply Leave.dropS)); done) | apply PX.app))
              · obtain ⟨j, hj⟩ : ∃ j : Nat, picks[i] = (j : Int) := ⟨picks[i].toNat, by omega⟩
                have hjl : j < xs.length := by omega
                obtain ⟨bw, cw_, sw_, hvw, rfl, hqw, hrw⟩ := how.get (by omega)
                try simp only [List.cons_append, List.nil_append, List.append_assoc]
                refine WP.val rfl rfl rfl rfl (Yld.pickF rfl rfl rfl) ?_
                refine WP.nil ?_
                refine WP.sub [(0, _), (1, _), (2, _), (3, _), (10, _), (11, _), (12, _), (16, _), (17, _), (18, _), (19, _), (91, _), (105, _)] ?_ ⟨rfl, rfl, rfl, rfl, rfl, rfl, rfl, rfl, rfl, rfl, rfl, rfl, rfl, trivial⟩
                refine WP.next ?_
                refine WP.condF rfl ?_
                refine WP.seq ?_
                refine WP.region [0, 1, 2, 3, 4] rfl ?_
                refine WP.val rfl rfl rfl rfl (Yld.move rfl rfl) ?_
                refine WP.val rfl rfl rfl rfl (Yld.move rfl rfl) ?_
                refine WP.val rfl rfl rfl rfl (Yld.indexAddr (i := j) rfl ty_sl_44 (congrArg some hvw) (congrArg (fun z => some (Value.int .i64 z)) hj) hjl) ?_
                refine WP.val rfl rfl rfl rfl (Yld.fieldAddr rfl ty_fd_46_5 rfl) ?_
                refine WP.splitB rfl rfl rfl rfl (Yld.load rfl ty_sc_4 rfl (by repeat (first | exact There.h | exact There.i (by assumption) | apply There.t | apply There.s)) (flat_at rad_len (l := xs) (j := 5) hjl (by decide) sw_ rfl)) (fun hdn => ?_) (fun hdn => ?_)
                · refine WP.nil ?_
                  refine WP.sub [(0, _), (1, _), (2, _), (3, _), (10, _), (11, _), (12, _), (16, _), (17, _), (18, _), (19, _), (91, _), (105, _), (110, _)] ?_ ⟨rfl, rfl, rfl, rfl, rfl, rfl, rfl, rfl, rfl, rfl, rfl, rfl, rfl, rfl, trivial⟩
                  refine WP.next ?_
                  refine WP.condT rfl ?_
                  refine WP.region [0] rfl ?_
                  refine WP.val rfl rfl rfl rfl (Yld.assign rfl rfl) ?_
                  refine WP.nil ?_
                  exact WP.meet [(bw, row 46 (wc xs ++ sw_))] (by rw [hj, pick_done hjl hdn]; exact how) ⟨rfl, rfl, rfl, rfl, rfl, rfl, rfl, (congrArg (fun z => some (Value.int .i64 z)) (by rw [hj, pick_done hjl hdn])), rfl, rfl, (congrArg (fun z => some (Value.int .i64 z)) (by rw [hj, pick_done hjl hdn])), trivial⟩ rfl (by (try dsimp only); repeat (first | exact Rm.chunk | exact Rm.here | exact Rm.nil0 | apply Rm.skip | apply Rm.skipS | apply PX.cons | (apply PX.done; (repeat (first | exact Leave.done | apply Leave.drop | apply Leave.dropS)); done) | apply PX.app))
                · refine WP.nil ?_
                  refine WP.sub [(0, _), (1, _), (2, _), (3, _), (10, _), (11, _), (12, _), (16, _), (17, _), (18, _), (19, _), (91, _), (105, _), (110, _)] ?_ ⟨rfl, rfl, rfl, rfl, rfl, rfl, rfl, rfl, rfl, rfl, rfl, rfl, rfl, rfl, trivial⟩
                  refine WP.next ?_
                  refine WP.condF rfl ?_
                  refine WP.region [0, 1, 2, 3, 4, 5] rfl ?_
                  refine WP.val rfl rfl rfl rfl (Yld.move rfl rfl) ?_
                  refine WP.val rfl rfl rfl rfl (Yld.move rfl rfl) ?_
                  refine WP.val rfl rfl rfl rfl (Yld.indexAddr (i := j) rfl ty_sl_44 (congrArg some hvw) (congrArg (fun z => some (Value.int .i64 z)) hj) hjl) ?_
                  refine WP.val rfl rfl rfl rfl (Yld.move rfl rfl) ?_
                  refine WP.loud rfl rfl ?_
                  refine Op.call (loom_refStepI hjl (hlf _ (List.getElem_mem hjl))) rfl Try.func20 rfl rfl rfl rfl (by repeat (first | exact Take.nil | with_reducible apply Take.cons | apply Take.app | exact Rm.chunk | exact Rm.here | exact Rm.nil0 | apply Rm.skip | apply Rm.skipS | (focus (apply Take.all; (repeat (first | exact Rm.chunk | exact Rm.here | exact Rm.nil0 | apply Rm.skip | apply Rm.skipS)); done)) | apply Take.cons)) ?_
                  rintro v J L1 hJ ⟨rfl, rfl, rfl⟩
                  clear hJ; try simp only [List.cons_append, List.nil_append, List.append_assoc]
                  refine WP.val rfl rfl rfl rfl (Yld.assign rfl rfl) ?_
                  refine WP.nil ?_
                  refine WP.sub [(0, _), (1, _), (2, _), (3, _), (10, _), (11, _), (12, _), (16, _), (17, _), (18, _), (19, _), (91, _), (105, _), (110, _)] ?_ ⟨rfl, rfl, rfl, rfl, rfl, rfl, rfl, rfl, rfl, rfl, rfl, rfl, rfl, rfl, trivial⟩
                  obtain ⟨p1, p2, p3⟩ := pick_step (s := s) hjl hdn hlf
                  rw [← hj] at p1 p2 p3
                  have hset : Own 46 7 (.slice (some ⟨bw, 0, none⟩) xs.length cw_) (wc (xs.set j (refStep xs[j] s.v).1)) xs.length [(bw, row 46 (wc (xs.set j (refStep xs[j] s.v).1) ++ sw_))] := Own.blk (by rw [wc_len, List.length_set]) (by rw [wc_len, List.length_set]; rw [wc_len] at hqw; exact hqw) hrw
                  exact WP.meet [(bw, row 46 (wc (xs.set j (refStep xs[j] s.v).1) ++ sw_))] (by rw [p1, List.length_set, hvw]; exact hset) ⟨rfl, rfl, rfl, rfl, rfl, rfl, rfl, (congrArg (fun z => some (Value.int .i64 z)) p2.symm), rfl, rfl, (congrArg (fun z => some (Value.int .i64 z)) p3.symm), trivial⟩ rfl (by (try dsimp only); repeat (first | exact Rm.chunk | exact Rm.here | exact Rm.nil0 | apply Rm.skip | apply Rm.skipS | apply PX.cons | (apply PX.done; (repeat (first | exact Leave.done | apply Leave.drop | apply Leave.dropS)); done) | apply PX.app))
          · intro Lw' how'
            refine WP.seq ?_
            refine WP.region [0, 1, 2, 3] rfl ?_
            refine WP.val rfl rfl rfl rfl (Yld.move rfl rfl) ?_
            refine WP.val rfl rfl rfl rfl (Yld.move rfl rfl) ?_
            refine WP.loud rfl rfl ?_
            refine Op.call (loom_Pick hd) rfl Try.func18 rfl rfl rfl rfl (by repeat (first | exact Take.nil | with_reducible apply Take.cons | apply Take.app | exact Rm.chunk | exact Rm.here | exact Rm.nil0 | apply Rm.skip | apply Rm.skipS | (focus (apply Take.all; (repeat (first | exact Rm.chunk | exact Rm.here | exact Rm.nil0 | apply Rm.skip | apply Rm.skipS)); done)) | apply Take.cons)) ?_
            rintro v J L9 hJ ⟨rfl, rfl, L1, rfl, hd2⟩
            clear hJ; try simp only [List.cons_append, List.nil_append, List.append_assoc]
            refine WP.val rfl rfl rfl rfl (Yld.assign rfl rfl) ?_
            refine WP.nil ?_
            refine WP.sub [(0, _), (1, _), (2, _), (3, _), (10, _), (11, _), (12, _), (16, _), (17, _), (18, _), (19, _), (20, _)] ?_ ⟨rfl, rfl, rfl, rfl, rfl, rfl, rfl, rfl, rfl, rfl, rfl, rfl, trivial⟩
            refine WP.next ?_
            refine WP.seq ?_
            refine WP.region [0, 1, 2, 3] rfl ?_
            refine WP.val rfl rfl rfl rfl (Yld.move rfl rfl) ?_
            refine WP.val rfl rfl rfl rfl (Yld.move rfl rfl) ?_
            refine WP.loud rfl rfl ?_
            refine Op.call (loom_alike hd2 how' (by omega)) rfl Try.func21 rfl rfl rfl rfl (by repeat (first | exact Take.nil | with_reducible apply Take.cons | apply Take.app | exact Rm.chunk | exact Rm.here | exact Rm.nil0 | apply Rm.skip | apply Rm.skipS | (focus (apply Take.all; (repeat (first | exact Rm.chunk | exact Rm.here | exact Rm.nil0 | apply Rm.skip | apply Rm.skipS)); done)) | apply Take.cons)) ?_
            rintro v J L1 hJ ⟨rfl, rfl, rfl⟩
            clear hJ; try simp only [List.cons_append, List.nil_append, List.append_assoc]
            refine WP.val rfl rfl rfl rfl (Yld.assign rfl rfl) ?_
            refine WP.nil ?_
            refine WP.sub [(0, _), (1, _), (2, _), (3, _), (10, _), (11, _), (12, _), (16, _), (17, _), (18, _), (19, _), (20, _), (21, _)] ?_ ⟨rfl, rfl, rfl, rfl, rfl, rfl, rfl, rfl, rfl, rfl, rfl, rfl, rfl, trivial⟩
            refine WP.next ?_
            refine WP.seq ?_
            refine WP.region [0, 1, 2, 3, 4, 5, 6, 7, 8, 9, 10, 11, 12] rfl ?_
            refine WP.val rfl rfl rfl rfl (Yld.move rfl rfl) ?_
            refine WP.val rfl rfl rfl rfl (Yld.move rfl rfl) ?_
            refine WP.val rfl rfl rfl rfl (Yld.neq rfl rfl rfl false (decide_eq_false (by simp))) ?_
            refine WP.val rfl rfl rfl rfl (Yld.move rfl rfl) ?_
            refine WP.valG rfl rfl rfl rfl rfl rfl rfl (Yld.move rfl rfl) ?_
            refine WP.valG rfl rfl rfl rfl rfl rfl rfl (Yld.not rfl rfl) ?_
            refine WP.val rfl rfl rfl rfl (Yld.pickF rfl rfl rfl) ?_
            refine WP.val rfl rfl rfl rfl (Yld.move rfl rfl) ?_
            refine WP.valG rfl rfl rfl rfl rfl rfl rfl (Yld.move rfl rfl) ?_
            refine WP.loudG rfl rfl rfl rfl rfl ?_
            refine Op.call cs_Load rfl Try.func22 rfl rfl rfl rfl (by repeat (first | exact Take.nil | with_reducible apply Take.cons | apply Take.app | exact Rm.chunk | exact Rm.here | exact Rm.nil0 | apply Rm.skip | apply Rm.skipS | (focus (apply Take.all; (repeat (first | exact Rm.chunk | exact Rm.here | exact Rm.nil0 | apply Rm.skip | apply Rm.skipS)); done)) | apply Take.cons)) ?_
            rintro v J L1 hJ ⟨rfl, rfl, rfl⟩
            clear hJ; try simp only [List.cons_append, List.nil_append, List.append_assoc]
            refine WP.valG rfl rfl rfl rfl rfl rfl rfl (Yld.move rfl rfl) ?_
            refine WP.valG rfl rfl rfl rfl rfl rfl rfl (Yld.neq rfl rfl rfl false (decide_eq_false (by simp))) ?_
            refine WP.val rfl rfl rfl rfl (Yld.pickF rfl rfl rfl) ?_
            refine WP.nil ?_
            refine WP.sub [(0, _), (1, _), (2, _), (3, _), (10, _), (11, _), (12, _), (16, _), (17, _), (18, _), (19, _), (20, _), (21, _), (134, _)] ?_ ⟨rfl, rfl, rfl, rfl, rfl, rfl, rfl, rfl, rfl, rfl, rfl, rfl, rfl, rfl, trivial⟩
            refine WP.next ?_
            refine WP.condF rfl ?_
            refine WP.skip ?_
            refine WP.leave ?_
            refine WP.next ?_
            refine WP.region [0, 1, 2] rfl ?_
            refine WP.val rfl rfl rfl rfl (Yld.move rfl rfl) ?_
            refine WP.val rfl rfl rfl rfl (Yld.add64 rfl rfl rfl (by omega)) ?_
            refine WP.val rfl rfl rfl rfl (Yld.assign rfl rfl) ?_
            refine WP.nil ?_
            refine WP.sub [(0, _), (1, _), (2, _), (3, _), (10, _), (11, _), (12, _), (16, _), (17, _), (18, _), (19, _), (20, _), (21, _), (134, _)] ?_ ⟨rfl, rfl, rfl, rfl, rfl, rfl, rfl, rfl, rfl, rfl, rfl, rfl, rfl, rfl, trivial⟩
            exact WP.again ⟨i + 1, (pick xs s picks[i]).1, { (pick xs s picks[i]).2.1 with l := inc (pick xs s picks[i]).2.1.l }, vw, L1, Lw'⟩ ⟨hip, by simp only; omega, hd2, how'⟩ (by simp only; omega) ⟨rfl, rfl, rfl, rfl, rfl, rfl, rfl, rfl, rfl, trivial⟩ rfl (by (try dsimp only); repeat (first | exact Rm.chunk | exact Rm.here | exact Rm.nil0 | apply Rm.skip | apply Rm.skipS | apply PX.cons | (apply PX.done; (repeat (first | exact Leave.done | apply Leave.drop | apply Leave.dropS)); done) | apply PX.app))
        · simp only at hle hxl hd how
          have hlf := hd.lefts'
          have hrr := refRun_run most most.toNat xs s 0 hlf (by omega)
          refine WP.nil ?_
          refine WP.sub [(0, _), (1, _), (2, _), (3, _), (10, _), (11, _), (12, _), (16, _), (17, _), (91, _)] ?_ ⟨rfl, rfl, rfl, rfl, rfl, rfl, rfl, rfl, rfl, rfl, trivial⟩
          refine WP.next ?_
          refine WP.condF rfl ?_
          refine WP.exit ?_
          refine WP.thenE ?_
          refine WP.thenE ?_
          refine WP.hit ?_
          refine WP.next ?_
          refine WP.seq ?_
          refine WP.region [0, 1, 2, 3] rfl ?_
          refine WP.val rfl rfl rfl rfl (Yld.move rfl rfl) ?_
          refine WP.val rfl rfl rfl rfl (Yld.move rfl rfl) ?_
          refine WP.loud rfl rfl ?_
          refine Op.call (loom_Run hd (by omega) (by omega)) rfl Try.func23 rfl rfl rfl rfl (by repeat (first | exact Take.nil | with_reducible apply Take.cons | apply Take.app | exact Rm.chunk | exact Rm.here | exact Rm.nil0 | apply Rm.skip | apply Rm.skipS | (focus (apply Take.all; (repeat (first | exact Rm.chunk | exact Rm.here | exact Rm.nil0 | apply Rm.skip | apply Rm.skipS)); done)) | apply Take.cons)) ?_
          rintro v J L9 hJ ⟨rfl, rfl, Ll2, rfl, hd2⟩
          clear hJ; try simp only [List.cons_append, List.nil_append, List.append_assoc]
          refine WP.val rfl rfl rfl rfl (Yld.assign rfl rfl) ?_
          refine WP.nil ?_
          refine WP.sub [(0, _), (1, _), (2, _), (3, _), (10, _), (11, _), (12, _), (16, _), (17, _), (22, _), (91, _)] ?_ ⟨rfl, rfl, rfl, rfl, rfl, rfl, rfl, rfl, rfl, rfl, rfl, trivial⟩
          refine WP.next ?_
          refine WP.seq ?_
          refine WP.region [0, 1, 2, 3, 4, 5, 6, 7, 8] rfl ?_
          refine WP.val rfl rfl rfl rfl (Yld.move rfl rfl) ?_
          refine WP.val rfl rfl rfl rfl (Yld.move rfl rfl) ?_
          refine WP.val rfl rfl rfl rfl (Yld.move rfl rfl) ?_
          refine WP.loud rfl rfl ?_
          refine Op.call (loom_refRun how hlf (by omega) hxl) rfl Try.func24 rfl rfl rfl rfl (by repeat (first | exact Take.nil | with_reducible apply Take.cons | apply Take.app | exact Rm.chunk | exact Rm.here | exact Rm.nil0 | apply Rm.skip | apply Rm.skipS | (focus (apply Take.all; (repeat (first | exact Rm.chunk | exact Rm.here | exact Rm.nil0 | apply Rm.skip | apply Rm.skipS)); done)) | apply Take.cons)) ?_
          rintro v J Lw2 hJ ⟨rfl, rfl, how2⟩
          clear hJ; try simp only [List.cons_append, List.nil_append, List.append_assoc]
          rw [hrr] at how2 ⊢
          have how2 : Own 46 7 vw (wc (run xs s most).1) (run xs s most).1.length Lw2 := how2
          have hrl := run_len xs s most
          try simp only [List.cons_append, List.nil_append, List.append_assoc]
          refine WP.val rfl rfl rfl rfl (Yld.move rfl rfl) ?_
          refine WP.val rfl rfl rfl rfl (Yld.extract rfl rfl rfl) ?_
          refine WP.val rfl rfl rfl rfl (Yld.extract rfl rfl rfl) ?_
          refine WP.val rfl rfl rfl rfl (Yld.assign rfl rfl) ?_
          refine WP.val rfl rfl rfl rfl (Yld.assign rfl rfl) ?_
          refine WP.nil ?_
          refine WP.sub [(0, _), (1, _), (2, _), (3, _), (10, _), (11, _), (12, _), (16, _), (17, _), (22, _), (23, _), (24, _), (91, _)] ?_ ⟨rfl, rfl, rfl, rfl, rfl, rfl, rfl, rfl, rfl, rfl, rfl, rfl, rfl, trivial⟩
          refine WP.next ?_
          refine WP.seq ?_
          refine WP.region [0, 1, 2, 3] rfl ?_
          refine WP.val rfl rfl rfl rfl (Yld.move rfl rfl) ?_
          refine WP.val rfl rfl rfl rfl (Yld.move rfl rfl) ?_
          refine WP.loud rfl rfl ?_
          refine Op.call (loom_alike hd2 how2 (by omega)) rfl Try.func21 rfl rfl rfl rfl (by repeat (first | exact Take.nil | with_reducible apply Take.cons | apply Take.app | exact Rm.chunk | exact Rm.here | exact Rm.nil0 | apply Rm.skip | apply Rm.skipS | (focus (apply Take.all; (repeat (first | exact Rm.chunk | exact Rm.here | exact Rm.nil0 | apply Rm.skip | apply Rm.skipS)); done)) | apply Take.cons)) ?_
          rintro v J L1 hJ ⟨rfl, rfl, rfl⟩
          clear hJ; try simp only [List.cons_append, List.nil_append, List.append_assoc]
          refine WP.val rfl rfl rfl rfl (Yld.assign rfl rfl) ?_
          refine WP.nil ?_
          refine WP.sub [(0, _), (1, _), (2, _), (3, _), (10, _), (11, _), (12, _), (16, _), (17, _), (22, _), (23, _), (24, _), (25, _), (91, _)] ?_ ⟨rfl, rfl, rfl, rfl, rfl, rfl, rfl, rfl, rfl, rfl, rfl, rfl, rfl, rfl, trivial⟩
          refine WP.next ?_
          refine WP.seq ?_
          refine WP.region [0, 1, 2, 3, 4, 5, 6, 7, 8, 9, 10, 11, 12] rfl ?_
          refine WP.val rfl rfl rfl rfl (Yld.move rfl rfl) ?_
          refine WP.val rfl rfl rfl rfl (Yld.move rfl rfl) ?_
          refine WP.val rfl rfl rfl rfl (Yld.eql rfl rfl rfl true (decide_eq_true (by rfl))) ?_
          refine WP.val rfl rfl rfl rfl (Yld.move rfl rfl) ?_
          refine WP.valG rfl rfl rfl rfl rfl rfl rfl (Yld.move rfl rfl) ?_
          refine WP.val rfl rfl rfl rfl (Yld.pickT rfl rfl rfl) ?_
          refine WP.val rfl rfl rfl rfl (Yld.move rfl rfl) ?_
          refine WP.valG rfl rfl rfl rfl rfl rfl rfl (Yld.move rfl rfl) ?_
          refine WP.loudG rfl rfl rfl rfl rfl ?_
          refine Op.call cs_Load rfl Try.func22 rfl rfl rfl rfl (by repeat (first | exact Take.nil | with_reducible apply Take.cons | apply Take.app | exact Rm.chunk | exact Rm.here | exact Rm.nil0 | apply Rm.skip | apply Rm.skipS | (focus (apply Take.all; (repeat (first | exact Rm.chunk | exact Rm.here | exact Rm.nil0 | apply Rm.skip | apply Rm.skipS)); done)) | apply Take.cons)) ?_
          rintro v J L1 hJ ⟨rfl, rfl, rfl⟩
          clear hJ; try simp only [List.cons_append, List.nil_append, List.append_assoc]
          refine WP.valG rfl rfl rfl rfl rfl rfl rfl (Yld.move rfl rfl) ?_
          refine WP.valG rfl rfl rfl rfl rfl rfl rfl (Yld.eql rfl rfl rfl true (decide_eq_true (by rfl))) ?_
          refine WP.val rfl rfl rfl rfl (Yld.pickT rfl rfl rfl) ?_
          refine WP.val rfl rfl rfl rfl (Yld.assign rfl rfl) ?_
          refine WP.nil ?_
          refine WP.sub [(0, _), (1, _), (2, _), (3, _), (8, _), (10, _), (11, _), (12, _), (16, _), (17, _), (22, _), (23, _), (24, _), (25, _), (91, _)] ?_ ⟨rfl, rfl, rfl, rfl, rfl, rfl, rfl, rfl, rfl, rfl, rfl, rfl, rfl, rfl, rfl, trivial⟩
          refine WP.next ?_
          refine WP.ret ?_
          refine WP.fin .ret (.inr rfl) (res1 rfl rfl) [] (by repeat (first | exact Take.nil | with_reducible apply Take.cons | apply Take.app | exact Rm.chunk | exact Rm.here | exact Rm.nil0 | apply Rm.skip | apply Rm.skipS | (focus (apply Take.all; (repeat (first | exact Rm.chunk | exact Rm.here | exact Rm.nil0 | apply Rm.skip | apply Rm.skipS)); done)) | apply Take.cons)) (by repeat (first | exact Leave.done | apply Leave.drop | apply Leave.dropS)) (Imm.le_refl _) ?_
          exact ⟨rfl, rfl, rfl⟩


end Go.Hp
