import Derived.Test.YtdobkjbpehdokaaLoomP
set_option linter.unusedVariables false
set_option linter.unusedSimpArgs false
namespace Go.Hp
open Go Go.Proofs

structure LT where
  i : Nat
  all_ : Int
  least : Int
  top : Int
theorem sumI_take {f : Ad → Int} {xs : List Ad} {i : Nat} (h : i < xs.length) : sumI f (xs.take (i + 1)) = sumI f (xs.take i) + f xs[i] := by
  unfold sumI
  rw [List.take_succ_eq_append_getElem h, List.map_append, List.sum_append]
  simp
theorem sumI_take_le {f : Ad → Int} {xs : List Ad} (h : ∀ a ∈ xs, 0 ≤ f a) (i : Nat) : 0 ≤ sumI f (xs.take i) ∧ sumI f (xs.take i) ≤ sumI f xs := by
  have e : sumI f xs = sumI f (xs.take i) + sumI f (xs.drop i) := by
    conv => lhs; rw [← List.take_append_drop i xs]
    unfold sumI
    rw [List.map_append, List.sum_append]
  have h1 := sumI_nonneg f (xs.take i) (fun a ha => h a (List.mem_of_mem_take ha))
  have h2 := sumI_nonneg f (xs.drop i) (fun a ha => h a (List.mem_of_mem_drop ha))
  omega

theorem run_most (xs : List Ad) (s : CS) (most : Int) : (run xs s most).2.2 ≤ max most 0 := by
  have : ∀ (f : Nat) (st : List Ad × CS × Int), (runL most f st).2.2 ≤ max most st.2.2 := by
    intro f
    induction f with
    | zero => intro st; show st.2.2 ≤ _; omega
    | succ f ih =>
      intro st
      rw [runL]
      split
      · split
        · omega
        · have h1 := ih (sweep most (live st.1) st)
          have h2 := (sweep_n most (live st.1) st (by omega)).2.1
          omega
      · omega
  have := this most.toNat (xs, s, 0)
  exact this
theorem loom_LoomTurns {I : Imm} {most : Int} {jobs : List Job} {vj : Value} (hj : Slc I 3 RJob vj jobs) : Spec Try.prog 5 [vj, .int .i64 most] I [] (fun v J L => v = .bool true ∧ I = J ∧ L = []) := by
  obtain ⟨A, cap, rfl, hcap, hjobs⟩ := hj
  refine Spec.of Try.func5 rfl Try.ntmps5 (Nat.le_of_ble_eq_true rfl) (fun F => ?_)
  try simp only [List.cons_append, List.nil_append, List.append_assoc]
  dsimp only [argsEnv]
  refine WP.seq ?_
  refine WP.region [0] rfl ?_
  refine WP.val rfl rfl rfl rfl (Yld.assign rfl rfl) ?_
  refine WP.nil ?_
  refine WP.next ?_
  refine WP.seq ?_
  refine WP.region [0, 1] rfl ?_
  refine WP.loud rfl rfl ?_
  refine Op.call (loom_awake _) rfl Try.func11 rfl rfl rfl rfl (by repeat (first | exact Take.nil | with_reducible apply Take.cons | apply Take.app | exact Rm.chunk | exact Rm.here | exact Rm.nil0 | apply Rm.skip | apply Rm.skipS | (focus (apply Take.all; (repeat (first | exact Rm.chunk | exact Rm.here | exact Rm.nil0 | apply Rm.skip | apply Rm.skipS)); done)) | apply Take.cons)) ?_
  rintro v J L1 hJ ⟨rfl, rfl, rfl⟩
  clear hJ; try simp only [List.cons_append, List.nil_append, List.append_assoc]
  refine WP.val rfl rfl rfl rfl (Yld.assign rfl rfl) ?_
  refine WP.nil ?_
  refine WP.sub [(0, _), (1, _), (4, _), (5, _)] ?_ ⟨rfl, rfl, rfl, rfl, trivial⟩
  refine WP.next ?_
  refine WP.seq ?_
  refine WP.seq ?_
  refine WP.region [0, 1, 2, 3, 4, 5, 6, 7, 8, 9, 10] rfl ?_
  refine WP.val rfl rfl rfl rfl (Yld.move rfl rfl) ?_
  refine WP.val rfl rfl rfl rfl (Yld.not rfl rfl) ?_
  refine WP.val rfl rfl rfl rfl (Yld.move rfl rfl) ?_
  refine WP.valG rfl rfl rfl rfl rfl rfl rfl (Yld.move rfl rfl) ?_
  refine WP.valG rfl rfl rfl rfl rfl rfl rfl (Yld.len rfl ty_sl_22 rfl) ?_
  refine WP.splitG rfl rfl rfl rfl rfl rfl rfl (Yld.gtr rfl rfl rfl) (fun h30 => ?_) (fun h30 => ?_)
  · refine WP.val rfl rfl rfl rfl (Yld.pickF rfl rfl rfl) ?_
    refine WP.val rfl rfl rfl rfl (Yld.move rfl rfl) ?_
    refine WP.passG rfl rfl rfl rfl rfl rfl rfl rfl ?_
    refine WP.passG rfl rfl rfl rfl rfl rfl rfl rfl ?_
    refine WP.val rfl rfl rfl rfl (Yld.pickT rfl rfl rfl) ?_
    refine WP.nil ?_
    refine WP.sub [(0, _), (1, _), (4, _), (5, _), (26, _)] ?_ ⟨rfl, rfl, rfl, rfl, rfl, trivial⟩
    refine WP.next ?_
    refine WP.condT rfl ?_
    refine WP.seq ?_
    refine WP.region [0, 1] rfl ?_
    refine WP.val rfl rfl rfl rfl (Yld.move rfl rfl) ?_
    refine WP.val rfl rfl rfl rfl (Yld.assign rfl rfl) ?_
    refine WP.nil ?_
    refine WP.sub [(0, _), (1, _), (4, _), (5, _), (26, _)] ?_ ⟨rfl, rfl, rfl, rfl, rfl, trivial⟩
    refine WP.next ?_
    refine WP.ret ?_
    refine WP.fin .ret (.inr rfl) (res1 rfl rfl) [] (by repeat (first | exact Take.nil | with_reducible apply Take.cons | apply Take.app | exact Rm.chunk | exact Rm.here | exact Rm.nil0 | apply Rm.skip | apply Rm.skipS | (focus (apply Take.all; (repeat (first | exact Rm.chunk | exact Rm.here | exact Rm.nil0 | apply Rm.skip | apply Rm.skipS)); done)) | apply Take.cons)) (by repeat (first | exact Leave.done | apply Leave.drop | apply Leave.dropS)) (Imm.le_refl _) ?_
    exact ⟨rfl, rfl, rfl⟩
  · refine WP.val rfl rfl rfl rfl (Yld.pickF rfl rfl rfl) ?_
    refine WP.val rfl rfl rfl rfl (Yld.move rfl rfl) ?_
    refine WP.valG rfl rfl rfl rfl rfl rfl rfl (Yld.move rfl rfl) ?_
    refine WP.splitG rfl rfl rfl rfl rfl rfl rfl (Yld.gtr rfl rfl rfl) (fun h40 => ?_) (fun h40 => ?_)
    · refine WP.val rfl rfl rfl rfl (Yld.pickF rfl rfl rfl) ?_
      refine WP.nil ?_
      refine WP.sub [(0, _), (1, _), (4, _), (5, _), (26, _)] ?_ ⟨rfl, rfl, rfl, rfl, rfl, trivial⟩
      refine WP.next ?_
      refine WP.condT rfl ?_
      refine WP.seq ?_
      refine WP.region [0, 1] rfl ?_
      refine WP.val rfl rfl rfl rfl (Yld.move rfl rfl) ?_
      refine WP.val rfl rfl rfl rfl (Yld.assign rfl rfl) ?_
      refine WP.nil ?_
      refine WP.sub [(0, _), (1, _), (4, _), (5, _), (26, _)] ?_ ⟨rfl, rfl, rfl, rfl, rfl, trivial⟩
      refine WP.next ?_
      refine WP.ret ?_
      refine WP.fin .ret (.inr rfl) (res1 rfl rfl) [] (by repeat (first | exact Take.nil | with_reducible apply Take.cons | apply Take.app | exact Rm.chunk | exact Rm.here | exact Rm.nil0 | apply Rm.skip | apply Rm.skipS | (focus (apply Take.all; (repeat (first | exact Rm.chunk | exact Rm.here | exact Rm.nil0 | apply Rm.skip | apply Rm.skipS)); done)) | apply Take.cons)) (by repeat (first | exact Leave.done | apply Leave.drop | apply Leave.dropS)) (Imm.le_refl _) ?_
      exact ⟨rfl, rfl, rfl⟩
    · refine WP.val rfl rfl rfl rfl (Yld.pickF rfl rfl rfl) ?_
      refine WP.nil ?_
      refine WP.sub [(0, _), (1, _), (4, _), (5, _), (26, _)] ?_ ⟨rfl, rfl, rfl, rfl, rfl, trivial⟩
      refine WP.next ?_
      refine WP.condF rfl ?_
      refine WP.skip ?_
      refine WP.next ?_
      refine WP.seq ?_
      refine WP.region [0, 1] rfl ?_
      refine WP.loud rfl rfl ?_
      refine Op.call cs_New0 rfl Try.func13 rfl rfl rfl rfl (by repeat (first | exact Take.nil | with_reducible apply Take.cons | apply Take.app | exact Rm.chunk | exact Rm.here | exact Rm.nil0 | apply Rm.skip | apply Rm.skipS | (focus (apply Take.all; (repeat (first | exact Rm.chunk | exact Rm.here | exact Rm.nil0 | apply Rm.skip | apply Rm.skipS)); done)) | apply Take.cons)) ?_
      rintro v J L1 hJ ⟨q, c, rfl, rfl, rfl⟩
      clear hJ; try simp only [List.cons_append, List.nil_append, List.append_assoc]
      refine WP.val rfl rfl rfl rfl (Yld.assign rfl rfl) ?_
      refine WP.nil ?_
      refine WP.sub [(0, _), (1, _), (4, _), (5, _), (6, _), (26, _)] ?_ ⟨rfl, rfl, rfl, rfl, rfl, rfl, trivial⟩
      refine WP.next ?_
      refine WP.seq ?_
      refine WP.region [0, 1] rfl ?_
      refine WP.loud rfl rfl ?_
      refine Op.call (loom_New I q) rfl Try.func14 rfl rfl rfl rfl (by repeat (first | exact Take.nil | with_reducible apply Take.cons | apply Take.app | exact Rm.chunk | exact Rm.here | exact Rm.nil0 | apply Rm.skip | apply Rm.skipS | (focus (apply Take.all; (repeat (first | exact Rm.chunk | exact Rm.here | exact Rm.nil0 | apply Rm.skip | apply Rm.skipS)); done)) | apply Take.cons)) ?_
      rintro v J Ll hJ ⟨l, rfl, rfl, hd⟩
      clear hJ; try simp only [List.cons_append, List.nil_append, List.append_assoc]
      refine WP.val rfl rfl rfl rfl (Yld.assign rfl rfl) ?_
      refine WP.nil ?_
      refine WP.sub [(0, _), (1, _), (4, _), (5, _), (6, _), (7, _), (26, _)] ?_ ⟨rfl, rfl, rfl, rfl, rfl, rfl, rfl, trivial⟩
      refine WP.next ?_
      refine WP.seq ?_
      refine WP.seq ?_
      refine WP.region [0] rfl ?_
      refine WP.val rfl rfl rfl rfl (Yld.assign rfl rfl) ?_
      refine WP.nil ?_
      refine WP.next ?_
      refine WP.block ?_
      refine WP.loop (X := Nat × Chunks) (fun t : Nat × Chunks => [(0, .slice A jobs.length cap), (1, .int .i64 most), (6, .pointer (some ⟨q, 0, none⟩)), (7, .pointer (some ⟨l, 0, none⟩)), (8, .int .i64 (t.1 : Int))]) (fun _ => I) (fun t : Nat × Chunks => t.2 ++ (csCh q c ⟨0, 0, 0, 0, 0, 0⟩ ++ F)) (fun t : Nat × Chunks => t.1 ≤ jobs.length ∧ IsLoom l q (mks jobs t.1) t.2) (fun t => jobs.length - t.1) ⟨0, Ll⟩ ⟨Nat.zero_le _, hd⟩ ⟨rfl, rfl, rfl, rfl, rfl, trivial⟩ rfl (by (try dsimp only); repeat (first | exact Rm.chunk | exact Rm.here | exact Rm.nil0 | apply Rm.skip | apply Rm.skipS | apply PX.cons | (apply PX.done; (repeat (first | exact Leave.done | apply Leave.drop | apply Leave.dropS)); done) | apply PX.app)) ?_
      rintro ⟨i, Ll⟩ ⟨hle, hd⟩
      try dsimp only
      try simp only [List.cons_append, List.nil_append, List.append_assoc]
      refine WP.seq ?_
      refine WP.seq ?_
      refine WP.region [0, 1, 2, 3] rfl ?_
      refine WP.val rfl rfl rfl rfl (Yld.move rfl rfl) ?_
      refine WP.val rfl rfl rfl rfl (Yld.move rfl rfl) ?_
      refine WP.val rfl rfl rfl rfl (Yld.len rfl ty_sl_22 rfl) ?_
      refine WP.split rfl rfl rfl rfl (Yld.lss rfl rfl rfl) (fun hlt => ?_) (fun hlt => ?_)
      · simp only at hle hd
        have hi : i < jobs.length := by first | omega | (simp only at hlt; omega)
        obtain ⟨b, kk, arr, T, fr, rfl, hb, hel⟩ := hjobs.resolve_left (by rintro rfl; simp at hi)
        obtain ⟨_, hR⟩ := hel i _ (List.getElem?_eq_getElem hi)
        unfold RJob at hR
        have e0 := take_cells hR 0 _ rfl (by decide)
        have e1 := take_cells hR 1 _ rfl (by decide)
        have e2 := take_cells hR 2 _ rfl (by decide)
        rw [Array.getElem?_toList] at e0 e1 e2
        have htm := tm_le jobs[i].times
        refine WP.nil ?_
        refine WP.sub [(0, _), (1, _), (6, _), (7, _), (8, _), (33, _)] ?_ ⟨rfl, rfl, rfl, rfl, rfl, rfl, trivial⟩
        refine WP.next ?_
        refine WP.condT rfl ?_
        refine WP.skip ?_
        refine WP.next ?_
        refine WP.seq ?_
        refine WP.block ?_
        refine WD.start Trymixed 19 (There I []) (fun _ _ => False) SubL.nil (fun _ _ h => h.elim) 20 [false, false, false, false, false, false, false, false, false, false, false, false, false, false, false, false, false, false, false, false] rfl rfl ?_
        refine WD.val (i := 0) rfl rfl rfl rfl (by kernel_rfl) rfl (Yld.move rfl rfl) ?_
        refine WD.val (i := 1) rfl rfl rfl rfl (by kernel_rfl) rfl (Yld.move rfl rfl) ?_
        refine WD.val (i := 2) rfl rfl rfl rfl (by kernel_rfl) rfl (Yld.move rfl rfl) ?_
        refine WD.val (i := 3) rfl rfl rfl rfl (by kernel_rfl) rfl (Yld.move rfl rfl) ?_
        refine WD.val (i := 4) rfl rfl rfl rfl (by kernel_rfl) rfl (Yld.indexAddr (i := i) rfl ty_sl_22 rfl rfl hi) ?_
        refine WD.val (i := 5) rfl rfl rfl rfl (by kernel_rfl) rfl (Yld.fieldAddr rfl ty_fd_36_0 rfl) ?_
        refine WD.val1 (i := 6) rfl rfl rfl rfl (by kernel_rfl) rfl (by kernel_rfl) (Yld.loadC rfl ty_sc_3 rfl (.inl (There.i hb)) e0) ?_
        refine WD.val (i := 7) rfl rfl rfl rfl (by kernel_rfl) rfl (Yld.remT rfl rfl rfl (by decide)) ?_
        refine WD.val (i := 8) rfl rfl rfl rfl (by kernel_rfl) rfl (Yld.move rfl rfl) ?_
        refine WD.val (i := 9) rfl rfl rfl rfl (by kernel_rfl) rfl (Yld.move rfl rfl) ?_
        refine WD.val (i := 10) rfl rfl rfl rfl (by kernel_rfl) rfl (Yld.indexAddr (i := i) rfl ty_sl_22 rfl rfl hi) ?_
        refine WD.val (i := 11) rfl rfl rfl rfl (by kernel_rfl) rfl (Yld.fieldAddr rfl ty_fd_36_1 rfl) ?_
        refine WD.val1 (i := 12) rfl rfl rfl rfl (by kernel_rfl) rfl (by kernel_rfl) (Yld.loadC rfl ty_sc_3 rfl (.inl (There.i hb)) e1) ?_
        refine WD.val (i := 13) rfl rfl rfl rfl (by kernel_rfl) rfl (Yld.move rfl rfl) ?_
        refine WD.val (i := 14) rfl rfl rfl rfl (by kernel_rfl) rfl (Yld.move rfl rfl) ?_
        refine WD.val (i := 15) rfl rfl rfl rfl (by kernel_rfl) rfl (Yld.indexAddr (i := i) rfl ty_sl_22 rfl rfl hi) ?_
        refine WD.val (i := 16) rfl rfl rfl rfl (by kernel_rfl) rfl (Yld.fieldAddr rfl ty_fd_36_2 rfl) ?_
        refine WD.val1 (i := 17) rfl rfl rfl rfl (by kernel_rfl) rfl (by kernel_rfl) (Yld.loadC rfl ty_sc_4 rfl (.inl (There.i hb)) e2) ?_
        refine WD.loud (i := 18) (by kernel_rfl) rfl rfl rfl ?_
        refine Op.call loom_NewAdder rfl Try.func16 rfl rfl rfl rfl (by repeat (first | exact Take.nil | with_reducible apply Take.cons | apply Take.app | exact Rm.chunk | exact Rm.here | exact Rm.nil0 | apply Rm.skip | apply Rm.skipS | (focus (apply Take.all; (repeat (first | exact Rm.chunk | exact Rm.here | exact Rm.nil0 | apply Rm.skip | apply Rm.skipS)); done)) | apply Take.cons)) ?_
        rintro v J L1 hJ ⟨mb, rfl, rfl, rfl⟩
        clear hJ; try simp only [List.cons_append, List.nil_append, List.append_assoc]
        refine WD.go (.inr SubL.nil) (fun _ _ h => h.elim) ?_
        refine WD.loud (i := 19) (by kernel_rfl) rfl rfl rfl ?_
        refine Op.call (loom_Add hd (by rw [mks_len _ _ (by omega)]; omega) (a := mkAd jobs[i]) (by show tm _ ≤ _; omega)) rfl Try.func15 rfl rfl rfl rfl (by repeat (first | exact Take.nil | with_reducible apply Take.cons | apply Take.app | exact Rm.chunk | exact Rm.here | exact Rm.nil0 | apply Rm.skip | apply Rm.skipS | (focus (apply Take.all; (repeat (first | exact Rm.chunk | exact Rm.here | exact Rm.nil0 | apply Rm.skip | apply Rm.skipS)); done)) | apply Take.cons)) ?_
        rintro v J Ll' hJ ⟨rfl, rfl, hd'⟩
        clear hJ; try simp only [List.cons_append, List.nil_append, List.append_assoc]
        have hd' : IsLoom l q (mks jobs (i + 1)) Ll' := by rw [mks_succ hi]; exact hd'
        refine WD.go (.inl rfl) (fun _ _ h => h.elim) ?_
        refine WD.done (by kernel_rfl) ?_
        refine WP.sub [(0, _), (1, _), (6, _), (7, _), (8, _), (33, _)] ?_ ⟨rfl, rfl, rfl, rfl, rfl, rfl, trivial⟩
        refine WP.leave ?_
        refine WP.next ?_
        refine WP.region [0, 1, 2] rfl ?_
        refine WP.val rfl rfl rfl rfl (Yld.move rfl rfl) ?_
        refine WP.val rfl rfl rfl rfl (Yld.add64 rfl rfl rfl (by omega)) ?_
        refine WP.val rfl rfl rfl rfl (Yld.assign rfl rfl) ?_
        refine WP.nil ?_
        refine WP.sub [(0, _), (1, _), (6, _), (7, _), (8, _), (33, _)] ?_ ⟨rfl, rfl, rfl, rfl, rfl, rfl, trivial⟩
        exact WP.again ⟨i + 1, Ll'⟩ ⟨hi, hd'⟩ (by simp only; omega) ⟨rfl, rfl, rfl, rfl, rfl, trivial⟩ rfl (by (try dsimp only); repeat (first | exact Rm.chunk | exact Rm.here | exact Rm.nil0 | apply Rm.skip | apply Rm.skipS | apply PX.cons | (apply PX.done; (repeat (first | exact Leave.done | apply Leave.drop | apply Leave.dropS)); done) | apply PX.app))
      · simp only at hle hd
        obtain rfl : i = jobs.length := by first | omega | (simp only at hlt; omega)
        have hll := mks_len jobs jobs.length (Nat.le_refl _)
        refine WP.nil ?_
        refine WP.sub [(0, _), (1, _), (6, _), (7, _), (8, _), (33, _)] ?_ ⟨rfl, rfl, rfl, rfl, rfl, rfl, trivial⟩
        refine WP.next ?_
        refine WP.condF rfl ?_
        refine WP.exit ?_
        refine WP.thenE ?_
        refine WP.thenE ?_
        refine WP.hit ?_
        refine WP.next ?_
        refine WP.seq ?_
        refine WP.region [0, 1, 2, 3] rfl ?_
        refine WP.val rfl rfl rfl rfl (Yld.move rfl rfl) ?_
        refine WP.val rfl rfl rfl rfl (Yld.move rfl rfl) ?_
        refine WP.loud rfl rfl ?_
        refine Op.call (loom_Run hd (by omega) (by omega)) rfl Try.func23 rfl rfl rfl rfl (by repeat (first | exact Take.nil | with_reducible apply Take.cons | apply Take.app | exact Rm.chunk | exact Rm.here | exact Rm.nil0 | apply Rm.skip | apply Rm.skipS | (focus (apply Take.all; (repeat (first | exact Rm.chunk | exact Rm.here | exact Rm.nil0 | apply Rm.skip | apply Rm.skipS)); done)) | apply Take.cons)) ?_
        rintro v J L9 hJ ⟨rfl, rfl, L1, rfl, hd2⟩
        clear hJ; try simp only [List.cons_append, List.nil_append, List.append_assoc]
        try simp only [List.cons_append, List.nil_append, List.append_assoc]
        have hrl := run_len (mks jobs jobs.length) ⟨0, 0, 0, 0, 0, 0⟩ most
        obtain ⟨r, hT, hr0⟩ := run_turn (xs := mks jobs jobs.length) (s := ⟨0, 0, 0, 0, 0, 0⟩) (most := most) (by omega) (fun a ha => by obtain ⟨j, _, rfl⟩ := List.mem_map.1 ha; rfl)
        have hkm : (run (mks jobs jobs.length) ⟨0, 0, 0, 0, 0, 0⟩ most).2.2 ≤ 3000 := by have := run_most (mks jobs jobs.length) ⟨0, 0, 0, 0, 0, 0⟩ most; omega
        generalize hys : (run (mks jobs jobs.length) ⟨0, 0, 0, 0, 0, 0⟩ most).1 = ys at *
        generalize hks : (run (mks jobs jobs.length) ⟨0, 0, 0, 0, 0, 0⟩ most).2.2 = ks at *
        have hrb : ∀ a ∈ ys, a.steps ≤ ks := fun a ha => by rw [← hT.sum]; exact sumI_mem _ ys (fun b hb => (hT.le b hb).1) a ha
        refine WP.val rfl rfl rfl rfl (Yld.assign rfl rfl) ?_
        refine WP.nil ?_
        refine WP.sub [(0, _), (1, _), (6, _), (7, _), (8, _), (9, _), (33, _)] ?_ ⟨rfl, rfl, rfl, rfl, rfl, rfl, rfl, trivial⟩
        refine WP.next ?_
        refine WP.seq ?_
        refine WP.region [0] rfl ?_
        refine WP.val rfl rfl rfl rfl (Yld.assign rfl rfl) ?_
        refine WP.nil ?_
        refine WP.next ?_
        refine WP.seq ?_
        refine WP.region [0] rfl ?_
        refine WP.val rfl rfl rfl rfl (Yld.assign rfl rfl) ?_
        refine WP.nil ?_
        refine WP.next ?_
        refine WP.seq ?_
        refine WP.region [0] rfl ?_
        refine WP.val rfl rfl rfl rfl (Yld.assign rfl rfl) ?_
        refine WP.nil ?_
        refine WP.next ?_
        refine WP.seq ?_
        refine WP.seq ?_
        refine WP.region [0] rfl ?_
        refine WP.val rfl rfl rfl rfl (Yld.assign rfl rfl) ?_
        refine WP.nil ?_
        refine WP.next ?_
        refine WP.block ?_
        refine WP.loop (X := LT) (fun t : LT => [(0, .slice A jobs.length cap), (1, .int .i64 most), (6, .pointer (some ⟨q, 0, none⟩)), (7, .pointer (some ⟨l, 0, none⟩)), (9, .int .i64 ks), (10, .int .i64 t.all_), (11, .int .i64 t.least), (12, .int .i64 t.top), (13, .int .i64 (t.i : Int))]) (fun _ => I) (fun t : LT => L1 ++ (csCh q c (run (mks jobs jobs.length) ⟨0, 0, 0, 0, 0, 0⟩ most).2.1 ++ F)) (fun t => t.i ≤ jobs.length ∧ t.all_ = sumI (·.steps) (ys.take t.i) ∧ (min r 1073741824) ≤ t.least ∧ t.least ≤ 1073741824 ∧ 0 ≤ t.top ∧ t.top ≤ r + 1 ∧ t.top ≤ 3000) (fun t => jobs.length - t.i) ⟨0, 0, 1073741824, 0⟩ ⟨Nat.zero_le _, by simp [sumI], by simp only; omega, by decide, by decide, by simp only; omega, by decide⟩ ⟨rfl, rfl, rfl, rfl, rfl, rfl, rfl, rfl, rfl, trivial⟩ rfl (by (try dsimp only); repeat (first | exact Rm.chunk | exact Rm.here | exact Rm.nil0 | apply Rm.skip | apply Rm.skipS | apply PX.cons | (apply PX.done; (repeat (first | exact Leave.done | apply Leave.drop | apply Leave.dropS)); done) | apply PX.app)) ?_
        rintro ⟨i, al, le, tp⟩ ⟨hi0, hal, hle1, hle2, htp0, htp1, htp2⟩
        try dsimp only
        try simp only [List.cons_append, List.nil_append, List.append_assoc]
        refine WP.seq ?_
        refine WP.seq ?_
        refine WP.region [0, 1, 2, 3] rfl ?_
        refine WP.val rfl rfl rfl rfl (Yld.move rfl rfl) ?_
        refine WP.val rfl rfl rfl rfl (Yld.move rfl rfl) ?_
        refine WP.val rfl rfl rfl rfl (Yld.len rfl ty_sl_22 rfl) ?_
        refine WP.split rfl rfl rfl rfl (Yld.lss rfl rfl rfl) (fun hlt => ?_) (fun hlt => ?_)
        · simp only at hi0 hal hle1 hle2 htp0 htp1 htp2
          have hi : i < jobs.length := by first | omega | (simp only at hlt; omega)
          have hiy : i < ys.length := by omega
          have hsi := hT.le _ (List.getElem_mem hiy)
          have hsk := hrb _ (List.getElem_mem hiy)
          have hst := sumI_take_le (f := (·.steps)) (xs := ys) (fun a ha => (hT.le a ha).1) i
          rw [hT.sum] at hst
          refine WP.nil ?_
          refine WP.sub [(0, _), (1, _), (6, _), (7, _), (9, _), (10, _), (11, _), (12, _), (13, _), (62, _)] ?_ ⟨rfl, rfl, rfl, rfl, rfl, rfl, rfl, rfl, rfl, rfl, trivial⟩
          refine WP.next ?_
          refine WP.condT rfl ?_
          refine WP.skip ?_
          refine WP.next ?_
          refine WP.cut (X := Int × Int) (fun t : Int × Int => [(0, .slice A jobs.length cap), (1, .int .i64 most), (6, .pointer (some ⟨q, 0, none⟩)), (7, .pointer (some ⟨l, 0, none⟩)), (9, .int .i64 ks), (10, .int .i64 (al + ys[i].steps)), (11, .int .i64 t.1), (12, .int .i64 t.2), (13, .int .i64 (i : Int))]) (fun _ => I) (fun _ => L1 ++ (csCh q c (run (mks jobs jobs.length) ⟨0, 0, 0, 0, 0, 0⟩ most).2.1 ++ F)) (fun t : Int × Int => (min r 1073741824) ≤ t.1 ∧ t.1 ≤ 1073741824 ∧ 0 ≤ t.2 ∧ t.2 ≤ r + 1 ∧ t.2 ≤ 3000) ?_ ?_
          · skip
            refine WP.block ?_
            refine WP.seq ?_
            refine WP.region [0, 1, 2, 3] rfl ?_
            refine WP.val rfl rfl rfl rfl (Yld.move rfl rfl) ?_
            refine WP.val rfl rfl rfl rfl (Yld.move rfl rfl) ?_
            refine WP.loud rfl rfl ?_
            refine Op.call (loom_Steps hd2 (k := (i : Int))) rfl Try.func25 rfl rfl rfl rfl (by repeat (first | exact Take.nil | with_reducible apply Take.cons | apply Take.app | exact Rm.chunk | exact Rm.here | exact Rm.nil0 | apply Rm.skip | apply Rm.skipS | (focus (apply Take.all; (repeat (first | exact Rm.chunk | exact Rm.here | exact Rm.nil0 | apply Rm.skip | apply Rm.skipS)); done)) | apply Take.cons)) ?_
            rintro v J L1 hJ ⟨rfl, rfl, rfl⟩
            clear hJ; try simp only [List.cons_append, List.nil_append, List.append_assoc]
            rw [stepsAt_lt hiy]
            try simp only [List.cons_append, List.nil_append, List.append_assoc]
            refine WP.val rfl rfl rfl rfl (Yld.assign rfl rfl) ?_
            refine WP.nil ?_
            refine WP.sub [(0, _), (1, _), (6, _), (7, _), (9, _), (10, _), (11, _), (12, _), (13, _), (14, _), (62, _)] ?_ ⟨rfl, rfl, rfl, rfl, rfl, rfl, rfl, rfl, rfl, rfl, rfl, trivial⟩
            refine WP.next ?_
            refine WP.seq ?_
            refine WP.region [0, 1, 2, 3] rfl ?_
            refine WP.val rfl rfl rfl rfl (Yld.move rfl rfl) ?_
            refine WP.val rfl rfl rfl rfl (Yld.move rfl rfl) ?_
            refine WP.val rfl rfl rfl rfl (Yld.add64 rfl rfl rfl (by omega)) ?_
            refine WP.val rfl rfl rfl rfl (Yld.assign rfl rfl) ?_
            refine WP.nil ?_
            refine WP.sub [(0, _), (1, _), (6, _), (7, _), (9, _), (10, _), (11, _), (12, _), (13, _), (14, _), (62, _)] ?_ ⟨rfl, rfl, rfl, rfl, rfl, rfl, rfl, rfl, rfl, rfl, rfl, trivial⟩
            refine WP.next ?_
            refine WP.cut (X := Int) (fun le2 => [(0, .slice A jobs.length cap), (1, .int .i64 most), (6, .pointer (some ⟨q, 0, none⟩)), (7, .pointer (some ⟨l, 0, none⟩)), (9, .int .i64 ks), (10, .int .i64 (al + ys[i].steps)), (11, .int .i64 le2), (12, .int .i64 tp), (13, .int .i64 (i : Int)), (14, .int .i64 ys[i].steps)]) (fun _ => I) (fun _ => L1 ++ (csCh q c (run (mks jobs jobs.length) ⟨0, 0, 0, 0, 0, 0⟩ most).2.1 ++ F)) (fun le2 => (min r 1073741824) ≤ le2 ∧ le2 ≤ 1073741824) ?_ ?_
            · skip
              refine WP.seq ?_
              refine WP.region [0, 1, 2, 3, 4, 5, 6, 7, 8] rfl ?_
              refine WP.val rfl rfl rfl rfl (Yld.move rfl rfl) ?_
              refine WP.val rfl rfl rfl rfl (Yld.move rfl rfl) ?_
              refine WP.loud rfl rfl ?_
              refine Op.call (loom_Done hd2 (k := (i : Int))) rfl Try.func26 rfl rfl rfl rfl (by repeat (first | exact Take.nil | with_reducible apply Take.cons | apply Take.app | exact Rm.chunk | exact Rm.here | exact Rm.nil0 | apply Rm.skip | apply Rm.skipS | (focus (apply Take.all; (repeat (first | exact Rm.chunk | exact Rm.here | exact Rm.nil0 | apply Rm.skip | apply Rm.skipS)); done)) | apply Take.cons)) ?_
              rintro v J L1 hJ ⟨rfl, rfl, rfl⟩
              clear hJ; try simp only [List.cons_append, List.nil_append, List.append_assoc]
              rw [doneAt_lt hiy]
              try simp only [List.cons_append, List.nil_append, List.append_assoc]
              by_cases hdn : ys[i].done = true
              · rw [hdn]
                refine WP.val rfl rfl rfl rfl (Yld.not rfl rfl) ?_
                refine WP.val rfl rfl rfl rfl (Yld.move rfl rfl) ?_
                refine WP.passG rfl rfl rfl rfl rfl rfl rfl rfl ?_
                refine WP.passG rfl rfl rfl rfl rfl rfl rfl rfl ?_
                refine WP.passG rfl rfl rfl rfl rfl rfl rfl rfl ?_
                refine WP.val rfl rfl rfl rfl (Yld.pickF rfl rfl rfl) ?_
                refine WP.nil ?_
                refine WP.sub [(0, _), (1, _), (6, _), (7, _), (9, _), (10, _), (11, _), (12, _), (13, _), (14, _), (62, _), (79, _)] ?_ ⟨rfl, rfl, rfl, rfl, rfl, rfl, rfl, rfl, rfl, rfl, rfl, rfl, trivial⟩
                refine WP.next ?_
                refine WP.condF rfl ?_
                refine WP.skip ?_
                exact WP.meet le (by omega) ⟨rfl, rfl, rfl, rfl, rfl, rfl, rfl, rfl, rfl, rfl, trivial⟩ rfl (by (try dsimp only); repeat (first | exact Rm.chunk | exact Rm.here | exact Rm.nil0 | apply Rm.skip | apply Rm.skipS | apply PX.cons | (apply PX.done; (repeat (first | exact Leave.done | apply Leave.drop | apply Leave.dropS)); done) | apply PX.app))
              · have hdn : ys[i].done = false := by simpa using hdn
                rw [hdn]
                refine WP.val rfl rfl rfl rfl (Yld.not rfl rfl) ?_
                refine WP.val rfl rfl rfl rfl (Yld.move rfl rfl) ?_
                refine WP.valG rfl rfl rfl rfl rfl rfl rfl (Yld.move rfl rfl) ?_
                refine WP.valG rfl rfl rfl rfl rfl rfl rfl (Yld.move rfl rfl) ?_
                refine WP.splitG rfl rfl rfl rfl rfl rfl rfl (Yld.lss rfl rfl rfl) (fun hl19 => ?_) (fun hl19 => ?_)
                · refine WP.val rfl rfl rfl rfl (Yld.pickT rfl rfl rfl) ?_
                  refine WP.nil ?_
                  refine WP.sub [(0, _), (1, _), (6, _), (7, _), (9, _), (10, _), (11, _), (12, _), (13, _), (14, _), (62, _), (79, _)] ?_ ⟨rfl, rfl, rfl, rfl, rfl, rfl, rfl, rfl, rfl, rfl, rfl, rfl, trivial⟩
                  refine WP.next ?_
                  refine WP.condT rfl ?_
                  refine WP.region [0, 1] rfl ?_
                  refine WP.val rfl rfl rfl rfl (Yld.move rfl rfl) ?_
                  refine WP.val rfl rfl rfl rfl (Yld.assign rfl rfl) ?_
                  refine WP.nil ?_
                  refine WP.sub [(0, _), (1, _), (6, _), (7, _), (9, _), (10, _), (11, _), (12, _), (13, _), (14, _), (62, _), (79, _)] ?_ ⟨rfl, rfl, rfl, rfl, rfl, rfl, rfl, rfl, rfl, rfl, rfl, rfl, trivial⟩
                  exact WP.meet ys[i].steps (by have := hT.ge _ (List.getElem_mem hiy) hdn; omega) ⟨rfl, rfl, rfl, rfl, rfl, rfl, rfl, rfl, rfl, rfl, trivial⟩ rfl (by (try dsimp only); repeat (first | exact Rm.chunk | exact Rm.here | exact Rm.nil0 | apply Rm.skip | apply Rm.skipS | apply PX.cons | (apply PX.done; (repeat (first | exact Leave.done | apply Leave.drop | apply Leave.dropS)); done) | apply PX.app))
                · refine WP.val rfl rfl rfl rfl (Yld.pickT rfl rfl rfl) ?_
                  refine WP.nil ?_
                  refine WP.sub [(0, _), (1, _), (6, _), (7, _), (9, _), (10, _), (11, _), (12, _), (13, _), (14, _), (62, _), (79, _)] ?_ ⟨rfl, rfl, rfl, rfl, rfl, rfl, rfl, rfl, rfl, rfl, rfl, rfl, trivial⟩
                  refine WP.next ?_
                  refine WP.condF rfl ?_
                  refine WP.skip ?_
                  exact WP.meet le (by omega) ⟨rfl, rfl, rfl, rfl, rfl, rfl, rfl, rfl, rfl, rfl, trivial⟩ rfl (by (try dsimp only); repeat (first | exact Rm.chunk | exact Rm.here | exact Rm.nil0 | apply Rm.skip | apply Rm.skipS | apply PX.cons | (apply PX.done; (repeat (first | exact Leave.done | apply Leave.drop | apply Leave.dropS)); done) | apply PX.app))
            · rintro le2 ⟨hle2a, hle2b⟩
              refine WP.seq ?_
              refine WP.region [0, 1, 2] rfl ?_
              refine WP.val rfl rfl rfl rfl (Yld.move rfl rfl) ?_
              refine WP.val rfl rfl rfl rfl (Yld.move rfl rfl) ?_
              refine WP.split rfl rfl rfl rfl (Yld.gtr rfl rfl rfl) (fun hl21 => ?_) (fun hl21 => ?_)
              · refine WP.nil ?_
                refine WP.sub [(0, _), (1, _), (6, _), (7, _), (9, _), (10, _), (11, _), (12, _), (13, _), (14, _), (83, _)] ?_ ⟨rfl, rfl, rfl, rfl, rfl, rfl, rfl, rfl, rfl, rfl, rfl, trivial⟩
                refine WP.next ?_
                refine WP.condT rfl ?_
                refine WP.region [0, 1] rfl ?_
                refine WP.val rfl rfl rfl rfl (Yld.move rfl rfl) ?_
                refine WP.val rfl rfl rfl rfl (Yld.assign rfl rfl) ?_
                refine WP.nil ?_
                refine WP.sub [(0, _), (1, _), (6, _), (7, _), (9, _), (10, _), (11, _), (12, _), (13, _), (14, _), (83, _)] ?_ ⟨rfl, rfl, rfl, rfl, rfl, rfl, rfl, rfl, rfl, rfl, rfl, trivial⟩
                refine WP.leave ?_
                exact WP.meet (le2, ys[i].steps) (by simp only; omega) ⟨rfl, rfl, rfl, rfl, rfl, rfl, rfl, rfl, rfl, trivial⟩ rfl (by (try dsimp only); repeat (first | exact Rm.chunk | exact Rm.here | exact Rm.nil0 | apply Rm.skip | apply Rm.skipS | apply PX.cons | (apply PX.done; (repeat (first | exact Leave.done | apply Leave.drop | apply Leave.dropS)); done) | apply PX.app))
              · refine WP.nil ?_
                refine WP.sub [(0, _), (1, _), (6, _), (7, _), (9, _), (10, _), (11, _), (12, _), (13, _), (14, _), (83, _)] ?_ ⟨rfl, rfl, rfl, rfl, rfl, rfl, rfl, rfl, rfl, rfl, rfl, trivial⟩
                refine WP.next ?_
                refine WP.condF rfl ?_
                refine WP.skip ?_
                refine WP.leave ?_
                exact WP.meet (le2, tp) (by simp only; omega) ⟨rfl, rfl, rfl, rfl, rfl, rfl, rfl, rfl, rfl, trivial⟩ rfl (by (try dsimp only); repeat (first | exact Rm.chunk | exact Rm.here | exact Rm.nil0 | apply Rm.skip | apply Rm.skipS | apply PX.cons | (apply PX.done; (repeat (first | exact Leave.done | apply Leave.drop | apply Leave.dropS)); done) | apply PX.app))
          · rintro ⟨le2, tp2⟩ ⟨hle2a, hle2b, htpa, htpb, htpc⟩
            refine WP.region [0, 1, 2] rfl ?_
            refine WP.val rfl rfl rfl rfl (Yld.move rfl rfl) ?_
            refine WP.val rfl rfl rfl rfl (Yld.add64 rfl rfl rfl (by omega)) ?_
            refine WP.val rfl rfl rfl rfl (Yld.assign rfl rfl) ?_
            refine WP.nil ?_
            refine WP.sub [(0, _), (1, _), (6, _), (7, _), (9, _), (10, _), (11, _), (12, _), (13, _)] ?_ ⟨rfl, rfl, rfl, rfl, rfl, rfl, rfl, rfl, rfl, trivial⟩
            exact WP.again ⟨i + 1, al + ys[i].steps, le2, tp2⟩ ⟨hi, by simp only; rw [sumI_take hiy, hal], hle2a, hle2b, htpa, htpb, htpc⟩ (by simp only; omega) ⟨rfl, rfl, rfl, rfl, rfl, rfl, rfl, rfl, rfl, trivial⟩ rfl (by (try dsimp only); repeat (first | exact Rm.chunk | exact Rm.here | exact Rm.nil0 | apply Rm.skip | apply Rm.skipS | apply PX.cons | (apply PX.done; (repeat (first | exact Leave.done | apply Leave.drop | apply Leave.dropS)); done) | apply PX.app))
        · simp only at hi0 hal hle1 hle2 htp0 htp1 htp2
          obtain rfl : i = jobs.length := by first | omega | (simp only at hlt; omega)
          have hal2 : al = ks := by rw [hal, ← hT.sum, List.take_of_length_le (by omega)]
          refine WP.nil ?_
          refine WP.sub [(0, _), (1, _), (6, _), (7, _), (9, _), (10, _), (11, _), (12, _), (13, _), (62, _)] ?_ ⟨rfl, rfl, rfl, rfl, rfl, rfl, rfl, rfl, rfl, rfl, trivial⟩
          refine WP.next ?_
          refine WP.condF rfl ?_
          refine WP.exit ?_
          refine WP.thenE ?_
          refine WP.thenE ?_
          refine WP.hit ?_
          refine WP.next ?_
          refine WP.seq ?_
          refine WP.region [0, 1, 2, 3, 4, 5, 6, 7, 8, 9, 10, 11, 12, 13, 14, 15] rfl ?_
          refine WP.val rfl rfl rfl rfl (Yld.move rfl rfl) ?_
          refine WP.val rfl rfl rfl rfl (Yld.move rfl rfl) ?_
          refine WP.val rfl rfl rfl rfl (Yld.eql rfl rfl rfl true (decide_eq_true (by exact hal2.symm))) ?_
          refine WP.val rfl rfl rfl rfl (Yld.move rfl rfl) ?_
          refine WP.valG rfl rfl rfl rfl rfl rfl rfl (Yld.move rfl rfl) ?_
          refine WP.loudG rfl rfl rfl rfl rfl ?_
          refine Op.call (loom_Live hd2 (by omega)) rfl Try.func17 rfl rfl rfl rfl (by repeat (first | exact Take.nil | with_reducible apply Take.cons | apply Take.app | exact Rm.chunk | exact Rm.here | exact Rm.nil0 | apply Rm.skip | apply Rm.skipS | (focus (apply Take.all; (repeat (first | exact Rm.chunk | exact Rm.here | exact Rm.nil0 | apply Rm.skip | apply Rm.skipS)); done)) | apply Take.cons)) ?_
          rintro v J L9 hJ ⟨rfl, Lo, rfl, how⟩
          clear hJ; try simp only [List.cons_append, List.nil_append, List.append_assoc]
          try simp only [List.cons_append, List.nil_append, List.append_assoc]
          refine WP.valG rfl rfl rfl rfl rfl rfl rfl (Yld.lenR (how.rd (I := I) (fun p hp => hp)) rfl ty_sl_23 rfl) ?_
          refine WP.splitG rfl rfl rfl rfl rfl rfl rfl (Yld.eql rfl rfl rfl) (fun hz => ?_) (fun hz => ?_)
          · refine WP.valG rfl rfl rfl rfl rfl rfl rfl (Yld.move rfl rfl) ?_
            refine WP.passG rfl rfl rfl rfl rfl rfl rfl rfl ?_
            refine WP.passG rfl rfl rfl rfl rfl rfl rfl rfl ?_
            refine WP.passG rfl rfl rfl rfl rfl rfl rfl rfl ?_
            refine WP.passG rfl rfl rfl rfl rfl rfl rfl rfl ?_
            refine WP.valG rfl rfl rfl rfl rfl rfl rfl (Yld.pickT rfl rfl rfl) ?_
            refine WP.val rfl rfl rfl rfl (Yld.pickT rfl rfl rfl) ?_
            refine WP.val rfl rfl rfl rfl (Yld.assign rfl rfl) ?_
            refine WP.nil ?_
            refine WP.sub [(0, _), (1, _), (4, _), (6, _), (7, _), (9, _), (10, _), (11, _), (12, _), (13, _), (62, _)] ?_ ⟨rfl, rfl, rfl, rfl, rfl, rfl, rfl, rfl, rfl, rfl, rfl, trivial⟩
            refine WP.next ?_
            refine WP.ret ?_
            refine WP.fin .ret (.inr rfl) (res1 rfl rfl) [] (by repeat (first | exact Take.nil | with_reducible apply Take.cons | apply Take.app | exact Rm.chunk | exact Rm.here | exact Rm.nil0 | apply Rm.skip | apply Rm.skipS | (focus (apply Take.all; (repeat (first | exact Rm.chunk | exact Rm.here | exact Rm.nil0 | apply Rm.skip | apply Rm.skipS)); done)) | apply Take.cons)) (by repeat (first | exact Leave.done | apply Leave.drop | apply Leave.dropS)) (Imm.le_refl _) ?_
            exact ⟨rfl, rfl, rfl⟩
          · refine WP.valG rfl rfl rfl rfl rfl rfl rfl (Yld.move rfl rfl) ?_
            refine WP.valG rfl rfl rfl rfl rfl rfl rfl (Yld.move rfl rfl) ?_
            refine WP.valG rfl rfl rfl rfl rfl rfl rfl (Yld.move rfl rfl) ?_
            refine WP.valG rfl rfl rfl rfl rfl rfl rfl (Yld.add64 rfl rfl rfl (by omega)) ?_
            refine WP.valG rfl rfl rfl rfl rfl rfl rfl (Yld.leq rfl rfl rfl true (decide_eq_true (by omega))) ?_
            refine WP.valG rfl rfl rfl rfl rfl rfl rfl (Yld.pickF rfl rfl rfl) ?_
            refine WP.val rfl rfl rfl rfl (Yld.pickT rfl rfl rfl) ?_
            refine WP.val rfl rfl rfl rfl (Yld.assign rfl rfl) ?_
            refine WP.nil ?_
            refine WP.sub [(0, _), (1, _), (4, _), (6, _), (7, _), (9, _), (10, _), (11, _), (12, _), (13, _), (62, _)] ?_ ⟨rfl, rfl, rfl, rfl, rfl, rfl, rfl, rfl, rfl, rfl, rfl, trivial⟩
            refine WP.next ?_
            refine WP.ret ?_
            refine WP.fin .ret (.inr rfl) (res1 rfl rfl) [] (by repeat (first | exact Take.nil | with_reducible apply Take.cons | apply Take.app | exact Rm.chunk | exact Rm.here | exact Rm.nil0 | apply Rm.skip | apply Rm.skipS | (focus (apply Take.all; (repeat (first | exact Rm.chunk | exact Rm.here | exact Rm.nil0 | apply Rm.skip | apply Rm.skipS)); done)) | apply Take.cons)) (by repeat (first | exact Leave.done | apply Leave.drop | apply Leave.dropS)) (Imm.le_refl _) ?_
            exact ⟨rfl, rfl, rfl⟩


end Go.Hp
