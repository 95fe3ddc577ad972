import Derived.Test.YtdobkjbpehdokaaLoomS
set_option linter.unusedVariables false
set_option linter.unusedSimpArgs false
namespace Go.Hp
open Go Go.Proofs

structure LK where
  i : Nat
  sum : Int
  Ll : Chunks
structure LM where
  i : Nat
  xs : List Ad
  s : CS
  Ll : Chunks
theorem rem_mkS (j : Job) : rem (mkS j) = max (tm j.times) 0 := by
  show (if tm j.times < 1 then 0 else tm j.times) = _
  split <;> omega
theorem mul_next (k b : Int) : (k + 1) * b = k * b + b := by rw [Int.add_mul, Int.one_mul]
theorem loom_LoomKeeps {I : Imm} {first : Int} (hfr : -9223372036854775808 ≤ first ∧ first ≤ 9223372036854775807) {jobs : List Job} {vj : Value} (hj : Slc I 3 RJob vj jobs) {picks : List Int} {vp : Value} (hp : SlRd (fun b o => I.blk b = some o) vp picks.length 1 (picks.map (Value.int .i64))) (hpn : picks.length ≤ 1152921504606846976) : Spec Try.prog 7 [.int .i64 first, vj, vp] I [] (fun v J L => v = .bool true ∧ I = J ∧ L = []) := by
  obtain ⟨A, cap, rfl, hcap, hjobs⟩ := hj
  refine Spec.of Try.func7 rfl Try.ntmps7 (Nat.le_of_ble_eq_true rfl) (fun F => ?_)
  try simp only [List.cons_append, List.nil_append, List.append_assoc]
  dsimp only [argsEnv]
  refine WP.seq ?_
  refine WP.region [0] rfl ?_
  refine WP.val rfl rfl rfl rfl (Yld.assign rfl rfl) ?_
  refine WP.nil ?_
  refine WP.next ?_
  refine WP.seq ?_
  refine WP.region [0, 1] rfl ?_
  refine WP.loud rfl rfl ?_
  refine Op.call (loom_awake _) rfl Try.func11 rfl rfl rfl rfl (by repeat (first | exact Take.nil | with_reducible apply Take.cons | apply Take.app | exact Rm.chunk | exact Rm.here | exact Rm.nil0 | apply Rm.skip | apply Rm.skipS | (focus (apply Take.all; (repeat (first | exact Rm.chunk | exact Rm.here | exact Rm.nil0 | apply Rm.skip | apply Rm.skipS)); done)) | apply Take.cons)) ?_
  rintro v J L1 hJ ⟨rfl, rfl, rfl⟩
  clear hJ; try simp only [List.cons_append, List.nil_append, List.append_assoc]
  refine WP.val rfl rfl rfl rfl (Yld.assign rfl rfl) ?_
  refine WP.nil ?_
  refine WP.sub [(0, _), (1, _), (2, _), (6, _), (7, _)] ?_ ⟨rfl, rfl, rfl, rfl, rfl, trivial⟩
  refine WP.next ?_
  refine WP.seq ?_
  refine WP.seq ?_
  refine WP.region [0, 1, 2, 3, 4, 5, 6] rfl ?_
  refine WP.val rfl rfl rfl rfl (Yld.move rfl rfl) ?_
  refine WP.val rfl rfl rfl rfl (Yld.not rfl rfl) ?_
  refine WP.val rfl rfl rfl rfl (Yld.move rfl rfl) ?_
  refine WP.valG rfl rfl rfl rfl rfl rfl rfl (Yld.move rfl rfl) ?_
  refine WP.valG rfl rfl rfl rfl rfl rfl rfl (Yld.len rfl ty_sl_22 rfl) ?_
  refine WP.splitG rfl rfl rfl rfl rfl rfl rfl (Yld.gtr rfl rfl rfl) (fun h30 => ?_) (fun h30 => ?_)
  · refine WP.val rfl rfl rfl rfl (Yld.pickF rfl rfl rfl) ?_
    refine WP.nil ?_
    refine WP.sub [(0, _), (1, _), (2, _), (6, _), (7, _), (26, _)] ?_ ⟨rfl, rfl, rfl, rfl, rfl, rfl, trivial⟩
    refine WP.next ?_
    refine WP.condT rfl ?_
    refine WP.seq ?_
    refine WP.region [0, 1] rfl ?_
    refine WP.val rfl rfl rfl rfl (Yld.move rfl rfl) ?_
    refine WP.val rfl rfl rfl rfl (Yld.assign rfl rfl) ?_
    refine WP.nil ?_
    refine WP.sub [(0, _), (1, _), (2, _), (6, _), (7, _), (26, _)] ?_ ⟨rfl, rfl, rfl, rfl, rfl, rfl, trivial⟩
    refine WP.next ?_
    refine WP.ret ?_
    refine WP.fin .ret (.inr rfl) (res1 rfl rfl) [] (by repeat (first | exact Take.nil | with_reducible apply Take.cons | apply Take.app | exact Rm.chunk | exact Rm.here | exact Rm.nil0 | apply Rm.skip | apply Rm.skipS | (focus (apply Take.all; (repeat (first | exact Rm.chunk | exact Rm.here | exact Rm.nil0 | apply Rm.skip | apply Rm.skipS)); done)) | apply Take.cons)) (by repeat (first | exact Leave.done | apply Leave.drop | apply Leave.dropS)) (Imm.le_refl _) ?_
    exact ⟨rfl, rfl, rfl⟩
  · refine WP.val rfl rfl rfl rfl (Yld.pickF rfl rfl rfl) ?_
    refine WP.nil ?_
    refine WP.sub [(0, _), (1, _), (2, _), (6, _), (7, _), (26, _)] ?_ ⟨rfl, rfl, rfl, rfl, rfl, rfl, trivial⟩
    refine WP.next ?_
    refine WP.condF rfl ?_
    refine WP.skip ?_
    refine WP.next ?_
    refine WP.seq ?_
    refine WP.region [0, 1] rfl ?_
    refine WP.loud rfl rfl ?_
    refine Op.call (cell_NewCount _) rfl Try.func12 rfl rfl rfl rfl (by repeat (first | exact Take.nil | with_reducible apply Take.cons | apply Take.app | exact Rm.chunk | exact Rm.here | exact Rm.nil0 | apply Rm.skip | apply Rm.skipS | (focus (apply Take.all; (repeat (first | exact Rm.chunk | exact Rm.here | exact Rm.nil0 | apply Rm.skip | apply Rm.skipS)); done)) | apply Take.cons)) ?_
    rintro v J L1 hJ ⟨c, rfl, rfl, rfl⟩
    clear hJ; try simp only [List.cons_append, List.nil_append, List.append_assoc]
    refine WP.val rfl rfl rfl rfl (Yld.assign rfl rfl) ?_
    refine WP.nil ?_
    refine WP.sub [(0, _), (1, _), (2, _), (6, _), (7, _), (8, _), (26, _)] ?_ ⟨rfl, rfl, rfl, rfl, rfl, rfl, rfl, trivial⟩
    refine WP.next ?_
    refine WP.seq ?_
    refine WP.region [0, 1, 2, 3] rfl ?_
    refine WP.val rfl rfl rfl rfl (Yld.move rfl rfl) ?_
    refine WP.val rfl rfl rfl rfl (Yld.move rfl rfl) ?_
    refine WP.loud rfl rfl ?_
    refine Op.call cs_New rfl Try.func13 rfl rfl rfl rfl (by repeat (first | exact Take.nil | with_reducible apply Take.cons | apply Take.app | exact Rm.chunk | exact Rm.here | exact Rm.nil0 | apply Rm.skip | apply Rm.skipS | (focus (apply Take.all; (repeat (first | exact Rm.chunk | exact Rm.here | exact Rm.nil0 | apply Rm.skip | apply Rm.skipS)); done)) | apply Take.cons)) ?_
    rintro v J L1 hJ ⟨q, rfl, rfl, rfl⟩
    clear hJ; try simp only [List.cons_append, List.nil_append, List.append_assoc]
    refine WP.val rfl rfl rfl rfl (Yld.assign rfl rfl) ?_
    refine WP.nil ?_
    refine WP.sub [(0, _), (1, _), (2, _), (6, _), (7, _), (8, _), (9, _), (26, _)] ?_ ⟨rfl, rfl, rfl, rfl, rfl, rfl, rfl, rfl, trivial⟩
    refine WP.next ?_
    refine WP.seq ?_
    refine WP.region [0, 1] rfl ?_
    refine WP.loud rfl rfl ?_
    refine Op.call (loom_New I q) rfl Try.func14 rfl rfl rfl rfl (by repeat (first | exact Take.nil | with_reducible apply Take.cons | apply Take.app | exact Rm.chunk | exact Rm.here | exact Rm.nil0 | apply Rm.skip | apply Rm.skipS | (focus (apply Take.all; (repeat (first | exact Rm.chunk | exact Rm.here | exact Rm.nil0 | apply Rm.skip | apply Rm.skipS)); done)) | apply Take.cons)) ?_
    rintro v J Ll hJ ⟨l, rfl, rfl, hd⟩
    clear hJ; try simp only [List.cons_append, List.nil_append, List.append_assoc]
    refine WP.val rfl rfl rfl rfl (Yld.assign rfl rfl) ?_
    refine WP.nil ?_
    refine WP.sub [(0, _), (1, _), (2, _), (6, _), (7, _), (8, _), (9, _), (10, _), (26, _)] ?_ ⟨rfl, rfl, rfl, rfl, rfl, rfl, rfl, rfl, rfl, trivial⟩
    refine WP.next ?_
    refine WP.seq ?_
    refine WP.region [0, 1] rfl ?_
    refine WP.val rfl rfl rfl rfl (Yld.move rfl rfl) ?_
    refine WP.val rfl rfl rfl rfl (Yld.assign rfl rfl) ?_
    refine WP.nil ?_
    refine WP.sub [(0, _), (1, _), (2, _), (6, _), (7, _), (8, _), (9, _), (10, _), (11, _), (26, _)] ?_ ⟨rfl, rfl, rfl, rfl, rfl, rfl, rfl, rfl, rfl, rfl, trivial⟩
    refine WP.next ?_
    refine WP.seq ?_
    refine WP.region [0] rfl ?_
    refine WP.val rfl rfl rfl rfl (Yld.assign rfl rfl) ?_
    refine WP.nil ?_
    refine WP.next ?_
    refine WP.seq ?_
    refine WP.seq ?_
    refine WP.region [0] rfl ?_
    refine WP.val rfl rfl rfl rfl (Yld.assign rfl rfl) ?_
    refine WP.nil ?_
    refine WP.next ?_
    refine WP.block ?_
    refine WP.loop (X := LK) (fun t : LK => [(0, .int .i64 first), (1, .slice A jobs.length cap), (2, vp), (8, .pointer (some ⟨c, 0, none⟩)), (9, .pointer (some ⟨q, 0, none⟩)), (10, .pointer (some ⟨l, 0, none⟩)), (11, .int .i64 t.sum), (12, .int .i64 (sumI rem (mkSs jobs t.i))), (13, .int .i64 (t.i : Int))]) (fun _ => I) (fun t : LK => t.Ll ++ (csCh q c ⟨first, 0, 0, 0, 0, 0⟩ ++ F)) (fun t => t.i ≤ jobs.length ∧ IsLoom l q (mkSs jobs t.i) t.Ll ∧ Cong t.sum (first + sumI remBy (mkSs jobs t.i)) ∧ (-9223372036854775808 ≤ t.sum ∧ t.sum ≤ 9223372036854775807)) (fun t => jobs.length - t.i) ⟨0, first, Ll⟩ ⟨Nat.zero_le _, hd, ⟨0, by simp [mkSs, sumI]⟩, hfr⟩ ⟨rfl, rfl, rfl, rfl, rfl, rfl, rfl, rfl, rfl, trivial⟩ rfl (by (try dsimp only); repeat (first | exact Rm.chunk | exact Rm.here | exact Rm.nil0 | apply Rm.skip | apply Rm.skipS | apply PX.cons | (apply PX.done; (repeat (first | exact Leave.done | apply Leave.drop | apply Leave.dropS)); done) | apply PX.app)) ?_
    rintro ⟨i, sm, Ll⟩ ⟨hle, hd, hcg, hsr⟩
    try dsimp only
    try simp only [List.cons_append, List.nil_append, List.append_assoc]
    refine WP.seq ?_
    refine WP.seq ?_
    refine WP.region [0, 1, 2, 3] rfl ?_
    refine WP.val rfl rfl rfl rfl (Yld.move rfl rfl) ?_
    refine WP.val rfl rfl rfl rfl (Yld.move rfl rfl) ?_
    refine WP.val rfl rfl rfl rfl (Yld.len rfl ty_sl_22 rfl) ?_
    refine WP.split rfl rfl rfl rfl (Yld.lss rfl rfl rfl) (fun hlt => ?_) (fun hlt => ?_)
    · simp only at hle hd hcg hsr
      have hi : i < jobs.length := by first | omega | (simp only at hlt; omega)
      obtain ⟨b, kk, arr, T, fr, rfl, hb, hel⟩ := hjobs.resolve_left (by rintro rfl; simp at hi)
      obtain ⟨_, hR⟩ := hel i _ (List.getElem?_eq_getElem hi)
      unfold RJob at hR
      have e0 := take_cells hR 0 _ rfl (by decide)
      have e1 := take_cells hR 1 _ rfl (by decide)
      have e2 := take_cells hR 2 _ rfl (by decide)
      rw [Array.getElem?_toList] at e0 e1 e2
      have htm := tm_le jobs[i].times
      have hrm := rem_mkS jobs[i]
      have hsk : sumI rem (mkSs jobs (i + 1)) = sumI rem (mkSs jobs i) + rem (mkS jobs[i]) := by rw [mkSs_succ hi, sumI_app]
      have hsb : sumI remBy (mkSs jobs (i + 1)) = sumI remBy (mkSs jobs i) + rem (mkS jobs[i]) * jobs[i].by_ := by rw [mkSs_succ hi, sumI_app]; rfl
      have hsk2 := mkSs_rem jobs i (by omega)
      have hsk3 := sumI_nonneg rem (mkSs jobs i) (fun a _ => rem_nonneg a)
      refine WP.nil ?_
      refine WP.sub [(0, _), (1, _), (2, _), (8, _), (9, _), (10, _), (11, _), (12, _), (13, _), (37, _)] ?_ ⟨rfl, rfl, rfl, rfl, rfl, rfl, rfl, rfl, rfl, rfl, trivial⟩
      refine WP.next ?_
      refine WP.condT rfl ?_
      refine WP.skip ?_
      refine WP.next ?_
      refine WP.seq ?_
      refine WP.block ?_
      refine WP.seq ?_
      refine WP.region [0, 1, 2, 3, 4, 5, 6] rfl ?_
      refine WP.val rfl rfl rfl rfl (Yld.move rfl rfl) ?_
      refine WP.val rfl rfl rfl rfl (Yld.move rfl rfl) ?_
      refine WP.val rfl rfl rfl rfl (Yld.indexAddr (i := i) rfl ty_sl_22 rfl rfl hi) ?_
      refine WP.val rfl rfl rfl rfl (Yld.fieldAddr rfl ty_fd_36_0 rfl) ?_
      refine WP.val rfl rfl rfl rfl (Yld.loadC rfl ty_sc_3 rfl (There.i hb) e0) ?_
      refine WP.val rfl rfl rfl rfl (Yld.remT rfl rfl rfl (by decide)) ?_
      refine WP.val rfl rfl rfl rfl (Yld.assign rfl rfl) ?_
      refine WP.nil ?_
      refine WP.sub [(0, _), (1, _), (2, _), (8, _), (9, _), (10, _), (11, _), (12, _), (13, _), (14, _), (37, _)] ?_ ⟨rfl, rfl, rfl, rfl, rfl, rfl, rfl, rfl, rfl, rfl, rfl, trivial⟩
      refine WP.next ?_
      refine WP.seq ?_
      refine WP.region [0, 1, 2, 3, 4, 5, 6, 7, 8, 9] rfl ?_
      refine WP.val rfl rfl rfl rfl (Yld.move rfl rfl) ?_
      refine WP.val rfl rfl rfl rfl (Yld.move rfl rfl) ?_
      refine WP.val rfl rfl rfl rfl (Yld.move rfl rfl) ?_
      refine WP.val rfl rfl rfl rfl (Yld.move rfl rfl) ?_
      refine WP.val rfl rfl rfl rfl (Yld.move rfl rfl) ?_
      refine WP.val rfl rfl rfl rfl (Yld.indexAddr (i := i) rfl ty_sl_22 rfl rfl hi) ?_
      refine WP.val rfl rfl rfl rfl (Yld.fieldAddr rfl ty_fd_36_1 rfl) ?_
      refine WP.val rfl rfl rfl rfl (Yld.loadC rfl ty_sc_3 rfl (There.i hb) e1) ?_
      refine WP.loud rfl rfl ?_
      refine Op.call loom_NewAdder rfl Try.func16 rfl rfl rfl rfl (by repeat (first | exact Take.nil | with_reducible apply Take.cons | apply Take.app | exact Rm.chunk | exact Rm.here | exact Rm.nil0 | apply Rm.skip | apply Rm.skipS | (focus (apply Take.all; (repeat (first | exact Rm.chunk | exact Rm.here | exact Rm.nil0 | apply Rm.skip | apply Rm.skipS)); done)) | apply Take.cons)) ?_
      rintro v J L1 hJ ⟨mb, rfl, rfl, rfl⟩
      clear hJ; try simp only [List.cons_append, List.nil_append, List.append_assoc]
      refine WP.loud rfl rfl ?_
      refine Op.call (loom_Add hd (by rw [mkSs_len _ _ (by omega)]; omega) (a := mkS jobs[i]) (by show tm _ ≤ _; omega)) rfl Try.func15 rfl rfl rfl rfl (by repeat (first | exact Take.nil | with_reducible apply Take.cons | apply Take.app | exact Rm.chunk | exact Rm.here | exact Rm.nil0 | apply Rm.skip | apply Rm.skipS | (focus (apply Take.all; (repeat (first | exact Rm.chunk | exact Rm.here | exact Rm.nil0 | apply Rm.skip | apply Rm.skipS)); done)) | apply Take.cons)) ?_
      rintro v J Ll' hJ ⟨rfl, rfl, hd'⟩
      clear hJ; try simp only [List.cons_append, List.nil_append, List.append_assoc]
      have hd' : IsLoom l q (mkSs jobs (i + 1)) Ll' := by rw [mkSs_succ hi]; exact hd'
      refine WP.nil ?_
      refine WP.sub [(0, _), (1, _), (2, _), (8, _), (9, _), (10, _), (11, _), (12, _), (13, _), (14, _), (37, _)] ?_ ⟨rfl, rfl, rfl, rfl, rfl, rfl, rfl, rfl, rfl, rfl, rfl, trivial⟩
      refine WP.next ?_
      refine WP.seq ?_
      refine WP.region [0] rfl ?_
      refine WP.val rfl rfl rfl rfl (Yld.assign rfl rfl) ?_
      refine WP.nil ?_
      refine WP.next ?_
      refine WP.block ?_
      obtain ⟨tt, htt⟩ : ∃ tt, tt = tm jobs[i].times := ⟨_, rfl⟩
      have htt2 : jobs[i].times.tmod 50 = tt := htt.symm
      rw [htt2]
      rw [← htt] at htm hrm
      refine WP.loop (X := Nat × Int) (fun t : Nat × Int => [(0, .int .i64 first), (1, .slice (some ⟨b, kk, none⟩) jobs.length cap), (2, vp), (8, .pointer (some ⟨c, 0, none⟩)), (9, .pointer (some ⟨q, 0, none⟩)), (10, .pointer (some ⟨l, 0, none⟩)), (11, .int .i64 t.2), (12, .int .i64 (sumI rem (mkSs jobs i) + t.1)), (13, .int .i64 (i : Int)), (14, .int .i64 tt), (15, .int .i64 (t.1 : Int))]) (fun _ => I) (fun _ : Nat × Int => Ll' ++ (csCh q c ⟨first, 0, 0, 0, 0, 0⟩ ++ F)) (fun t : Nat × Int => (t.1 : Int) ≤ max tt 0 ∧ Cong t.2 (first + sumI remBy (mkSs jobs i) + t.1 * jobs[i].by_) ∧ (-9223372036854775808 ≤ t.2 ∧ t.2 ≤ 9223372036854775807)) (fun t => (max tt 0 - t.1).toNat) ⟨0, sm⟩ ⟨by simp only; omega, by simpa using hcg, hsr⟩ ⟨rfl, rfl, rfl, rfl, rfl, rfl, rfl, (congrArg (fun z => some (Value.int .i64 z)) (by simp)), rfl, rfl, rfl, trivial⟩ rfl (by (try dsimp only); repeat (first | exact Rm.chunk | exact Rm.here | exact Rm.nil0 | apply Rm.skip | apply Rm.skipS | apply PX.cons | (apply PX.done; (repeat (first | exact Leave.done | apply Leave.drop | apply Leave.dropS)); done) | apply PX.app)) ?_
      rintro ⟨k, sk⟩ ⟨hk, hcg, hsr⟩
      try dsimp only
      try simp only [List.cons_append, List.nil_append, List.append_assoc]
      refine WP.seq ?_
      refine WP.seq ?_
      refine WP.region [0, 1, 2] rfl ?_
      refine WP.val rfl rfl rfl rfl (Yld.move rfl rfl) ?_
      refine WP.val rfl rfl rfl rfl (Yld.move rfl rfl) ?_
      refine WP.split rfl rfl rfl rfl (Yld.lss rfl rfl rfl) (fun hlk => ?_) (fun hlk => ?_)
      · simp only at hk hcg hsr hlk
        refine WP.nil ?_
        refine WP.sub [(0, _), (1, _), (2, _), (8, _), (9, _), (10, _), (11, _), (12, _), (13, _), (14, _), (15, _), (58, _)] ?_ ⟨rfl, rfl, rfl, rfl, rfl, rfl, rfl, rfl, rfl, rfl, rfl, rfl, trivial⟩
        refine WP.next ?_
        refine WP.condT rfl ?_
        refine WP.skip ?_
        refine WP.next ?_
        refine WP.seq ?_
        refine WP.block ?_
        refine WP.seq ?_
        refine WP.region [0, 1, 2, 3, 4, 5, 6, 7] rfl ?_
        refine WP.val rfl rfl rfl rfl (Yld.move rfl rfl) ?_
        refine WP.val rfl rfl rfl rfl (Yld.move rfl rfl) ?_
        refine WP.val rfl rfl rfl rfl (Yld.move rfl rfl) ?_
        refine WP.val rfl rfl rfl rfl (Yld.indexAddr (i := i) rfl ty_sl_22 rfl rfl hi) ?_
        refine WP.val rfl rfl rfl rfl (Yld.fieldAddr rfl ty_fd_36_1 rfl) ?_
        refine WP.val rfl rfl rfl rfl (Yld.loadC rfl ty_sc_3 rfl (There.i hb) e1) ?_
        refine WP.val rfl rfl rfl rfl (Yld.add rfl rfl rfl) ?_
        refine WP.val rfl rfl rfl rfl (Yld.assign rfl rfl) ?_
        refine WP.nil ?_
        refine WP.sub [(0, _), (1, _), (2, _), (8, _), (9, _), (10, _), (11, _), (12, _), (13, _), (14, _), (15, _), (58, _)] ?_ ⟨rfl, rfl, rfl, rfl, rfl, rfl, rfl, rfl, rfl, rfl, rfl, rfl, trivial⟩
        have hw := wrap_cong (sk + jobs[i].by_)
        have hcg2 : Cong (IntKind.i64.wrap (sk + jobs[i].by_)) (first + sumI remBy (mkSs jobs i) + ((k + 1 : Nat) : Int) * jobs[i].by_) := by
          refine hw.1.trans ((hcg.add jobs[i].by_).trans ⟨0, ?_⟩)
          rw [Int.natCast_add, Int.natCast_one, mul_next]; omega
        refine WP.next ?_
        refine WP.region [0, 1, 2] rfl ?_
        refine WP.val rfl rfl rfl rfl (Yld.move rfl rfl) ?_
        refine WP.val rfl rfl rfl rfl (Yld.add64 rfl rfl rfl (by omega)) ?_
        refine WP.val rfl rfl rfl rfl (Yld.assign rfl rfl) ?_
        refine WP.nil ?_
        refine WP.sub [(0, _), (1, _), (2, _), (8, _), (9, _), (10, _), (11, _), (12, _), (13, _), (14, _), (15, _), (58, _)] ?_ ⟨rfl, rfl, rfl, rfl, rfl, rfl, rfl, rfl, rfl, rfl, rfl, rfl, trivial⟩
        refine WP.leave ?_
        refine WP.next ?_
        refine WP.region [0, 1, 2] rfl ?_
        refine WP.val rfl rfl rfl rfl (Yld.move rfl rfl) ?_
        refine WP.val rfl rfl rfl rfl (Yld.add64 rfl rfl rfl (by omega)) ?_
        refine WP.val rfl rfl rfl rfl (Yld.assign rfl rfl) ?_
        refine WP.nil ?_
        refine WP.sub [(0, _), (1, _), (2, _), (8, _), (9, _), (10, _), (11, _), (12, _), (13, _), (14, _), (15, _), (58, _)] ?_ ⟨rfl, rfl, rfl, rfl, rfl, rfl, rfl, rfl, rfl, rfl, rfl, rfl, trivial⟩
        exact WP.again ⟨k + 1, IntKind.i64.wrap (sk + jobs[i].by_)⟩ ⟨by simp only; omega, hcg2, hw.2⟩ (by simp only; omega) ⟨rfl, rfl, rfl, rfl, rfl, rfl, rfl, (congrArg (fun z => some (Value.int .i64 z)) (by simp only; omega)), rfl, rfl, rfl, trivial⟩ rfl (by (try dsimp only); repeat (first | exact Rm.chunk | exact Rm.here | exact Rm.nil0 | apply Rm.skip | apply Rm.skipS | apply PX.cons | (apply PX.done; (repeat (first | exact Leave.done | apply Leave.drop | apply Leave.dropS)); done) | apply PX.app))
      · simp only at hk hcg hsr hlk
        have hkr : (k : Int) = rem (mkS jobs[i]) := by omega
        obtain ⟨s9, hs9⟩ : ∃ s9, s9 = sk := ⟨_, rfl⟩
        subst hs9
        have hcg9 : Cong s9 (first + sumI remBy (mkSs jobs (i + 1))) := by rw [hsb, ← hkr]; rw [Int.add_assoc] at hcg; exact hcg
        have hsr9 := hsr
        refine WP.nil ?_
        refine WP.sub [(0, _), (1, _), (2, _), (8, _), (9, _), (10, _), (11, _), (12, _), (13, _), (14, _), (15, _), (58, _)] ?_ ⟨rfl, rfl, rfl, rfl, rfl, rfl, rfl, rfl, rfl, rfl, rfl, rfl, trivial⟩
        refine WP.next ?_
        refine WP.condF rfl ?_
        refine WP.exit ?_
        refine WP.thenE ?_
        refine WP.thenE ?_
        refine WP.hit ?_
        refine WP.leave ?_
        refine WP.next ?_
        refine WP.region [0, 1, 2] rfl ?_
        refine WP.val rfl rfl rfl rfl (Yld.move rfl rfl) ?_
        refine WP.val rfl rfl rfl rfl (Yld.add64 rfl rfl rfl (by omega)) ?_
        refine WP.val rfl rfl rfl rfl (Yld.assign rfl rfl) ?_
        refine WP.nil ?_
        refine WP.sub [(0, _), (1, _), (2, _), (8, _), (9, _), (10, _), (11, _), (12, _), (13, _), (14, _), (15, _), (58, _)] ?_ ⟨rfl, rfl, rfl, rfl, rfl, rfl, rfl, rfl, rfl, rfl, rfl, rfl, trivial⟩
        exact WP.again ⟨i + 1, s9, Ll'⟩ ⟨hi, hd', hcg9, hsr9⟩ (by simp only; omega) ⟨rfl, rfl, rfl, rfl, rfl, rfl, rfl, (congrArg (fun z => some (Value.int .i64 z)) (by show _ = sumI rem (mkSs jobs (i + 1)); omega)), rfl, trivial⟩ rfl (by (try dsimp only); repeat (first | exact Rm.chunk | exact Rm.here | exact Rm.nil0 | apply Rm.skip | apply Rm.skipS | apply PX.cons | (apply PX.done; (repeat (first | exact Leave.done | apply Leave.drop | apply Leave.dropS)); done) | apply PX.app))
    · simp only at hle hd hcg hsr
      obtain rfl : i = jobs.length := by first | omega | (simp only at hlt; omega)
      have hll := mkSs_len jobs jobs.length (Nat.le_refl _)
      have hks := keep_start (l := jobs) (by omega) hfr
      have hms := meas_start (l := jobs) (by omega) ⟨first, 0, 0, 0, 0, 0⟩
      have had := mkSs_rem jobs jobs.length (Nat.le_refl _)
      generalize hA : sumI rem (mkSs jobs jobs.length) = A9 at *
      generalize hT : first + sumI remBy (mkSs jobs jobs.length) = T9 at *
      refine WP.nil ?_
      refine WP.sub [(0, _), (1, _), (2, _), (8, _), (9, _), (10, _), (11, _), (12, _), (13, _), (37, _)] ?_ ⟨rfl, rfl, rfl, rfl, rfl, rfl, rfl, rfl, rfl, rfl, trivial⟩
      refine WP.next ?_
      refine WP.condF rfl ?_
      refine WP.exit ?_
      refine WP.thenE ?_
      refine WP.thenE ?_
      refine WP.hit ?_
      refine WP.next ?_
      refine WP.seq ?_
      refine WP.seq ?_
      refine WP.region [0] rfl ?_
      refine WP.val rfl rfl rfl rfl (Yld.assign rfl rfl) ?_
      refine WP.nil ?_
      refine WP.next ?_
      refine WP.block ?_
      refine WP.loop (X := LM) (fun t : LM => [(0, .int .i64 first), (1, .slice A jobs.length cap), (2, vp), (8, .pointer (some ⟨c, 0, none⟩)), (9, .pointer (some ⟨q, 0, none⟩)), (10, .pointer (some ⟨l, 0, none⟩)), (11, .int .i64 sm), (12, .int .i64 A9), (16, .int .i64 (t.i : Int))]) (fun _ => I) (fun t : LM => t.Ll ++ (csCh q c t.s ++ F)) (fun t => t.i ≤ picks.length ∧ IsLoom l q t.xs t.Ll ∧ Keep A9 T9 t.xs t.s ∧ meas t.xs t.s ≤ 89730) (fun t => picks.length - t.i) ⟨0, mkSs jobs jobs.length, ⟨first, 0, 0, 0, 0, 0⟩, Ll⟩ ⟨Nat.zero_le _, hd, hks, hms⟩ ⟨rfl, rfl, rfl, rfl, rfl, rfl, rfl, rfl, rfl, trivial⟩ rfl (by (try dsimp only); repeat (first | exact Rm.chunk | exact Rm.here | exact Rm.nil0 | apply Rm.skip | apply Rm.skipS | apply PX.cons | (apply PX.done; (repeat (first | exact Leave.done | apply Leave.drop | apply Leave.dropS)); done) | apply PX.app)) ?_
      rintro ⟨i, xs, s, Ll⟩ ⟨hle2, hd, hks, hms⟩
      try dsimp only
      try simp only [List.cons_append, List.nil_append, List.append_assoc]
      refine WP.seq ?_
      refine WP.seq ?_
      refine WP.region [0, 1, 2, 3] rfl ?_
      refine WP.val rfl rfl rfl rfl (Yld.move rfl rfl) ?_
      refine WP.val rfl rfl rfl rfl (Yld.move rfl rfl) ?_
      refine WP.val rfl rfl rfl rfl (Yld.lenR hp rfl ty_sl_23 rfl) ?_
      refine WP.split rfl rfl rfl rfl (Yld.lss rfl rfl rfl) (fun hlt => ?_) (fun hlt => ?_)
      · simp only at hle2 hd hks hms
        have hip : i < picks.length := by first | omega | (simp only at hlt; omega)
        obtain ⟨bk, kk, ck, Tk, frk, arrk, hvk, hck, hbk, hk4⟩ := hp.get (by omega)
        subst hvk
        have ek := take_cells hk4 i (.int .i64 picks[i]) (by simp [hip]) (by simpa using hip)
        rw [Array.getElem?_toList] at ek
        have hkp := keep_pick hks (by omega) picks[i]
        refine WP.nil ?_
        refine WP.sub [(0, _), (1, _), (2, _), (8, _), (9, _), (10, _), (11, _), (12, _), (16, _), (73, _)] ?_ ⟨rfl, rfl, rfl, rfl, rfl, rfl, rfl, rfl, rfl, rfl, trivial⟩
        refine WP.next ?_
        refine WP.condT rfl ?_
        refine WP.skip ?_
        refine WP.next ?_
        refine WP.seq ?_
        refine WP.block ?_
        refine WP.region [0, 1, 2, 3, 4, 5] rfl ?_
        refine WP.val rfl rfl rfl rfl (Yld.move rfl rfl) ?_
        refine WP.val rfl rfl rfl rfl (Yld.move rfl rfl) ?_
        refine WP.val rfl rfl rfl rfl (Yld.move rfl rfl) ?_
        refine WP.val rfl rfl rfl rfl (Yld.indexAddr (i := i) rfl ty_sl_23 rfl rfl hip) ?_
        refine WP.val rfl rfl rfl rfl (Yld.loadC rfl ty_sc_3 rfl (There.i hbk) (by rw [Nat.mul_one]; exact ek)) ?_
        refine WP.loud rfl rfl ?_
        refine Op.call (loom_Pick hd) rfl Try.func18 rfl rfl rfl rfl (by repeat (first | exact Take.nil | with_reducible apply Take.cons | apply Take.app | exact Rm.chunk | exact Rm.here | exact Rm.nil0 | apply Rm.skip | apply Rm.skipS | (focus (apply Take.all; (repeat (first | exact Rm.chunk | exact Rm.here | exact Rm.nil0 | apply Rm.skip | apply Rm.skipS)); done)) | apply Take.cons)) ?_
        rintro v J L9 hJ ⟨rfl, rfl, L1, rfl, hd2⟩
        clear hJ; try simp only [List.cons_append, List.nil_append, List.append_assoc]
        refine WP.nil ?_
        refine WP.sub [(0, _), (1, _), (2, _), (8, _), (9, _), (10, _), (11, _), (12, _), (16, _), (73, _)] ?_ ⟨rfl, rfl, rfl, rfl, rfl, rfl, rfl, rfl, rfl, rfl, trivial⟩
        refine WP.leave ?_
        refine WP.next ?_
        refine WP.region [0, 1, 2] rfl ?_
        refine WP.val rfl rfl rfl rfl (Yld.move rfl rfl) ?_
        refine WP.val rfl rfl rfl rfl (Yld.add64 rfl rfl rfl (by omega)) ?_
        refine WP.val rfl rfl rfl rfl (Yld.assign rfl rfl) ?_
        refine WP.nil ?_
        refine WP.sub [(0, _), (1, _), (2, _), (8, _), (9, _), (10, _), (11, _), (12, _), (16, _), (73, _)] ?_ ⟨rfl, rfl, rfl, rfl, rfl, rfl, rfl, rfl, rfl, rfl, trivial⟩
        exact WP.again ⟨i + 1, (pick xs s picks[i]).1, (pick xs s picks[i]).2.1, L1⟩ ⟨hip, hd2, hkp.1, by have := hkp.2; simp only; omega⟩ (by simp only; omega) ⟨rfl, rfl, rfl, rfl, rfl, rfl, rfl, rfl, rfl, trivial⟩ rfl (by (try dsimp only); repeat (first | exact Rm.chunk | exact Rm.here | exact Rm.nil0 | apply Rm.skip | apply Rm.skipS | apply PX.cons | (apply PX.done; (repeat (first | exact Leave.done | apply Leave.drop | apply Leave.dropS)); done) | apply PX.app))
      · simp only at hle2 hd hks hms
        obtain ⟨hkr, hmr⟩ := keep_runL (adds := A9) (tot := T9) (by omega) 1048576 (1048576 : Int).toNat xs s 0 hks
        have hme := meas_nonneg (run xs s 1048576).1 (run xs s 1048576).2.1
        have hend := runL_end 1048576 (1048576 : Int).toNat (xs, s, 0) (by simp) (show (0 : Int) ≤ 1048576 by decide)
        have hz : live (run xs s 1048576).1 = [] := by rcases hend with h | h; exact h; exfalso; apply h; show (run xs s 1048576).2.2 < 1048576; have : (run xs s 1048576).2.2 + meas (run xs s 1048576).1 (run xs s 1048576).2.1 ≤ 0 + meas xs s := hmr; omega
        obtain ⟨hsw, hcv⟩ := all_done hkr hz
        have hs0 := hkr.s0
        have hvr := hkr.vr
        have hxl := hks.len
        have hmx := run_most xs s 1048576
        have hvs : (run xs s 1048576).2.1.v = sm := (hcv.trans hcg.symm).eq hvr hsr
        refine WP.nil ?_
        refine WP.sub [(0, _), (1, _), (2, _), (8, _), (9, _), (10, _), (11, _), (12, _), (16, _), (73, _)] ?_ ⟨rfl, rfl, rfl, rfl, rfl, rfl, rfl, rfl, rfl, rfl, trivial⟩
        refine WP.next ?_
        refine WP.condF rfl ?_
        refine WP.exit ?_
        refine WP.thenE ?_
        refine WP.thenE ?_
        refine WP.hit ?_
        refine WP.next ?_
        refine WP.seq ?_
        refine WP.region [0, 1, 2] rfl ?_
        refine WP.val rfl rfl rfl rfl (Yld.move rfl rfl) ?_
        refine WP.loud rfl rfl ?_
        refine Op.call (loom_Run hd (by omega) (by decide)) rfl Try.func23 rfl rfl rfl rfl (by repeat (first | exact Take.nil | with_reducible apply Take.cons | apply Take.app | exact Rm.chunk | exact Rm.here | exact Rm.nil0 | apply Rm.skip | apply Rm.skipS | (focus (apply Take.all; (repeat (first | exact Rm.chunk | exact Rm.here | exact Rm.nil0 | apply Rm.skip | apply Rm.skipS)); done)) | apply Take.cons)) ?_
        rintro v J L9 hJ ⟨rfl, rfl, L1, rfl, hd2⟩
        clear hJ; try simp only [List.cons_append, List.nil_append, List.append_assoc]
        try simp only [List.cons_append, List.nil_append, List.append_assoc]
        refine WP.val rfl rfl rfl rfl (Yld.assign rfl rfl) ?_
        refine WP.nil ?_
        refine WP.sub [(0, _), (1, _), (2, _), (8, _), (9, _), (10, _), (11, _), (12, _), (16, _), (17, _), (73, _)] ?_ ⟨rfl, rfl, rfl, rfl, rfl, rfl, rfl, rfl, rfl, rfl, rfl, trivial⟩
        refine WP.next ?_
        refine WP.seq ?_
        refine WP.region [0, 1, 2, 3] rfl ?_
        refine WP.val rfl rfl rfl rfl (Yld.move rfl rfl) ?_
        refine WP.loud rfl rfl ?_
        refine Op.call cs_Tally rfl Try.func19 rfl rfl rfl rfl (by repeat (first | exact Take.nil | with_reducible apply Take.cons | apply Take.app | exact Rm.chunk | exact Rm.here | exact Rm.nil0 | apply Rm.skip | apply Rm.skipS | (focus (apply Take.all; (repeat (first | exact Rm.chunk | exact Rm.here | exact Rm.nil0 | apply Rm.skip | apply Rm.skipS)); done)) | apply Take.cons)) ?_
        rintro v J L1 hJ ⟨rfl, rfl, rfl⟩
        clear hJ; try simp only [List.cons_append, List.nil_append, List.append_assoc]
        refine WP.loud rfl rfl ?_
        refine Op.alloc rfl rfl rfl ty_zr_41 (fun bt => ?_)
        refine WP.loud rfl rfl ?_
        refine Op.storeAll rfl rfl ty_sz_41 rfl rfl rfl rfl (by repeat (first | exact Upd.head | apply Upd.tail | apply Upd.tailS)) rfl ?_
        refine WP.nil ?_
        refine WP.sub [(0, _), (1, _), (2, _), (8, _), (9, _), (10, _), (11, _), (12, _), (16, _), (17, _), (18, _), (73, _)] ?_ ⟨rfl, rfl, rfl, rfl, rfl, rfl, rfl, rfl, rfl, rfl, rfl, rfl, trivial⟩
        refine WP.next ?_
        refine WP.seq ?_
        refine WP.region [0, 1, 2, 3, 4, 5, 6, 7, 8, 9, 10, 11, 12, 13, 14, 15, 16, 17, 18, 19, 20, 21, 22, 23, 24, 25] rfl ?_
        refine WP.val rfl rfl rfl rfl (Yld.move rfl rfl) ?_
        refine WP.val rfl rfl rfl rfl (Yld.leq rfl rfl rfl true (decide_eq_true (by show (run xs s 1048576).2.2 ≤ 1048576; omega))) ?_
        refine WP.val rfl rfl rfl rfl (Yld.move rfl rfl) ?_
        refine WP.valG rfl rfl rfl rfl rfl rfl rfl (Yld.move rfl rfl) ?_
        refine WP.loudG rfl rfl rfl rfl rfl ?_
        refine Op.call (loom_Live hd2 (by rw [run_len]; omega)) rfl Try.func17 rfl rfl rfl rfl (by repeat (first | exact Take.nil | with_reducible apply Take.cons | apply Take.app | exact Rm.chunk | exact Rm.here | exact Rm.nil0 | apply Rm.skip | apply Rm.skipS | (focus (apply Take.all; (repeat (first | exact Rm.chunk | exact Rm.here | exact Rm.nil0 | apply Rm.skip | apply Rm.skipS)); done)) | apply Take.cons)) ?_
        rintro v J L9 hJ ⟨rfl, Lo, rfl, how⟩
        clear hJ; try simp only [List.cons_append, List.nil_append, List.append_assoc]
        try simp only [List.cons_append, List.nil_append, List.append_assoc]
        refine WP.valG rfl rfl rfl rfl rfl rfl rfl (Yld.lenR (how.rd (I := I) (fun p hp => hp)) rfl ty_sl_23 rfl) ?_
        refine WP.valG rfl rfl rfl rfl rfl rfl rfl (Yld.eql rfl rfl rfl true (decide_eq_true (by rw [hz]; rfl))) ?_
        refine WP.val rfl rfl rfl rfl (Yld.pickT rfl rfl rfl) ?_
        refine WP.val rfl rfl rfl rfl (Yld.move rfl rfl) ?_
        refine WP.valG rfl rfl rfl rfl rfl rfl rfl (Yld.move rfl rfl) ?_
        refine WP.loudG rfl rfl rfl rfl rfl ?_
        refine Op.call cs_Load rfl Try.func22 rfl rfl rfl rfl (by repeat (first | exact Take.nil | with_reducible apply Take.cons | apply Take.app | exact Rm.chunk | exact Rm.here | exact Rm.nil0 | apply Rm.skip | apply Rm.skipS | (focus (apply Take.all; (repeat (first | exact Rm.chunk | exact Rm.here | exact Rm.nil0 | apply Rm.skip | apply Rm.skipS)); done)) | apply Take.cons)) ?_
        rintro v J L1 hJ ⟨rfl, rfl, rfl⟩
        clear hJ; try simp only [List.cons_append, List.nil_append, List.append_assoc]
        refine WP.valG rfl rfl rfl rfl rfl rfl rfl (Yld.move rfl rfl) ?_
        refine WP.valG rfl rfl rfl rfl rfl rfl rfl (Yld.eql rfl rfl rfl true (decide_eq_true (by exact hvs))) ?_
        refine WP.val rfl rfl rfl rfl (Yld.pickT rfl rfl rfl) ?_
        refine WP.val rfl rfl rfl rfl (Yld.move rfl rfl) ?_
        refine WP.valG rfl rfl rfl rfl rfl rfl rfl (Yld.fieldAddr rfl ty_fd_41_2 rfl) ?_
        refine WP.valG rfl rfl rfl rfl rfl rfl rfl (Yld.load rfl ty_sc_3 rfl (by repeat (first | exact There.h | exact There.i (by assumption) | apply There.t | apply There.s)) rfl) ?_
        refine WP.valG rfl rfl rfl rfl rfl rfl rfl (Yld.move rfl rfl) ?_
        refine WP.valG rfl rfl rfl rfl rfl rfl rfl (Yld.eql rfl rfl rfl true (decide_eq_true (by exact hsw))) ?_
        refine WP.val rfl rfl rfl rfl (Yld.pickT rfl rfl rfl) ?_
        refine WP.val rfl rfl rfl rfl (Yld.move rfl rfl) ?_
        refine WP.valG rfl rfl rfl rfl rfl rfl rfl (Yld.fieldAddr rfl ty_fd_41_1 rfl) ?_
        refine WP.valG rfl rfl rfl rfl rfl rfl rfl (Yld.load rfl ty_sc_3 rfl (by repeat (first | exact There.h | exact There.i (by assumption) | apply There.t | apply There.s)) rfl) ?_
        refine WP.valG rfl rfl rfl rfl rfl rfl rfl (Yld.eql rfl rfl rfl true (decide_eq_true (by exact hs0))) ?_
        refine WP.val rfl rfl rfl rfl (Yld.pickT rfl rfl rfl) ?_
        refine WP.val rfl rfl rfl rfl (Yld.assign rfl rfl) ?_
        refine WP.nil ?_
        refine WP.sub [(0, _), (1, _), (2, _), (6, _), (8, _), (9, _), (10, _), (11, _), (12, _), (16, _), (17, _), (18, _), (73, _)] ?_ ⟨rfl, rfl, rfl, rfl, rfl, rfl, rfl, rfl, rfl, rfl, rfl, rfl, rfl, trivial⟩
        refine WP.next ?_
        refine WP.ret ?_
        refine WP.fin .ret (.inr rfl) (res1 rfl rfl) [] (by repeat (first | exact Take.nil | with_reducible apply Take.cons | apply Take.app | exact Rm.chunk | exact Rm.here | exact Rm.nil0 | apply Rm.skip | apply Rm.skipS | (focus (apply Take.all; (repeat (first | exact Rm.chunk | exact Rm.here | exact Rm.nil0 | apply Rm.skip | apply Rm.skipS)); done)) | apply Take.cons)) (by repeat (first | exact Leave.done | apply Leave.drop | apply Leave.dropS)) (Imm.le_refl _) ?_
        exact ⟨rfl, rfl, rfl⟩


end Go.Hp
