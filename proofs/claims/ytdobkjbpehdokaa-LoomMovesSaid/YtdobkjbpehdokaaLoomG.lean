import Derived.Test.YtdobkjbpehdokaaLoomF
set_option linter.unusedVariables false
set_option linter.unusedSimpArgs false
namespace Go.Hp
open Go Go.Proofs

theorem ints_at {l : List Nat} {i : Nat} (h : i < l.length) (sp : List Value) : (ints l ++ sp)[0 + i * 1]? = some (.int .i64 (l[i] : Int)) := by
  rw [Nat.zero_add, Nat.mul_one, List.getElem?_append_left (by simpa [ints] using h)]; simp [ints, h]
structure LX where
  ms : List (Mb × Ad)
  s : CS
  k : Int
structure LX.ok (ms0 : List (Mb × Ad)) (t : LX) : Prop where
  tp : tps t.ms = tps ms0
  ln : t.ms.length = ms0.length
  lf : lefts (t.ms.map (·.2))
def LX.st (t : LX) : List Ad × CS × Int := (t.ms.map (·.2), t.s, t.k)
theorem LX.ok.next {ms0 ms : List (Mb × Ad)} {s : CS} {k : Int} (h : (⟨ms, s, k⟩ : LX).ok ms0) {i : Nat} (hi : i < ms.length) : (⟨ms.set i (ms[i].1, (tStep ms[i].2 s).1), (tStep ms[i].2 s).2, k + 1⟩ : LX).ok ms0 := by
  obtain ⟨h1, h2, h3⟩ := h
  simp only at h1 h2 h3
  refine ⟨by rw [tps_set hi]; exact h1, by rw [List.length_set]; exact h2, ?_⟩
  have := lefts_step h3 s i
  rw [stepAt_map hi] at this
  exact this
theorem LX.next_st {ms : List (Mb × Ad)} {s : CS} {k : Int} {i : Nat} (hi : i < ms.length) : (⟨ms.set i (ms[i].1, (tStep ms[i].2 s).1), (tStep ms[i].2 s).2, k + 1⟩ : LX).st = ((stepAt (ms.map (·.2)) s i).1, (stepAt (ms.map (·.2)) s i).2, k + 1) := by
  rw [stepAt_map hi]; rfl
theorem runL_stop {most : Int} {f : Nat} {st : List Ad × CS × Int} (h : ¬ st.2.2 < most ∨ live st.1 = []) : runL most f st = st := by
  cases f with
  | zero => rfl
  | succ f =>
    rw [runL]
    split
    · rcases h with h | h
      · rename_i h2; exact absurd h2 h
      · rw [if_pos h]
    · rfl
theorem ints_nil {l : List Nat} (h : l.length = 0) : l = [] := List.eq_nil_of_length_eq_zero h
theorem loom_Run {I : Imm} {l q : Nat} {xs : List Ad} {L : Chunks} (hd : IsLoom l q xs L) {c : Nat} {s : CS} {most : Int} (hn : xs.length ≤ 1048576) (hmm : most ≤ 9223372036854775807) : Spec Try.prog 23 [.pointer (some ⟨l, 0, none⟩), .int .i64 most] I (L ++ csCh q c s) (fun v J L' => v = .int .i64 (run xs s most).2.2 ∧ I = J ∧ ∃ L1, L' = L1 ++ csCh q c (run xs s most).2.1 ∧ IsLoom l q (run xs s most).1 L1) := by
  cases hd with
  | @mk vs Lv ms0 e ow hl =>
  subst e
  obtain ⟨As, cs_, rfl, hcs⟩ := ow.slice
  have hn' : ms0.length ≤ 1048576 := by simpa using hn
  refine Spec.of Try.func23 rfl Try.ntmps23 (Nat.le_of_ble_eq_true rfl) (fun F => ?_)
  try simp only [List.cons_append, List.nil_append, List.append_assoc]
  dsimp only [argsEnv]
  refine WP.seq ?_
  refine WP.region [0] rfl ?_
  refine WP.val rfl rfl rfl rfl (Yld.assign rfl rfl) ?_
  refine WP.nil ?_
  refine WP.next ?_
  refine WP.seq ?_
  refine WP.region [0] rfl ?_
  refine WP.val rfl rfl rfl rfl (Yld.assign rfl rfl) ?_
  refine WP.nil ?_
  refine WP.next ?_
  refine WP.seq ?_
  refine WP.block ?_
  refine WP.loop (X := Nat × LX) (fun t : Nat × LX => [(0, .pointer (some ⟨l, 0, none⟩)), (1, .int .i64 most), (5, .int .i64 t.2.k)]) (fun _ => I) (fun t : Nat × LX => (l, row 89 [.slice As ms0.length cs_]) :: (Lv ++ (t.2.ms.flatMap (mach q) ++ (csCh q c t.2.s ++ (F))))) (fun t : Nat × LX => t.2.ok ms0 ∧ 0 ≤ t.2.k ∧ (t.2.k ≤ most ∨ t.2.k = 0) ∧ (most - t.2.k).toNat ≤ t.1 ∧ runL most t.1 t.2.st = run (ms0.map (·.2)) s most) (fun t => (most - t.2.k).toNat) ⟨most.toNat, ⟨ms0, s, 0⟩⟩ ⟨⟨rfl, rfl, hl⟩, Int.le_refl _, .inr rfl, by simp, rfl⟩ ⟨rfl, rfl, rfl, trivial⟩ rfl (by (try dsimp only); repeat (first | exact Rm.chunk | exact Rm.here | exact Rm.nil0 | apply Rm.skip | apply Rm.skipS | apply PX.cons | (apply PX.done; (repeat (first | exact Leave.done | apply Leave.drop | apply Leave.dropS)); done) | apply PX.app)) ?_
  rintro ⟨f, mo, so, ko⟩ ⟨hok, hk0, hkm, hkf, hrun⟩
  try dsimp only
  try simp only [List.cons_append, List.nil_append, List.append_assoc]
  refine WP.seq ?_
  refine WP.seq ?_
  refine WP.region [0, 1, 2] rfl ?_
  refine WP.val rfl rfl rfl rfl (Yld.move rfl rfl) ?_
  refine WP.val rfl rfl rfl rfl (Yld.move rfl rfl) ?_
  refine WP.split rfl rfl rfl rfl (Yld.lss rfl rfl rfl) (fun hlt => ?_) (fun hlt => ?_)
  · simp only at hok hk0 hkm hkf hrun hlt
    obtain ⟨htp, hln, hlf⟩ := id hok
    simp only at htp hln hlf
    have hd : IsLoom l q (mo.map (·.2)) ((l, row 89 [.slice As mo.length cs_]) :: (Lv ++ mo.flatMap (mach q))) := .mk rfl (by rw [htp, hln]; exact ow) hlf
    rw [hln] at hd
    refine WP.nil ?_
    refine WP.sub [(0, _), (1, _), (5, _), (11, _)] ?_ ⟨rfl, rfl, rfl, rfl, trivial⟩
    refine WP.next ?_
    refine WP.condT rfl ?_
    refine WP.skip ?_
    refine WP.next ?_
    refine WP.block ?_
    refine WP.seq ?_
    refine WP.region [0, 1, 2] rfl ?_
    refine WP.val rfl rfl rfl rfl (Yld.move rfl rfl) ?_
    refine WP.loud rfl rfl ?_
    refine Op.call (loom_Live hd (by rw [List.length_map, hln]; exact hn')) rfl Try.func17 rfl rfl rfl rfl (by repeat (first | exact Take.nil | with_reducible apply Take.cons | apply Take.app | exact Rm.chunk | exact Rm.here | exact Rm.nil0 | apply Rm.skip | apply Rm.skipS | (focus (apply Take.all; (repeat (first | exact Rm.chunk | exact Rm.here | exact Rm.nil0 | apply Rm.skip | apply Rm.skipS)); done)) | apply Take.cons)) ?_
    rintro v J L9 hJ ⟨rfl, Lo, rfl, how⟩
    clear hJ; try simp only [List.cons_append, List.nil_append, List.append_assoc]
    obtain ⟨Ao, co, rfl, hco⟩ := how.slice
    try simp only [List.cons_append, List.nil_append, List.append_assoc]
    refine WP.val rfl rfl rfl rfl (Yld.assign rfl rfl) ?_
    refine WP.nil ?_
    refine WP.sub [(0, _), (1, _), (5, _), (6, _), (11, _)] ?_ ⟨rfl, rfl, rfl, rfl, rfl, trivial⟩
    refine WP.next ?_
    refine WP.seq ?_
    refine WP.seq ?_
    refine WP.region [0, 1, 2] rfl ?_
    refine WP.val rfl rfl rfl rfl (Yld.move rfl rfl) ?_
    refine WP.val rfl rfl rfl rfl (Yld.len rfl ty_sl_23 rfl) ?_
    refine WP.split rfl rfl rfl rfl (Yld.eql rfl rfl rfl) (fun hz => ?_) (fun hz => ?_)
    · have hfin : run (ms0.map (·.2)) s most = (mo.map (·.2), so, ko) := by rw [← hrun]; exact runL_stop (.inr (ints_nil (by show (live (mo.map (·.2))).length = 0; omega)))
      refine WP.nil ?_
      refine WP.sub [(0, _), (1, _), (5, _), (6, _), (11, _), (16, _)] ?_ ⟨rfl, rfl, rfl, rfl, rfl, rfl, trivial⟩
      refine WP.next ?_
      refine WP.condT rfl ?_
      refine WP.exit ?_
      refine WP.thenE ?_
      refine WP.miss rfl ?_
      refine WP.thenE ?_
      refine WP.hit ?_
      refine WP.next ?_
      refine WP.seq ?_
      refine WP.region [0, 1] rfl ?_
      refine WP.val rfl rfl rfl rfl (Yld.move rfl rfl) ?_
      refine WP.val rfl rfl rfl rfl (Yld.assign rfl rfl) ?_
      refine WP.nil ?_
      refine WP.sub [(0, _), (1, _), (4, _), (5, _), (6, _), (11, _), (16, _)] ?_ ⟨rfl, rfl, rfl, rfl, rfl, rfl, rfl, trivial⟩
      refine WP.next ?_
      refine WP.ret ?_
      refine WP.fin .ret (.inr rfl) (res1 rfl rfl) ((l, row 89 _) :: (Lv ++ (mo.flatMap (mach q) ++ csCh q c so))) (by repeat (first | exact Take.nil | with_reducible apply Take.cons | apply Take.app | exact Rm.chunk | exact Rm.here | exact Rm.nil0 | apply Rm.skip | apply Rm.skipS | (focus (apply Take.all; (repeat (first | exact Rm.chunk | exact Rm.here | exact Rm.nil0 | apply Rm.skip | apply Rm.skipS)); done)) | apply Take.cons)) (by repeat (first | exact Leave.done | apply Leave.drop | apply Leave.dropS)) (Imm.le_refl _) ?_
      rw [hfin]
      exact ⟨rfl, rfl, (l, row 89 [.slice As ms0.length cs_]) :: (Lv ++ mo.flatMap (mach q)), by simp, .mk rfl (by rw [htp, hln]; exact ow) hlf⟩
    · have hne : live (mo.map (·.2)) ≠ [] := fun h => hz (by rw [h]; rfl)
      obtain ⟨f, rfl⟩ : ∃ g, f = g + 1 := ⟨f - 1, by omega⟩
      have hrun2 : runL most f (sweep most (live (mo.map (·.2))) ((mo.map (·.2), so, ko) : List Ad × CS × Int)) = run (ms0.map (·.2)) s most := by rw [← hrun]; show _ = runL most (f + 1) ((mo.map (·.2), so, ko) : List Ad × CS × Int); rw [runL, if_pos hlt, if_neg hne]
      obtain ⟨hs1, hs2, hs3⟩ := sweep_n most (live (mo.map (·.2))) ((mo.map (·.2), so, ko) : List Ad × CS × Int) (Int.le_of_lt hlt)
      have hs3 := hs3 hne hlt
      simp only at hs1 hs3
      have hlb : (live (mo.map (·.2))).length ≤ ms0.length := by rw [← hln]; exact Nat.le_trans (List.length_filter_le _ _) (by simp)
      have hlive : ∀ i ∈ (live (mo.map (·.2))), i < ms0.length := fun i hi => by have := live_lt hi; rw [List.length_map] at this; omega
      refine WP.nil ?_
      refine WP.sub [(0, _), (1, _), (5, _), (6, _), (11, _), (16, _)] ?_ ⟨rfl, rfl, rfl, rfl, rfl, rfl, trivial⟩
      refine WP.next ?_
      refine WP.condF rfl ?_
      refine WP.skip ?_
      refine WP.next ?_
      refine WP.seq ?_
      refine WP.region [0, 1, 2] rfl ?_
      refine WP.val rfl rfl rfl rfl (Yld.move rfl rfl) ?_
      refine WP.val rfl rfl rfl rfl (Yld.len rfl ty_sl_23 rfl) ?_
      refine WP.val rfl rfl rfl rfl (Yld.move rfl rfl) ?_
      refine WP.nil ?_
      refine WP.next ?_
      refine WP.block ?_
      refine WP.loop (X := Nat × LX) (fun t : Nat × LX => [(0, .pointer (some ⟨l, 0, none⟩)), (1, .int .i64 most), (5, .int .i64 t.2.k), (17, .slice Ao (live (mo.map (·.2))).length co), (18, .int .i64 ((live (mo.map (·.2))).length : Int)), (19, .int .i64 (t.1 : Int))]) (fun _ => I) (fun t : Nat × LX => (l, row 89 [.slice As ms0.length cs_]) :: (Lv ++ (t.2.ms.flatMap (mach q) ++ (csCh q c t.2.s ++ (Lo ++ F))))) (fun t : Nat × LX => t.1 ≤ (live (mo.map (·.2))).length ∧ t.2.ok ms0 ∧ 0 ≤ t.2.k ∧ t.2.k ≤ most ∧ sweep most ((live (mo.map (·.2))).drop t.1) t.2.st = sweep most (live (mo.map (·.2))) ((mo.map (·.2), so, ko) : List Ad × CS × Int)) (fun t => (live (mo.map (·.2))).length - t.1) ⟨0, ⟨mo, so, ko⟩⟩ ⟨Nat.zero_le _, hok, hk0, Int.le_of_lt hlt, rfl⟩ ⟨rfl, rfl, rfl, rfl, rfl, rfl, trivial⟩ rfl (by (try dsimp only); repeat (first | exact Rm.chunk | exact Rm.here | exact Rm.nil0 | apply Rm.skip | apply Rm.skipS | apply PX.cons | (apply PX.done; (repeat (first | exact Leave.done | apply Leave.drop | apply Leave.dropS)); done) | apply PX.app)) ?_
      rintro ⟨j, m1, s1, k1⟩ ⟨hj, hok1, hk1, hk1m, hsw⟩
      try dsimp only
      try simp only [List.cons_append, List.nil_append, List.append_assoc]
      refine WP.seq ?_
      refine WP.region [0] rfl ?_
      refine WP.split rfl rfl rfl rfl (Yld.lss rfl rfl rfl) (fun hlt2 => ?_) (fun hlt2 => ?_)
      · simp only at hj hok1 hk1 hk1m hsw
        have hjl : j < (live (mo.map (·.2))).length := by first | omega | (simp only at hlt2; omega)
        obtain ⟨htp1, hln1, hlf1⟩ := id hok1
        simp only at htp1 hln1 hlf1
        obtain ⟨bo, cc, so9, hvo, hLo, hqo, hro⟩ := how.get (by omega)
        injection hvo with hAo _ hco9
        subst hAo hco9 hLo
        have hi : (live (mo.map (·.2)))[j] < m1.length := by rw [hln1]; exact hlive _ (List.getElem_mem hjl)
        have hdr : (live (mo.map (·.2))).drop j = (live (mo.map (·.2)))[j] :: (live (mo.map (·.2))).drop (j + 1) := List.drop_eq_getElem_cons hjl
        rw [hdr] at hsw
        generalize hgi : (live (mo.map (·.2)))[j] = i at hi hsw
        have hv2 := ow.get (by omega)
        obtain ⟨bv, cv, sv, hvv, rfl, hqv, hrv⟩ := hv2
        injection hvv with hA _ hcl
        subst hA hcl
        try simp only [List.cons_append, List.nil_append, List.append_assoc]
        refine WP.nil ?_
        refine WP.next ?_
        refine WP.seq ?_
        refine WP.condT rfl ?_
        refine WP.skip ?_
        refine WP.next ?_
        refine WP.seq ?_
        refine WP.block ?_
        refine WP.seq ?_
        refine WP.region [0, 1, 2] rfl ?_
        refine WP.val rfl rfl rfl rfl (Yld.indexAddr (i := j) rfl ty_sl_23 rfl rfl hjl) ?_
        refine WP.val rfl rfl rfl rfl (Yld.load rfl ty_sc_3 rfl (by repeat (first | exact There.h | exact There.i (by assumption) | apply There.t | apply There.s)) (ints_at hjl so9)) ?_
        rw [hgi]
        refine WP.val rfl rfl rfl rfl (Yld.assign rfl rfl) ?_
        refine WP.nil ?_
        refine WP.sub [(0, _), (1, _), (5, _), (8, _), (17, _), (18, _), (19, _), (20, _)] ?_ ⟨rfl, rfl, rfl, rfl, rfl, rfl, rfl, rfl, trivial⟩
        refine WP.next ?_
        refine WP.seq ?_
        refine WP.seq ?_
        refine WP.region [0, 1, 2] rfl ?_
        refine WP.val rfl rfl rfl rfl (Yld.move rfl rfl) ?_
        refine WP.val rfl rfl rfl rfl (Yld.move rfl rfl) ?_
        refine WP.split rfl rfl rfl rfl (Yld.eql rfl rfl rfl) (fun heq => ?_) (fun heq => ?_)
        · have hsw2 : sweep most (live (mo.map (·.2))) ((mo.map (·.2), so, ko) : List Ad × CS × Int) = (⟨m1, s1, k1⟩ : LX).st := by rw [← hsw]; show sweep most (i :: _) (m1.map (·.2), s1, k1) = _; rw [sweep, if_pos heq]; rfl
          refine WP.nil ?_
          refine WP.sub [(0, _), (1, _), (5, _), (8, _), (17, _), (18, _), (19, _), (20, _), (25, _)] ?_ ⟨rfl, rfl, rfl, rfl, rfl, rfl, rfl, rfl, rfl, trivial⟩
          refine WP.next ?_
          refine WP.condT rfl ?_
          refine WP.exit ?_
          refine WP.thenE ?_
          refine WP.miss rfl ?_
          refine WP.thenE ?_
          refine WP.thenE ?_
          refine WP.hit ?_
          refine WP.leave ?_
          rw [hsw2] at hrun2 hs2 hs3
          have hs3 : ko < k1 := hs3
          exact WP.again ⟨f, ⟨m1, s1, k1⟩⟩ ⟨hok1, hk1, .inl hk1m, by simp only; omega, hrun2⟩ (by simp only; omega) ⟨rfl, rfl, rfl, trivial⟩ rfl (by (try dsimp only); repeat (first | exact Rm.chunk | exact Rm.here | exact Rm.nil0 | apply Rm.skip | apply Rm.skipS | apply PX.cons | (apply PX.done; (repeat (first | exact Leave.done | apply Leave.drop | apply Leave.dropS)); done) | apply PX.app))
        · have hsw2 : sweep most ((live (mo.map (·.2))).drop (j + 1)) (⟨m1.set i (m1[i].1, (tStep m1[i].2 s1).1), (tStep m1[i].2 s1).2, k1 + 1⟩ : LX).st = sweep most (live (mo.map (·.2))) ((mo.map (·.2), so, ko) : List Ad × CS × Int) := by rw [← hsw, LX.next_st hi]; show _ = sweep most (i :: _) (m1.map (·.2), s1, k1); rw [sweep, if_neg heq]
          have htv : (tps ms0 ++ sv)[0 + i * 1]? = some (.pointer (some ⟨m1[i].1.t, 0, none⟩)) := by rw [← htp1]; exact tps_at hi sv
          refine WP.nil ?_
          refine WP.sub [(0, _), (1, _), (5, _), (8, _), (17, _), (18, _), (19, _), (20, _), (25, _)] ?_ ⟨rfl, rfl, rfl, rfl, rfl, rfl, rfl, rfl, rfl, trivial⟩
          refine WP.next ?_
          refine WP.condF rfl ?_
          refine WP.skip ?_
          refine WP.next ?_
          refine WP.seq ?_
          refine WP.region [0, 1, 2, 3, 4, 5, 6, 7] rfl ?_
          refine WP.val rfl rfl rfl rfl (Yld.move rfl rfl) ?_
          refine WP.val rfl rfl rfl rfl (Yld.nilCheck rfl rfl) ?_
          refine WP.val rfl rfl rfl rfl (Yld.fieldAddr rfl ty_fd_89_0 rfl) ?_
          refine WP.val rfl rfl rfl rfl (Yld.load rfl ty_sc_87 rfl (by repeat (first | exact There.h | exact There.i (by assumption) | apply There.t | apply There.s)) rfl) ?_
          refine WP.val rfl rfl rfl rfl (Yld.move rfl rfl) ?_
          refine WP.val rfl rfl rfl rfl (Yld.indexAddr (i := i) rfl ty_sl_87 rfl rfl (by omega)) ?_
          refine WP.val rfl rfl rfl rfl (Yld.load rfl ty_sc_90 rfl (by repeat (first | exact There.h | exact There.i (by assumption) | apply There.t | apply There.s)) htv) ?_
          refine WP.outL (f := mach q) (l := m1) i hi (by repeat (first | exact Rm.chunk | exact Rm.here | exact Rm.nil0 | apply Rm.skip | apply Rm.skipS)) ?_
          refine WP.loud rfl rfl ?_
          refine Op.call (loom_tStepO (hlf1 _ (List.mem_map_of_mem (List.getElem_mem hi)))) rfl Try.func42 rfl rfl rfl rfl (by repeat (first | exact Take.nil | with_reducible apply Take.cons | apply Take.app | exact Rm.chunk | exact Rm.here | exact Rm.nil0 | apply Rm.skip | apply Rm.skipS | (focus (apply Take.all; (repeat (first | exact Rm.chunk | exact Rm.here | exact Rm.nil0 | apply Rm.skip | apply Rm.skipS)); done)) | apply Take.cons)) ?_
          rintro v J L1 hJ ⟨rfl, rfl, rfl⟩
          clear hJ; try simp only [List.cons_append, List.nil_append, List.append_assoc]
          refine WP.nil ?_
          refine WP.sub [(0, _), (1, _), (5, _), (8, _), (17, _), (18, _), (19, _), (20, _), (25, _)] ?_ ⟨rfl, rfl, rfl, rfl, rfl, rfl, rfl, rfl, rfl, trivial⟩
          refine WP.backL (f := mach q) (l := m1) i hi (m1[i].1, (tStep m1[i].2 s1).1) (by repeat (first | exact Take.nil | with_reducible apply Take.cons | apply Take.app | exact Rm.chunk | exact Rm.here | exact Rm.nil0 | apply Rm.skip | apply Rm.skipS | (focus (apply Take.all; (repeat (first | exact Rm.chunk | exact Rm.here | exact Rm.nil0 | apply Rm.skip | apply Rm.skipS)); done)) | apply Take.cons)) (by repeat (first | exact Rm.chunk | exact Rm.here | exact Rm.nil0 | apply Rm.skip | apply Rm.skipS)) ?_
          refine WP.next ?_
          refine WP.region [0, 1, 2] rfl ?_
          refine WP.val rfl rfl rfl rfl (Yld.move rfl rfl) ?_
          refine WP.val rfl rfl rfl rfl (Yld.add64 rfl rfl rfl (by omega)) ?_
          refine WP.val rfl rfl rfl rfl (Yld.assign rfl rfl) ?_
          refine WP.nil ?_
          refine WP.sub [(0, _), (1, _), (5, _), (8, _), (17, _), (18, _), (19, _), (20, _), (25, _)] ?_ ⟨rfl, rfl, rfl, rfl, rfl, rfl, rfl, rfl, rfl, trivial⟩
          refine WP.leave ?_
          refine WP.next ?_
          refine WP.region [0, 1] rfl ?_
          refine WP.val rfl rfl rfl rfl (Yld.add64 rfl rfl rfl (by omega)) ?_
          refine WP.val rfl rfl rfl rfl (Yld.move rfl rfl) ?_
          refine WP.nil ?_
          refine WP.sub [(0, _), (1, _), (5, _), (8, _), (17, _), (18, _), (19, _), (20, _), (25, _)] ?_ ⟨rfl, rfl, rfl, rfl, rfl, rfl, rfl, rfl, rfl, trivial⟩
          exact WP.again ⟨j + 1, ⟨m1.set i (m1[i].1, (tStep m1[i].2 s1).1), (tStep m1[i].2 s1).2, k1 + 1⟩⟩ ⟨hjl, hok1.next hi, by simp only; omega, by simp only; omega, hsw2⟩ (by simp only; omega) ⟨rfl, rfl, rfl, rfl, rfl, rfl, trivial⟩ rfl (by (try dsimp only); repeat (first | exact Rm.chunk | exact Rm.here | exact Rm.nil0 | apply Rm.skip | apply Rm.skipS | apply PX.cons | (apply PX.done; (repeat (first | exact Leave.done | apply Leave.drop | apply Leave.dropS)); done) | apply PX.app))
      · simp only at hj hok1 hk1 hk1m hsw
        have hjl : j = (live (mo.map (·.2))).length := by first | omega | (simp only at hlt2; omega)
        have hsw2 : sweep most (live (mo.map (·.2))) ((mo.map (·.2), so, ko) : List Ad × CS × Int) = (⟨m1, s1, k1⟩ : LX).st := by rw [← hsw, hjl, List.drop_length]; rfl
        refine WP.nil ?_
        refine WP.next ?_
        refine WP.seq ?_
        refine WP.condF rfl ?_
        refine WP.exit ?_
        refine WP.thenE ?_
        refine WP.thenE ?_
        refine WP.hit ?_
        refine WP.leave ?_
        rw [hsw2] at hrun2 hs2 hs3
        have hs3 : ko < k1 := hs3
        exact WP.again ⟨f, ⟨m1, s1, k1⟩⟩ ⟨hok1, hk1, .inl hk1m, by simp only; omega, hrun2⟩ (by simp only; omega) ⟨rfl, rfl, rfl, trivial⟩ rfl (by (try dsimp only); repeat (first | exact Rm.chunk | exact Rm.here | exact Rm.nil0 | apply Rm.skip | apply Rm.skipS | apply PX.cons | (apply PX.done; (repeat (first | exact Leave.done | apply Leave.drop | apply Leave.dropS)); done) | apply PX.app))
  · simp only at hok hk0 hkm hkf hrun hlt
    obtain ⟨htp, hln, hlf⟩ := id hok
    simp only at htp hln hlf
    have hfin : run (ms0.map (·.2)) s most = (mo.map (·.2), so, ko) := by rw [← hrun]; exact runL_stop (.inl hlt)
    refine WP.nil ?_
    refine WP.sub [(0, _), (1, _), (5, _), (11, _)] ?_ ⟨rfl, rfl, rfl, rfl, trivial⟩
    refine WP.next ?_
    refine WP.condF rfl ?_
    refine WP.exit ?_
    refine WP.thenE ?_
    refine WP.thenE ?_
    refine WP.hit ?_
    refine WP.next ?_
    refine WP.seq ?_
    refine WP.region [0, 1] rfl ?_
    refine WP.val rfl rfl rfl rfl (Yld.move rfl rfl) ?_
    refine WP.val rfl rfl rfl rfl (Yld.assign rfl rfl) ?_
    refine WP.nil ?_
    refine WP.sub [(0, _), (1, _), (4, _), (5, _), (11, _)] ?_ ⟨rfl, rfl, rfl, rfl, rfl, trivial⟩
    refine WP.next ?_
    refine WP.ret ?_
    refine WP.fin .ret (.inr rfl) (res1 rfl rfl) ((l, row 89 _) :: (Lv ++ (mo.flatMap (mach q) ++ csCh q c so))) (by repeat (first | exact Take.nil | with_reducible apply Take.cons | apply Take.app | exact Rm.chunk | exact Rm.here | exact Rm.nil0 | apply Rm.skip | apply Rm.skipS | (focus (apply Take.all; (repeat (first | exact Rm.chunk | exact Rm.here | exact Rm.nil0 | apply Rm.skip | apply Rm.skipS)); done)) | apply Take.cons)) (by repeat (first | exact Leave.done | apply Leave.drop | apply Leave.dropS)) (Imm.le_refl _) ?_
    rw [hfin]
    exact ⟨rfl, rfl, (l, row 89 [.slice As ms0.length cs_]) :: (Lv ++ mo.flatMap (mach q)), by simp, .mk rfl (by rw [htp, hln]; exact ow) hlf⟩


end Go.Hp
