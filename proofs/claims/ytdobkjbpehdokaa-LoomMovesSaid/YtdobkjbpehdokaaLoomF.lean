import Derived.Test.YtdobkjbpehdokaaLoomE
set_option linter.unusedVariables false
set_option linter.unusedSimpArgs false
namespace Go.Hp
open Go Go.Proofs
theorem loom_Live {I : Imm} {l q : Nat} {xs : List Ad} {L : Chunks} (hd : IsLoom l q xs L) (hn : xs.length ≤ 1048576) : Spec Try.prog 17 [.pointer (some ⟨l, 0, none⟩)] I L (fun v J L' => I = J ∧ ∃ Lo, L' = Lo ++ L ∧ Own 3 1 v (ints (live xs)) (live xs).length Lo) := by
  cases hd with
  | @mk vs Lv ms e ow hl =>
  subst e
  obtain ⟨As, cs_, rfl, hcs⟩ := ow.slice
  have hn' : ms.length ≤ 1048576 := by simpa using hn
  refine Spec.of Try.func17 rfl Try.ntmps17 (Nat.le_of_ble_eq_true rfl) (fun F => ?_)
  try simp only [List.cons_append, List.nil_append, List.append_assoc]
  dsimp only [argsEnv]
  refine WP.seq ?_
  refine WP.region [0] rfl ?_
  refine WP.val rfl rfl rfl rfl (Yld.assign rfl rfl) ?_
  refine WP.nil ?_
  refine WP.next ?_
  refine WP.seq ?_
  refine WP.region [0] rfl ?_
  refine WP.val rfl rfl rfl rfl (Yld.assign rfl rfl) ?_
  refine WP.nil ?_
  refine WP.next ?_
  refine WP.seq ?_
  refine WP.seq ?_
  refine WP.region [0, 1, 2, 3, 4, 5] rfl ?_
  refine WP.val rfl rfl rfl rfl (Yld.move rfl rfl) ?_
  refine WP.val rfl rfl rfl rfl (Yld.nilCheck rfl rfl) ?_
  refine WP.val rfl rfl rfl rfl (Yld.fieldAddr rfl ty_fd_89_0 rfl) ?_
  refine WP.val rfl rfl rfl rfl (Yld.load rfl ty_sc_87 rfl (by repeat (first | exact There.h | exact There.i (by assumption) | apply There.t | apply There.s)) rfl) ?_
  refine WP.val rfl rfl rfl rfl (Yld.len rfl ty_sl_87 rfl) ?_
  refine WP.val rfl rfl rfl rfl (Yld.move rfl rfl) ?_
  refine WP.nil ?_
  refine WP.sub [(0, _), (2, _), (3, _), (9, _), (10, _), (11, _)] ?_ ⟨rfl, rfl, rfl, rfl, rfl, rfl, trivial⟩
  refine WP.next ?_
  refine WP.block ?_
  refine WP.loop (X := Nat × Value × Chunks) (fun t : Nat × Value × Chunks => [(0, .pointer (some ⟨l, 0, none⟩)), (3, t.2.1), (9, .slice As ms.length cs_), (10, .int .i64 (ms.length : Int)), (11, .int .i64 (t.1 : Int))]) (fun _ => I) (fun t => (l, row 89 [.slice As ms.length cs_]) :: (Lv ++ (ms.flatMap (mach q) ++ (t.2.2 ++ F)))) (fun t => t.1 ≤ ms.length ∧ Own 3 1 t.2.1 (ints (liveU (ms.map (·.2)) t.1)) (liveU (ms.map (·.2)) t.1).length t.2.2) (fun t => ms.length - t.1) ⟨0, .slice none 0 0, []⟩ ⟨Nat.zero_le _, .none0⟩ ⟨rfl, rfl, rfl, rfl, rfl, trivial⟩ rfl (by (try dsimp only); repeat (first | exact Rm.chunk | exact Rm.here | exact Rm.nil0 | apply Rm.skip | apply Rm.skipS | apply PX.cons | (apply PX.done; (repeat (first | exact Leave.done | apply Leave.drop | apply Leave.dropS)); done) | apply PX.app)) ?_
  rintro ⟨i, vo, Lo⟩ ⟨hle, how⟩
  try dsimp only
  try simp only [List.cons_append, List.nil_append, List.append_assoc]
  refine WP.seq ?_
  refine WP.region [0] rfl ?_
  refine WP.split rfl rfl rfl rfl (Yld.lss rfl rfl rfl) (fun hlt => ?_) (fun hlt => ?_)
  · simp only at hle how
    have hi : i < ms.length := by first | omega | (simp only at hlt; omega)
    have hi2 : i < (ms.map (·.2)).length := by simpa using hi
    have hsu := liveU_succ hi2
    rw [List.getElem_map] at hsu
    have hll : (liveU (ms.map (·.2)) i).length ≤ i := Nat.le_trans (List.length_filter_le _ _) (by simp)
    obtain ⟨bv, cv, sv, hvv, rfl, hqv, hrv⟩ := ow.get (by omega)
    injection hvv with hA _ hcl
    subst hA hcl
    try simp only [List.cons_append, List.nil_append, List.append_assoc]
    obtain ⟨Ao, co, rfl, hco⟩ := how.slice
    refine WP.nil ?_
    refine WP.next ?_
    refine WP.seq ?_
    refine WP.condT rfl ?_
    refine WP.skip ?_
    refine WP.next ?_
    refine WP.seq ?_
    refine WP.block ?_
    refine WP.seq ?_
    refine WP.region [0, 1, 2, 3, 4] rfl ?_
    refine WP.val rfl rfl rfl rfl (Yld.move rfl rfl) ?_
    refine WP.val rfl rfl rfl rfl (Yld.indexAddr (i := i) rfl ty_sl_87 rfl rfl hi) ?_
    refine WP.val rfl rfl rfl rfl (Yld.load rfl ty_sc_90 rfl (by repeat (first | exact There.h | exact There.i (by assumption) | apply There.t | apply There.s)) (tps_at hi sv)) ?_
    refine WP.val rfl rfl rfl rfl (Yld.assign rfl rfl) ?_
    refine WP.val rfl rfl rfl rfl (Yld.assign rfl rfl) ?_
    refine WP.nil ?_
    refine WP.sub [(0, _), (3, _), (4, _), (5, _), (9, _), (10, _), (11, _), (12, _)] ?_ ⟨rfl, rfl, rfl, rfl, rfl, rfl, rfl, rfl, trivial⟩
    refine WP.next ?_
    refine WP.seq ?_
    refine WP.outL (f := mach q) (l := ms) i hi (by repeat (first | exact Rm.chunk | exact Rm.here | exact Rm.nil0 | apply Rm.skip | apply Rm.skipS)) ?_
    simp only [mach, thCh, List.cons_append, List.nil_append, List.append_assoc]
    refine WP.region [0, 1, 2, 3, 4] rfl ?_
    refine WP.val rfl rfl rfl rfl (Yld.move rfl rfl) ?_
    refine WP.val rfl rfl rfl rfl (Yld.nilCheck rfl rfl) ?_
    refine WP.val rfl rfl rfl rfl (Yld.fieldAddr rfl ty_fd_92_1 rfl) ?_
    refine WP.splitB rfl rfl rfl rfl (Yld.load rfl ty_sc_4 rfl (by repeat (first | exact There.h | exact There.i (by assumption) | apply There.t | apply There.s)) rfl) (fun hb => ?_) (fun hb => ?_)
    · refine WP.val rfl rfl rfl rfl (Yld.not rfl rfl) ?_
      refine WP.nil ?_
      refine WP.sub [(0, _), (3, _), (4, _), (5, _), (9, _), (10, _), (11, _), (12, _), (20, _)] ?_ ⟨rfl, rfl, rfl, rfl, rfl, rfl, rfl, rfl, rfl, trivial⟩
      refine WP.inL (f := mach q) (l := ms) i hi (by repeat (first | exact Take.nil | with_reducible apply Take.cons | apply Take.app | exact Rm.chunk | exact Rm.here | exact Rm.nil0 | apply Rm.skip | apply Rm.skipS | (focus (apply Take.all; (repeat (first | exact Rm.chunk | exact Rm.here | exact Rm.nil0 | apply Rm.skip | apply Rm.skipS)); done)) | apply Take.cons)) (by repeat (first | exact Rm.chunk | exact Rm.here | exact Rm.nil0 | apply Rm.skip | apply Rm.skipS)) ?_
      refine WP.next ?_
      refine WP.condF rfl ?_
      refine WP.skip ?_
      refine WP.leave ?_
      refine WP.next ?_
      refine WP.region [0, 1] rfl ?_
      refine WP.val rfl rfl rfl rfl (Yld.add64 rfl rfl rfl (by omega)) ?_
      refine WP.val rfl rfl rfl rfl (Yld.move rfl rfl) ?_
      refine WP.nil ?_
      refine WP.sub [(0, _), (3, _), (4, _), (5, _), (9, _), (10, _), (11, _), (12, _), (20, _)] ?_ ⟨rfl, rfl, rfl, rfl, rfl, rfl, rfl, rfl, rfl, trivial⟩
      exact WP.again ⟨i + 1, .slice Ao (liveU (ms.map (·.2)) i).length co, Lo⟩ ⟨hi, (by rw [show liveU (ms.map (·.2)) (i + 1) = liveU (ms.map (·.2)) i by rw [hsu, if_pos hb, List.append_nil]]; exact how)⟩ (by simp only; omega) ⟨rfl, rfl, rfl, rfl, rfl, trivial⟩ rfl (by (try dsimp only); repeat (first | exact Rm.chunk | exact Rm.here | exact Rm.nil0 | apply Rm.skip | apply Rm.skipS | apply PX.cons | (apply PX.done; (repeat (first | exact Leave.done | apply Leave.drop | apply Leave.dropS)); done) | apply PX.app))
    · refine WP.val rfl rfl rfl rfl (Yld.not rfl rfl) ?_
      refine WP.nil ?_
      refine WP.sub [(0, _), (3, _), (4, _), (5, _), (9, _), (10, _), (11, _), (12, _), (20, _)] ?_ ⟨rfl, rfl, rfl, rfl, rfl, rfl, rfl, rfl, rfl, trivial⟩
      refine WP.inL (f := mach q) (l := ms) i hi (by repeat (first | exact Take.nil | with_reducible apply Take.cons | apply Take.app | exact Rm.chunk | exact Rm.here | exact Rm.nil0 | apply Rm.skip | apply Rm.skipS | (focus (apply Take.all; (repeat (first | exact Rm.chunk | exact Rm.here | exact Rm.nil0 | apply Rm.skip | apply Rm.skipS)); done)) | apply Take.cons)) (by repeat (first | exact Rm.chunk | exact Rm.here | exact Rm.nil0 | apply Rm.skip | apply Rm.skipS)) ?_
      refine WP.next ?_
      refine WP.condT rfl ?_
      refine WP.region [0, 1, 2, 3, 4] rfl ?_
      refine WP.val rfl rfl rfl rfl (Yld.move rfl rfl) ?_
      refine WP.val rfl rfl rfl rfl (Yld.move rfl rfl) ?_
      refine WP.loud rfl rfl ?_
      refine Op.buildSlice rfl ty_sl_23 ty_el2_23 rfl rfl rfl rfl (vs := [_]) rfl (segs := [(0, [_])]) (cs := [.int .i64 (i : Int)]) rfl rfl (by repeat (first | exact SetSeg.nil | apply SetSeg.one | exact SetAt.zero | apply SetAt.succ)) (fun bz => ?_)
      refine WP.loud rfl rfl ?_
      refine Op.append rfl ty_sl_23 ty_el_23 rfl rfl rfl rfl rfl how (SlRd.lit (by repeat (first | exact There.h | exact There.i (by assumption) | apply There.t | apply There.s)) rfl (Nat.le_refl _)) (by repeat (first | exact Take.nil | with_reducible apply Take.cons | apply Take.app | exact Rm.chunk | exact Rm.here | exact Rm.nil0 | apply Rm.skip | apply Rm.skipS | (focus (apply Take.all; (repeat (first | exact Rm.chunk | exact Rm.here | exact Rm.nil0 | apply Rm.skip | apply Rm.skipS)); done)) | apply Take.cons)) rfl (by omega) (by omega) (fun vq Lq hq => ?_)
      have hlv : liveU (ms.map (·.2)) (i + 1) = liveU (ms.map (·.2)) i ++ [i] := by rw [hsu, if_neg (by rw [hb]; decide)]
      have hq : Own 3 1 vq (ints (liveU (ms.map (·.2)) (i + 1))) (liveU (ms.map (·.2)) (i + 1)).length Lq := by rw [hlv]; simpa [ints] using hq
      try simp only [List.cons_append, List.nil_append, List.append_assoc]
      refine WP.val rfl rfl rfl rfl (Yld.assign rfl rfl) ?_
      refine WP.nil ?_
      refine WP.sub [(0, _), (3, _), (4, _), (5, _), (9, _), (10, _), (11, _), (12, _), (20, _)] ?_ ⟨rfl, rfl, rfl, rfl, rfl, rfl, rfl, rfl, rfl, trivial⟩
      refine WP.leave ?_
      refine WP.next ?_
      refine WP.region [0, 1] rfl ?_
      refine WP.val rfl rfl rfl rfl (Yld.add64 rfl rfl rfl (by omega)) ?_
      refine WP.val rfl rfl rfl rfl (Yld.move rfl rfl) ?_
      refine WP.nil ?_
      refine WP.sub [(0, _), (3, _), (4, _), (5, _), (9, _), (10, _), (11, _), (12, _), (20, _)] ?_ ⟨rfl, rfl, rfl, rfl, rfl, rfl, rfl, rfl, rfl, trivial⟩
      exact WP.again ⟨i + 1, vq, Lq⟩ ⟨hi, hq⟩ (by simp only; omega) ⟨rfl, rfl, rfl, rfl, rfl, trivial⟩ rfl (by (try dsimp only); repeat (first | exact Rm.chunk | exact Rm.here | exact Rm.nil0 | apply Rm.skip | apply Rm.skipS | apply PX.cons | (apply PX.done; (repeat (first | exact Leave.done | apply Leave.drop | apply Leave.dropS)); done) | apply PX.app))
  · simp only at hle how
    obtain rfl : i = ms.length := by first | omega | (simp only at hlt; omega)
    have how : Own 3 1 vo (ints (live (ms.map (·.2)))) (live (ms.map (·.2))).length Lo := by unfold live; rw [List.length_map]; exact how
    refine WP.nil ?_
    refine WP.next ?_
    refine WP.seq ?_
    refine WP.condF rfl ?_
    refine WP.exit ?_
    refine WP.thenE ?_
    refine WP.thenE ?_
    refine WP.hit ?_
    refine WP.next ?_
    refine WP.seq ?_
    refine WP.region [0, 1] rfl ?_
    refine WP.val rfl rfl rfl rfl (Yld.move rfl rfl) ?_
    refine WP.val rfl rfl rfl rfl (Yld.assign rfl rfl) ?_
    refine WP.nil ?_
    refine WP.sub [(0, _), (2, _), (3, _), (9, _), (10, _), (11, _), (12, _)] ?_ ⟨rfl, rfl, rfl, rfl, rfl, rfl, rfl, trivial⟩
    refine WP.next ?_
    refine WP.ret ?_
    refine WP.fin .ret (.inr rfl) (res1 rfl rfl) (Lo ++ ((l, row 89 _) :: (Lv ++ ms.flatMap (mach q)))) (by repeat (first | exact Take.nil | with_reducible apply Take.cons | apply Take.app | exact Rm.chunk | exact Rm.here | exact Rm.nil0 | apply Rm.skip | apply Rm.skipS | (focus (apply Take.all; (repeat (first | exact Rm.chunk | exact Rm.here | exact Rm.nil0 | apply Rm.skip | apply Rm.skipS)); done)) | apply Take.cons)) (by repeat (first | exact Leave.done | apply Leave.drop | apply Leave.dropS)) (Imm.le_refl _) ?_
    exact ⟨rfl, Lo, rfl, how⟩


end Go.Hp
