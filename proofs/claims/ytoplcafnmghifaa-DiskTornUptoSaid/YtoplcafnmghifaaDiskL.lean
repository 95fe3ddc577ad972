import Derived.Test.YtoplcafnmghifaaDiskK
set_option linter.unusedVariables false
set_option linter.unusedSimpArgs false
namespace Go.Hp
open Go Go.Proofs
set_option maxHeartbeats 1000000 in
theorem disk_DiskTorn {I : Imm} {o1 o2 : List DOp} {st : List Int} {v1 v2 vst : Value} (hl1 : Slc I 5 (RDop I) v1 o1) (hl2 : Slc I 5 (RDop I) v2 o2) (hst : SlRd (Im I) vst st.length 1 (st.map (Value.int .i64))) (hn1 : o1.length ≤ 1048576) (hn2 : o2.length ≤ 1048576) (hn3 : st.length ≤ 1048576) (hb_o1 : ∀ o ∈ o1, o.b.length ≤ 1048576) (hb_o2 : ∀ o ∈ o2, o.b.length ≤ 1048576) : Spec Try.prog 6 [v1, v2, vst] I [] (fun v' J L => v' = .bool true ∧ I = J ∧ L = []) := by
  obtain ⟨A1, cap1, rfl, hcap1, ho1⟩ := hl1
  obtain ⟨A2, cap2, rfl, hcap2, ho2⟩ := hl2
  refine Spec.of Try.func6 rfl Try.ntmps6 (Nat.le_of_ble_eq_true rfl) (fun F => ?_)
  try simp only [List.cons_append, List.nil_append, List.append_assoc]
  dsimp only [argsEnv]
  refine WP.seq ?_
  refine WP.region [0] rfl ?_
  refine WP.val rfl rfl rfl rfl (Yld.assign rfl rfl) ?_
  refine WP.nil ?_
  refine WP.next ?_
  refine WP.seq ?_
  refine WP.region [0, 1] rfl ?_
  refine WP.loud rfl rfl ?_
  refine Op.call (disk_awake _) rfl Try.func19 rfl rfl rfl rfl (by repeat (first | exact Take.nil | apply Take.cons | apply Take.app | exact Rm.chunk | exact Rm.here | apply Rm.skip | apply Rm.skipS | apply Take.all)) ?_
  rintro v J L1 hJ ⟨rfl, rfl, rfl⟩
  clear hJ; try simp only [List.cons_append, List.nil_append, List.append_assoc]
  refine WP.val rfl rfl rfl rfl (Yld.assign rfl rfl) ?_
  refine WP.nil ?_
  refine WP.sub [(0, _), (1, _), (2, _), (6, _), (7, _)] ?_ ⟨rfl, rfl, rfl, rfl, rfl, trivial⟩
  refine WP.next ?_
  refine WP.seq ?_
  refine WP.region [0, 1, 2, 3, 4, 5] rfl ?_
  refine WP.loud rfl rfl ?_
  refine Op.call (disk_New (n := 8) (by decide) (by decide)) rfl Try.func20 rfl rfl rfl rfl (by repeat (first | exact Take.nil | apply Take.cons | apply Take.app | exact Rm.chunk | exact Rm.here | apply Rm.skip | apply Rm.skipS | apply Take.all)) ?_
  rintro v J Ld hJ ⟨rfl, d, rfl, hd⟩
  clear hJ; try simp only [List.cons_append, List.nil_append, List.append_assoc]
  refine WP.val rfl rfl rfl rfl (Yld.move rfl rfl) ?_
  refine WP.val rfl rfl rfl rfl (Yld.extract rfl rfl rfl) ?_
  refine WP.val rfl rfl rfl rfl (Yld.extract rfl rfl rfl) ?_
  refine WP.val rfl rfl rfl rfl (Yld.assign rfl rfl) ?_
  refine WP.val rfl rfl rfl rfl (Yld.assign rfl rfl) ?_
  refine WP.nil ?_
  refine WP.sub [(0, _), (1, _), (2, _), (6, _), (7, _), (8, _), (9, _)] ?_ ⟨rfl, rfl, rfl, rfl, rfl, rfl, rfl, trivial⟩
  refine WP.next ?_
  refine WP.seq ?_
  refine WP.seq ?_
  refine WP.region [0, 1, 2, 3, 4, 5, 6, 7, 8, 9] rfl ?_
  refine WP.val rfl rfl rfl rfl (Yld.move rfl rfl) ?_
  refine WP.val rfl rfl rfl rfl (Yld.not rfl rfl) ?_
  refine WP.val rfl rfl rfl rfl (Yld.move rfl rfl) ?_
  refine WP.valG rfl rfl rfl rfl rfl rfl rfl (Yld.move rfl rfl) ?_
  refine WP.valG rfl rfl rfl rfl rfl rfl rfl (Yld.eqlNil rfl ty_pt_46 rfl rfl) ?_
  refine WP.val rfl rfl rfl rfl (Yld.pickF rfl rfl rfl) ?_
  refine WP.val rfl rfl rfl rfl (Yld.move rfl rfl) ?_
  refine WP.valG rfl rfl rfl rfl rfl rfl rfl (Yld.move rfl rfl) ?_
  refine WP.valG rfl rfl rfl rfl rfl rfl rfl (Yld.neq rfl rfl rfl false (decide_eq_false (by decide))) ?_
  refine WP.val rfl rfl rfl rfl (Yld.pickF rfl rfl rfl) ?_
  refine WP.nil ?_
  refine WP.sub [(0, _), (1, _), (2, _), (6, _), (7, _), (8, _), (9, _), (43, _)] ?_ ⟨rfl, rfl, rfl, rfl, rfl, rfl, rfl, rfl, trivial⟩
  refine WP.next ?_
  refine WP.condF rfl ?_
  refine WP.skip ?_
  refine WP.next ?_
  refine WP.seq ?_
  refine WP.seq ?_
  refine WP.region [0] rfl ?_
  refine WP.val rfl rfl rfl rfl (Yld.assign rfl rfl) ?_
  refine WP.nil ?_
  refine WP.next ?_
  refine WP.block ?_
  refine WP.loop (X := TX0) (fun t : TX0 => [(0, .slice A1 o1.length cap1), (1, .slice A2 o2.length cap2), (2, vst), (6, .bool false), (8, .pointer (some ⟨d, 0, none⟩)), (10, .int .i64 (t.i : Int))]) (fun _ => I) (fun t : TX0 => t.Ld ++ F) (fun t => t.ok d o1.length) (fun t => o1.length - t.i) ⟨0, Dk.new 8, Ld⟩ ⟨Nat.zero_le _, hd, rfl, rfl, Nat.le_refl _⟩ ⟨rfl, rfl, rfl, rfl, rfl, rfl, trivial⟩ rfl (by (try dsimp only); repeat (first | exact Rm.chunk | exact Rm.here | apply Rm.skip | apply Rm.skipS | apply PX.cons | (apply PX.done; (repeat (first | exact Leave.done | apply Leave.drop | apply Leave.dropS)); done) | apply PX.app)) ?_
  rintro ⟨i, x, Ld⟩ ⟨hle, hd, hoff, hleft, hwl⟩
  try dsimp only
  try simp only [List.cons_append, List.nil_append, List.append_assoc]
  refine WP.seq ?_
  refine WP.seq ?_
  refine WP.region [0, 1, 2, 3] rfl ?_
  refine WP.val rfl rfl rfl rfl (Yld.move rfl rfl) ?_
  refine WP.val rfl rfl rfl rfl (Yld.move rfl rfl) ?_
  refine WP.val rfl rfl rfl rfl (Yld.len rfl ty_sl_44 rfl) ?_
  refine WP.split rfl rfl rfl rfl (Yld.lss rfl rfl rfl) (fun hlt => ?_) (fun hlt => ?_)
  · simp only at hle hd hoff hleft hwl
    have hi : i < o1.length := by first | omega | (simp only at hlt; omega)
    obtain ⟨b, kk, arr, T, fr, rfl, hbl, hel⟩ := ho1.resolve_left (by rintro rfl; simp at hi)
    obtain ⟨hl5, vb, vs, hR, hvb, hvs, hmany⟩ := hel i _ (List.getElem?_eq_getElem hi)
    have e0 := take_cells hR 0 _ rfl (by decide)
    have e1 := take_cells hR 1 _ rfl (by decide)
    have e2 := take_cells hR 2 _ rfl (by decide)
    have e3 := take_cells hR 3 _ rfl (by decide)
    have e4 := take_cells hR 4 _ rfl (by decide)
    rw [Array.getElem?_toList] at e0 e1 e2 e3 e4
    have hbs := hb_o1 _ (List.getElem_mem hi)
    refine WP.nil ?_
    refine WP.sub [(0, _), (1, _), (2, _), (6, _), (8, _), (10, _), (47, _)] ?_ ⟨rfl, rfl, rfl, rfl, rfl, rfl, rfl, trivial⟩
    refine WP.next ?_
    refine WP.condT rfl ?_
    refine WP.skip ?_
    refine WP.next ?_
    refine WP.seq ?_
    refine WP.block ?_
    refine WQ.start Trymixed 11 (by kernel_rfl) _ rfl [11] rfl ?_
    refine WQ.val rfl rfl rfl (Yld.move rfl rfl) ?_
    refine WQ.val rfl rfl rfl (Yld.move rfl rfl) ?_
    refine WQ.val rfl rfl rfl (Yld.move rfl rfl) ?_
    refine WQ.val rfl rfl rfl (Yld.indexAddr rfl ty_sl_44 rfl rfl (by omega)) ?_
    refine WQ.val rfl rfl rfl (Yld.fieldAddr rfl ty_fd_53_1 rfl) ?_
    refine WQ.val rfl rfl rfl (Yld.loadC rfl ty_sc_3 rfl (There.i hbl) e1) ?_
    refine WQ.val rfl rfl rfl (Yld.move rfl rfl) ?_
    refine WQ.val rfl rfl rfl (Yld.move rfl rfl) ?_
    refine WQ.val rfl rfl rfl (Yld.indexAddr rfl ty_sl_44 rfl rfl (by omega)) ?_
    refine WQ.val rfl rfl rfl (Yld.fieldAddr rfl ty_fd_53_3 rfl) ?_
    refine WQ.val rfl rfl rfl (Yld.loadC rfl ty_sc_51 rfl (There.i hbl) e3) ?_
    refine WQ.nil ?_
    refine WP.loud rfl rfl ?_
    refine Op.call (disk_Write hd hvb (by omega) (by omega)) rfl Try.func21 rfl rfl rfl rfl (by repeat (first | exact Take.nil | apply Take.cons | apply Take.app | exact Rm.chunk | exact Rm.here | apply Rm.skip | apply Rm.skipS | apply Take.all)) ?_
    rintro v J Ld' hJ ⟨rfl, rfl, hd'⟩
    clear hJ; try simp only [List.cons_append, List.nil_append, List.append_assoc]
    refine WP.nil ?_
    refine WP.sub [(0, _), (1, _), (2, _), (6, _), (8, _), (10, _), (47, _)] ?_ ⟨rfl, rfl, rfl, rfl, rfl, rfl, rfl, trivial⟩
    refine WP.leave ?_
    refine WP.next ?_
    refine WP.region [0, 1, 2] rfl ?_
    refine WP.val rfl rfl rfl rfl (Yld.move rfl rfl) ?_
    refine WP.val rfl rfl rfl rfl (Yld.add64 rfl rfl rfl (by omega)) ?_
    refine WP.val rfl rfl rfl rfl (Yld.assign rfl rfl) ?_
    refine WP.nil ?_
    refine WP.sub [(0, _), (1, _), (2, _), (6, _), (8, _), (10, _), (47, _)] ?_ ⟨rfl, rfl, rfl, rfl, rfl, rfl, rfl, trivial⟩
    exact WP.again ⟨i + 1, (x.write 8 o1[i].at_ o1[i].b).1, Ld'⟩ ⟨hi, hd', (write_free hoff hleft).1, (write_free hoff hleft).2, by have := write_waits_n x 8 o1[i].at_ o1[i].b; show (x.write 8 o1[i].at_ o1[i].b).1.waits.length ≤ 8 * (i + 1); omega⟩ (by simp only; omega) ⟨rfl, rfl, rfl, rfl, rfl, rfl, trivial⟩ rfl (by (try dsimp only); repeat (first | exact Rm.chunk | exact Rm.here | apply Rm.skip | apply Rm.skipS | apply PX.cons | (apply PX.done; (repeat (first | exact Leave.done | apply Leave.drop | apply Leave.dropS)); done) | apply PX.app))
  · simp only at hle hd hoff hleft hwl
    obtain ⟨htw, hw0⟩ := sync_TW hoff hleft
    have hbl := hd.isok.ln
    refine WP.nil ?_
    refine WP.sub [(0, _), (1, _), (2, _), (6, _), (8, _), (10, _), (47, _)] ?_ ⟨rfl, rfl, rfl, rfl, rfl, rfl, rfl, trivial⟩
    refine WP.next ?_
    refine WP.condF rfl ?_
    refine WP.exit ?_
    refine WP.thenE ?_
    refine WP.thenE ?_
    refine WP.hit ?_
    refine WP.next ?_
    refine WP.seq ?_
    refine WP.region [0, 1, 2] rfl ?_
    refine WP.val rfl rfl rfl rfl (Yld.move rfl rfl) ?_
    refine WP.loud rfl rfl ?_
    refine Op.call (disk_Sync hd) rfl Try.func22 rfl rfl rfl rfl (by repeat (first | exact Take.nil | apply Take.cons | apply Take.app | exact Rm.chunk | exact Rm.here | apply Rm.skip | apply Rm.skipS | apply Take.all)) ?_
    rintro v J Ld hJ ⟨rfl, rfl, hd⟩
    clear hJ; try simp only [List.cons_append, List.nil_append, List.append_assoc]
    rw [hoff, if_neg Bool.false_ne_true]
    have hsn : x.sync.now = x.now := by simp [Dk.sync, hoff]
    have hsr := read_all htw.off hd.isok.ln
    rw [hsn] at hsr
    generalize hx1 : x.sync = x1 at hd htw hw0 hsn hsr
    generalize hbase : x.now = base at htw hsr hsn hbl
    refine WP.val rfl rfl rfl rfl (Yld.assign rfl rfl) ?_
    refine WP.nil ?_
    refine WP.sub [(0, _), (1, _), (2, _), (6, _), (8, _), (10, _), (11, _), (47, _)] ?_ ⟨rfl, rfl, rfl, rfl, rfl, rfl, rfl, rfl, trivial⟩
    refine WP.next ?_
    refine WP.seq ?_
    refine WP.region [0, 1, 2, 3, 4, 5, 6] rfl ?_
    refine WP.val rfl rfl rfl rfl (Yld.move rfl rfl) ?_
    refine WP.loud rfl rfl ?_
    refine Op.call (disk_Read hd) rfl Try.func23 rfl rfl rfl rfl (by repeat (first | exact Take.nil | apply Take.cons | apply Take.app | exact Rm.chunk | exact Rm.here | apply Rm.skip | apply Rm.skipS | apply Take.all)) ?_
    rintro v J L1 hJ ⟨rfl, v12, L12, rfl, ho12, rfl⟩
    clear hJ; try simp only [List.cons_append, List.nil_append, List.append_assoc]
    rw [hsr] at ho12 ⊢
    try dsimp only at ho12 ⊢
    try simp only [List.cons_append, List.nil_append, List.append_assoc]
    refine WP.val rfl rfl rfl rfl (Yld.move rfl rfl) ?_
    refine WP.val rfl rfl rfl rfl (Yld.extract rfl rfl rfl) ?_
    refine WP.val rfl rfl rfl rfl (Yld.extract rfl rfl rfl) ?_
    refine WP.val rfl rfl rfl rfl (Yld.assign rfl rfl) ?_
    refine WP.val rfl rfl rfl rfl (Yld.assign rfl rfl) ?_
    refine WP.nil ?_
    refine WP.sub [(0, _), (1, _), (2, _), (6, _), (8, _), (10, _), (11, _), (12, _), (13, _), (47, _)] ?_ ⟨rfl, rfl, rfl, rfl, rfl, rfl, rfl, rfl, rfl, rfl, trivial⟩
    refine WP.next ?_
    refine WP.seq ?_
    refine WP.region [0] rfl ?_
    refine WP.val rfl rfl rfl rfl (Yld.assign rfl rfl) ?_
    refine WP.nil ?_
    refine WP.next ?_
    refine WP.seq ?_
    refine WP.seq ?_
    refine WP.region [0] rfl ?_
    refine WP.val rfl rfl rfl rfl (Yld.assign rfl rfl) ?_
    refine WP.nil ?_
    refine WP.next ?_
    refine WP.block ?_
    refine WP.loop (X := TX) (fun t : TX => [(1, .slice A2 o2.length cap2), (2, vst), (6, .bool false), (8, .pointer (some ⟨d, 0, none⟩)), (11, .int .i64 0), (12, v12), (13, .int .i64 0), (14, t.vk), (15, .int .i64 (t.i : Int))]) (fun _ => I) (fun t : TX => t.Ld ++ (t.Lk ++ (L12 ++ F))) (fun t => t.ok I base d o2.length) (fun t => o2.length - t.i) ⟨0, x1, [], .slice none 0 0, Ld, []⟩ ⟨Nat.zero_le _, hd, htw, .none0, Nat.le_refl _, by simp only; omega, by simp⟩ ⟨rfl, rfl, rfl, rfl, rfl, rfl, rfl, rfl, rfl, trivial⟩ rfl (by (try dsimp only); repeat (first | exact Rm.chunk | exact Rm.here | apply Rm.skip | apply Rm.skipS | apply PX.cons | (apply PX.done; (repeat (first | exact Leave.done | apply Leave.drop | apply Leave.dropS)); done) | apply PX.app)) ?_
    rintro ⟨i, x, ks, vk, Ld, Lk⟩ ⟨hle, hd, htw, how, hkl, hwl, hrd⟩
    try dsimp only
    try simp only [List.cons_append, List.nil_append, List.append_assoc]
    refine WP.seq ?_
    refine WP.seq ?_
    refine WP.region [0, 1, 2, 3] rfl ?_
    refine WP.val rfl rfl rfl rfl (Yld.move rfl rfl) ?_
    refine WP.val rfl rfl rfl rfl (Yld.move rfl rfl) ?_
    refine WP.val rfl rfl rfl rfl (Yld.len rfl ty_sl_44 rfl) ?_
    refine WP.split rfl rfl rfl rfl (Yld.lss rfl rfl rfl) (fun hlt => ?_) (fun hlt => ?_)
    · simp only at hle hd htw how hkl hwl hrd
      have hi : i < o2.length := by first | omega | (simp only at hlt; omega)
      obtain ⟨b, kk, arr, T, fr, rfl, hbl, hel⟩ := ho2.resolve_left (by rintro rfl; simp at hi)
      obtain ⟨hl5, vb, vs, hR, hvb, hvs, hmany⟩ := hel i _ (List.getElem?_eq_getElem hi)
      have e0 := take_cells hR 0 _ rfl (by decide)
      have e1 := take_cells hR 1 _ rfl (by decide)
      have e2 := take_cells hR 2 _ rfl (by decide)
      have e3 := take_cells hR 3 _ rfl (by decide)
      have e4 := take_cells hR 4 _ rfl (by decide)
      rw [Array.getElem?_toList] at e0 e1 e2 e3 e4
      have hbs := hb_o2 _ (List.getElem_mem hi)
      refine WP.nil ?_
      refine WP.sub [(1, _), (2, _), (6, _), (8, _), (11, _), (12, _), (13, _), (14, _), (15, _), (72, _)] ?_ ⟨rfl, rfl, rfl, rfl, rfl, rfl, rfl, rfl, rfl, rfl, trivial⟩
      refine WP.next ?_
      refine WP.condT rfl ?_
      refine WP.skip ?_
      refine WP.next ?_
      refine WP.seq ?_
      refine WP.block ?_
      refine WP.seq ?_
      refine WQ.start Trymixed 11 (by kernel_rfl) _ rfl [11, 12] rfl ?_
      refine WQ.val rfl rfl rfl (Yld.move rfl rfl) ?_
      refine WQ.val rfl rfl rfl (Yld.move rfl rfl) ?_
      refine WQ.val rfl rfl rfl (Yld.move rfl rfl) ?_
      refine WQ.val rfl rfl rfl (Yld.indexAddr rfl ty_sl_44 rfl rfl (by omega)) ?_
      refine WQ.val rfl rfl rfl (Yld.fieldAddr rfl ty_fd_53_1 rfl) ?_
      refine WQ.val rfl rfl rfl (Yld.loadC rfl ty_sc_3 rfl (There.i hbl) e1) ?_
      refine WQ.val rfl rfl rfl (Yld.move rfl rfl) ?_
      refine WQ.val rfl rfl rfl (Yld.move rfl rfl) ?_
      refine WQ.val rfl rfl rfl (Yld.indexAddr rfl ty_sl_44 rfl rfl (by omega)) ?_
      refine WQ.val rfl rfl rfl (Yld.fieldAddr rfl ty_fd_53_3 rfl) ?_
      refine WQ.val rfl rfl rfl (Yld.loadC rfl ty_sc_51 rfl (There.i hbl) e3) ?_
      refine WQ.nil ?_
      refine WP.loud rfl rfl ?_
      refine Op.call (disk_Write hd hvb (by omega) (by omega)) rfl Try.func21 rfl rfl rfl rfl (by repeat (first | exact Take.nil | apply Take.cons | apply Take.app | exact Rm.chunk | exact Rm.here | apply Rm.skip | apply Rm.skipS | apply Take.all)) ?_
      rintro v J Ld' hJ ⟨rfl, rfl, hd'⟩
      clear hJ; try simp only [List.cons_append, List.nil_append, List.append_assoc]
      refine WP.val rfl rfl rfl rfl (Yld.assign rfl rfl) ?_
      refine WP.nil ?_
      refine WP.sub [(1, _), (2, _), (6, _), (8, _), (11, _), (12, _), (13, _), (14, _), (15, _), (16, _), (72, _)] ?_ ⟨rfl, rfl, rfl, rfl, rfl, rfl, rfl, rfl, rfl, rfl, rfl, trivial⟩
      refine WP.next ?_
      refine WP.seq ?_
      refine WP.region [0, 1] rfl ?_
      refine WP.val rfl rfl rfl rfl (Yld.move rfl rfl) ?_
      refine WP.split rfl rfl rfl rfl (Yld.eql rfl rfl rfl) (fun hc0 => ?_) (fun hc0 => ?_)
      · refine WP.nil ?_
        refine WP.sub [(1, _), (2, _), (6, _), (8, _), (11, _), (12, _), (13, _), (14, _), (15, _), (16, _), (72, _), (88, _)] ?_ ⟨rfl, rfl, rfl, rfl, rfl, rfl, rfl, rfl, rfl, rfl, rfl, rfl, trivial⟩
        refine WP.next ?_
        refine WP.condT rfl ?_
        have hone : [Value.int .i64 o2[i].kind, .int .i64 o2[i].at_, .int .i64 o2[i].many, vb, vs].all (·.oneCell') = true := by obtain ⟨_, _, rfl, _⟩ := hvb; obtain ⟨_, _, rfl, _⟩ := hvs; rfl
        refine WP.region [0, 1, 2, 3, 4, 5, 6, 7] rfl ?_
        refine WP.val rfl rfl rfl rfl (Yld.move rfl rfl) ?_
        refine WP.val rfl rfl rfl rfl (Yld.move rfl rfl) ?_
        refine WP.val rfl rfl rfl rfl (Yld.move rfl rfl) ?_
        refine WP.val rfl rfl rfl rfl (Yld.indexAddr rfl ty_sl_44 rfl rfl (by omega)) ?_
        refine WP.val rfl rfl rfl rfl (Yld.loadAggC rfl ty_ag_53 rfl (There.i hbl) hR rfl) ?_
        refine WP.loud rfl rfl ?_
        refine Op.buildSlice rfl ty_sl_44 ty_el2_44 rfl rfl rfl rfl (vs := [_]) rfl (segs := [(0, [.int .i64 o2[i].kind, .int .i64 o2[i].at_, .int .i64 o2[i].many, vb, vs])]) (cs := [.int .i64 o2[i].kind, .int .i64 o2[i].at_, .int .i64 o2[i].many, vb, vs]) rfl rfl (.seg (Nat.le_refl _) rfl .nil) (fun bx => ?_)
        refine WP.loud rfl rfl ?_
        refine Op.append rfl ty_sl_44 ty_el_44 rfl rfl rfl rfl rfl how (SlRd.lit (by repeat (first | exact There.h | exact There.i (by assumption) | apply There.t | apply There.s)) rfl (by omega)) (by repeat (first | exact Take.nil | apply Take.cons | apply Take.app | exact Rm.chunk | exact Rm.here | apply Rm.skip | apply Rm.skipS | apply Take.all)) hone (by omega) (by omega) (fun vk' Lk' how' => ?_)
        try simp only [List.cons_append, List.nil_append, List.append_assoc]
        refine WP.val rfl rfl rfl rfl (Yld.assign rfl rfl) ?_
        refine WP.nil ?_
        refine WP.sub [(1, _), (2, _), (6, _), (8, _), (11, _), (12, _), (13, _), (14, _), (15, _), (16, _), (72, _), (88, _)] ?_ ⟨rfl, rfl, rfl, rfl, rfl, rfl, rfl, rfl, rfl, rfl, rfl, rfl, trivial⟩
        refine WP.leave ?_
        refine WP.next ?_
        refine WP.region [0, 1, 2] rfl ?_
        refine WP.val rfl rfl rfl rfl (Yld.move rfl rfl) ?_
        refine WP.val rfl rfl rfl rfl (Yld.add64 rfl rfl rfl (by omega)) ?_
        refine WP.val rfl rfl rfl rfl (Yld.assign rfl rfl) ?_
        refine WP.nil ?_
        refine WP.sub [(1, _), (2, _), (6, _), (8, _), (11, _), (12, _), (13, _), (14, _), (15, _), (16, _), (72, _), (88, _)] ?_ ⟨rfl, rfl, rfl, rfl, rfl, rfl, rfl, rfl, rfl, rfl, rfl, rfl, trivial⟩
        exact WP.again ⟨i + 1, (x.write 8 o2[i].at_ o2[i].b).1, ks ++ [⟨o2[i], vb, vs⟩], vk', Ld', Lk'⟩ ⟨hi, hd', (htw.write ⟨o2[i], vb, vs⟩).1 hc0, by simpa [kcells, kcell] using how', by simp only [List.length_append, List.length_cons, List.length_nil]; omega, by have := write_waits_n x 8 o2[i].at_ o2[i].b; show (x.write 8 o2[i].at_ o2[i].b).1.waits.length ≤ 8 * (i + 1); omega, fun k hk => by rcases List.mem_append.1 hk with hk | hk; exact hrd k hk; rw [List.mem_singleton.1 hk]; exact hvb⟩ (by simp only; omega) ⟨rfl, rfl, rfl, rfl, rfl, rfl, rfl, rfl, rfl, trivial⟩ rfl (by (try dsimp only); repeat (first | exact Rm.chunk | exact Rm.here | apply Rm.skip | apply Rm.skipS | apply PX.cons | (apply PX.done; (repeat (first | exact Leave.done | apply Leave.drop | apply Leave.dropS)); done) | apply PX.app))
      · refine WP.nil ?_
        refine WP.sub [(1, _), (2, _), (6, _), (8, _), (11, _), (12, _), (13, _), (14, _), (15, _), (16, _), (72, _), (88, _)] ?_ ⟨rfl, rfl, rfl, rfl, rfl, rfl, rfl, rfl, rfl, rfl, rfl, rfl, trivial⟩
        refine WP.next ?_
        refine WP.condF rfl ?_
        refine WP.skip ?_
        refine WP.leave ?_
        refine WP.next ?_
        refine WP.region [0, 1, 2] rfl ?_
        refine WP.val rfl rfl rfl rfl (Yld.move rfl rfl) ?_
        refine WP.val rfl rfl rfl rfl (Yld.add64 rfl rfl rfl (by omega)) ?_
        refine WP.val rfl rfl rfl rfl (Yld.assign rfl rfl) ?_
        refine WP.nil ?_
        refine WP.sub [(1, _), (2, _), (6, _), (8, _), (11, _), (12, _), (13, _), (14, _), (15, _), (16, _), (72, _), (88, _)] ?_ ⟨rfl, rfl, rfl, rfl, rfl, rfl, rfl, rfl, rfl, rfl, rfl, rfl, trivial⟩
        exact WP.again ⟨i + 1, (x.write 8 o2[i].at_ o2[i].b).1, ks, vk, Ld', Lk⟩ ⟨hi, hd', (htw.write ⟨o2[i], vb, vs⟩).2 hc0, how, by simp only; omega, by have := write_waits_n x 8 o2[i].at_ o2[i].b; show (x.write 8 o2[i].at_ o2[i].b).1.waits.length ≤ 8 * (i + 1); omega, hrd⟩ (by simp only; omega) ⟨rfl, rfl, rfl, rfl, rfl, rfl, rfl, rfl, rfl, trivial⟩ rfl (by (try dsimp only); repeat (first | exact Rm.chunk | exact Rm.here | apply Rm.skip | apply Rm.skipS | apply PX.cons | (apply PX.done; (repeat (first | exact Leave.done | apply Leave.drop | apply Leave.dropS)); done) | apply PX.app))
    · simp only at hle hd htw how hkl hwl hrd
      have hiso := hd.isok
      have hsr2 := read_all htw.off hiso.ln
      refine WP.nil ?_
      refine WP.sub [(1, _), (2, _), (6, _), (8, _), (11, _), (12, _), (13, _), (14, _), (15, _), (72, _)] ?_ ⟨rfl, rfl, rfl, rfl, rfl, rfl, rfl, rfl, rfl, rfl, trivial⟩
      refine WP.next ?_
      refine WP.condF rfl ?_
      refine WP.exit ?_
      refine WP.thenE ?_
      refine WP.thenE ?_
      refine WP.hit ?_
      refine WP.next ?_
      refine WP.seq ?_
      refine WP.region [0, 1, 2, 3, 4, 5, 6] rfl ?_
      refine WP.val rfl rfl rfl rfl (Yld.move rfl rfl) ?_
      refine WP.loud rfl rfl ?_
      refine Op.call (disk_Read hd) rfl Try.func23 rfl rfl rfl rfl (by repeat (first | exact Take.nil | apply Take.cons | apply Take.app | exact Rm.chunk | exact Rm.here | apply Rm.skip | apply Rm.skipS | apply Take.all)) ?_
      rintro v J L1 hJ ⟨rfl, v17, L17, rfl, ho17, rfl⟩
      clear hJ; try simp only [List.cons_append, List.nil_append, List.append_assoc]
      rw [hsr2] at ho17 ⊢
      try dsimp only at ho17 ⊢
      try simp only [List.cons_append, List.nil_append, List.append_assoc]
      refine WP.val rfl rfl rfl rfl (Yld.move rfl rfl) ?_
      refine WP.val rfl rfl rfl rfl (Yld.extract rfl rfl rfl) ?_
      refine WP.val rfl rfl rfl rfl (Yld.extract rfl rfl rfl) ?_
      refine WP.val rfl rfl rfl rfl (Yld.assign rfl rfl) ?_
      refine WP.val rfl rfl rfl rfl (Yld.assign rfl rfl) ?_
      refine WP.nil ?_
      refine WP.sub [(1, _), (2, _), (6, _), (8, _), (11, _), (12, _), (13, _), (14, _), (15, _), (17, _), (18, _), (72, _)] ?_ ⟨rfl, rfl, rfl, rfl, rfl, rfl, rfl, rfl, rfl, rfl, rfl, rfl, trivial⟩
      refine WP.next ?_
      refine WP.seq ?_
      refine WP.region [0, 1, 2] rfl ?_
      refine WP.val rfl rfl rfl rfl (Yld.move rfl rfl) ?_
      refine WP.loud rfl rfl ?_
      refine Op.call (disk_Waiting hd) rfl Try.func24 rfl rfl rfl rfl (by repeat (first | exact Take.nil | apply Take.cons | apply Take.app | exact Rm.chunk | exact Rm.here | apply Rm.skip | apply Rm.skipS | apply Take.all)) ?_
      rintro v J L1 hJ ⟨rfl, rfl, rfl⟩
      clear hJ; try simp only [List.cons_append, List.nil_append, List.append_assoc]
      refine WP.val rfl rfl rfl rfl (Yld.assign rfl rfl) ?_
      refine WP.nil ?_
      refine WP.sub [(1, _), (2, _), (6, _), (8, _), (11, _), (12, _), (13, _), (14, _), (15, _), (17, _), (18, _), (19, _), (72, _)] ?_ ⟨rfl, rfl, rfl, rfl, rfl, rfl, rfl, rfl, rfl, rfl, rfl, rfl, rfl, trivial⟩
      refine WP.next ?_
      refine WP.seq ?_
      refine WP.region [0, 1, 2, 3, 4] rfl ?_
      refine WP.val rfl rfl rfl rfl (Yld.move rfl rfl) ?_
      refine WP.val rfl rfl rfl rfl (Yld.lenR hst rfl ty_sl_45 rfl) ?_
      refine WP.val rfl rfl rfl rfl (Yld.move rfl rfl) ?_
      refine WP.val rfl rfl rfl rfl (Yld.geq rfl rfl rfl _ rfl) ?_
      refine WP.val rfl rfl rfl rfl (Yld.assign rfl rfl) ?_
      refine WP.nil ?_
      refine WP.sub [(1, _), (2, _), (6, _), (8, _), (11, _), (12, _), (13, _), (14, _), (15, _), (17, _), (18, _), (19, _), (20, _), (72, _)] ?_ ⟨rfl, rfl, rfl, rfl, rfl, rfl, rfl, rfl, rfl, rfl, rfl, rfl, rfl, rfl, trivial⟩
      refine WP.next ?_
      refine WP.seq ?_
      refine WP.region [0] rfl ?_
      refine WP.val rfl rfl rfl rfl (Yld.assign rfl rfl) ?_
      refine WP.nil ?_
      refine WP.next ?_
      refine WP.seq ?_
      refine WP.seq ?_
      refine WP.region [0] rfl ?_
      refine WP.val rfl rfl rfl rfl (Yld.assign rfl rfl) ?_
      refine WP.nil ?_
      refine WP.next ?_
      refine WP.block ?_
      refine WP.loop (X := BX) (fun t : BX => [(2, vst), (6, .bool false), (8, .pointer (some ⟨d, 0, none⟩)), (11, .int .i64 0), (12, v12), (13, .int .i64 0), (14, vk), (17, v17), (18, .int .i64 0), (19, .int .i64 (x.waits.length : Int)), (20, .bool t.p), (21, .bool t.q), (22, .int .i64 (t.i : Int))]) (fun _ => I) (fun _ => Ld ++ (Lk ++ (L12 ++ (L17 ++ F)))) (fun t => t.ok st x.waits.length) (fun t => st.length - t.i) ⟨0, decide ((x.waits.length : Int) ≤ (st.length : Int)), true⟩ ⟨Nat.zero_le _, Nat.zero_le _, fun h => ⟨by have := of_decide_eq_true h; omega, fun j _ hj => absurd hj (by simp)⟩, fun _ j _ hj => absurd hj (by simp)⟩ ⟨rfl, rfl, rfl, rfl, rfl, rfl, rfl, rfl, rfl, rfl, rfl, rfl, rfl, trivial⟩ rfl (by (try dsimp only); repeat (first | exact Rm.chunk | exact Rm.here | apply Rm.skip | apply Rm.skipS | apply PX.cons | (apply PX.done; (repeat (first | exact Leave.done | apply Leave.drop | apply Leave.dropS)); done) | apply PX.app)) ?_
      rintro ⟨i, p, q⟩ ⟨l1, l2, hp, hq⟩
      try dsimp only
      try simp only [List.cons_append, List.nil_append, List.append_assoc]
      refine WP.seq ?_
      refine WP.cut (X := Bool) (fun c : Bool => [(2, vst), (6, .bool false), (8, .pointer (some ⟨d, 0, none⟩)), (11, .int .i64 0), (12, v12), (13, .int .i64 0), (14, vk), (17, v17), (18, .int .i64 0), (19, .int .i64 (x.waits.length : Int)), (20, .bool p), (21, .bool q), (22, .int .i64 (i : Int)), (115, .bool c)]) (fun _ => I) (fun _ => Ld ++ (Lk ++ (L12 ++ (L17 ++ F)))) (fun c => (c = true → i < st.length ∧ i < x.waits.length) ∧ (c = false → ¬ (i < st.length ∧ i < x.waits.length))) ?_ ?_
      · skip
        simp only at l1 l2 hp hq
        refine WP.region [0, 1, 2, 3, 4, 5, 6, 7, 8] rfl ?_
        refine WP.val rfl rfl rfl rfl (Yld.move rfl rfl) ?_
        refine WP.val rfl rfl rfl rfl (Yld.move rfl rfl) ?_
        refine WP.val rfl rfl rfl rfl (Yld.lenR hst rfl ty_sl_45 rfl) ?_
        refine WP.split rfl rfl rfl rfl (Yld.lss rfl rfl rfl) (fun g1 => ?_) (fun g1 => ?_)
        · refine WP.val rfl rfl rfl rfl (Yld.move rfl rfl) ?_
          refine WP.valG rfl rfl rfl rfl rfl rfl rfl (Yld.move rfl rfl) ?_
          refine WP.valG rfl rfl rfl rfl rfl rfl rfl (Yld.move rfl rfl) ?_
          refine WP.splitG rfl rfl rfl rfl rfl rfl rfl (Yld.lss rfl rfl rfl) (fun g2 => ?_) (fun g2 => ?_)
          · refine WP.val rfl rfl rfl rfl (Yld.pickT rfl rfl rfl) ?_
            refine WP.nil ?_
            refine WP.sub [(2, _), (6, _), (8, _), (11, _), (12, _), (13, _), (14, _), (17, _), (18, _), (19, _), (20, _), (21, _), (22, _), (115, _)] ?_ ⟨rfl, rfl, rfl, rfl, rfl, rfl, rfl, rfl, rfl, rfl, rfl, rfl, rfl, rfl, trivial⟩
            exact WP.meet true ⟨fun h => by first | (cases h; done) | omega, fun h => by first | (cases h; done) | omega⟩ ⟨rfl, rfl, rfl, rfl, rfl, rfl, rfl, rfl, rfl, rfl, rfl, rfl, rfl, rfl, trivial⟩ rfl (by (try dsimp only); repeat (first | exact Rm.chunk | exact Rm.here | apply Rm.skip | apply Rm.skipS | apply PX.cons | (apply PX.done; (repeat (first | exact Leave.done | apply Leave.drop | apply Leave.dropS)); done) | apply PX.app))
          · refine WP.val rfl rfl rfl rfl (Yld.pickT rfl rfl rfl) ?_
            refine WP.nil ?_
            refine WP.sub [(2, _), (6, _), (8, _), (11, _), (12, _), (13, _), (14, _), (17, _), (18, _), (19, _), (20, _), (21, _), (22, _), (115, _)] ?_ ⟨rfl, rfl, rfl, rfl, rfl, rfl, rfl, rfl, rfl, rfl, rfl, rfl, rfl, rfl, trivial⟩
            exact WP.meet false ⟨fun h => by first | (cases h; done) | omega, fun h => by first | (cases h; done) | omega⟩ ⟨rfl, rfl, rfl, rfl, rfl, rfl, rfl, rfl, rfl, rfl, rfl, rfl, rfl, rfl, trivial⟩ rfl (by (try dsimp only); repeat (first | exact Rm.chunk | exact Rm.here | apply Rm.skip | apply Rm.skipS | apply PX.cons | (apply PX.done; (repeat (first | exact Leave.done | apply Leave.drop | apply Leave.dropS)); done) | apply PX.app))
        · refine WP.val rfl rfl rfl rfl (Yld.move rfl rfl) ?_
          refine WP.passG rfl rfl rfl rfl rfl rfl rfl rfl ?_
          refine WP.passG rfl rfl rfl rfl rfl rfl rfl rfl ?_
          refine WP.passG rfl rfl rfl rfl rfl rfl rfl rfl ?_
          refine WP.val rfl rfl rfl rfl (Yld.pickF rfl rfl rfl) ?_
          refine WP.nil ?_
          refine WP.sub [(2, _), (6, _), (8, _), (11, _), (12, _), (13, _), (14, _), (17, _), (18, _), (19, _), (20, _), (21, _), (22, _), (115, _)] ?_ ⟨rfl, rfl, rfl, rfl, rfl, rfl, rfl, rfl, rfl, rfl, rfl, rfl, rfl, rfl, trivial⟩
          exact WP.meet false ⟨fun h => by first | (cases h; done) | omega, fun h => by first | (cases h; done) | omega⟩ ⟨rfl, rfl, rfl, rfl, rfl, rfl, rfl, rfl, rfl, rfl, rfl, rfl, rfl, rfl, trivial⟩ rfl (by (try dsimp only); repeat (first | exact Rm.chunk | exact Rm.here | apply Rm.skip | apply Rm.skipS | apply PX.cons | (apply PX.done; (repeat (first | exact Leave.done | apply Leave.drop | apply Leave.dropS)); done) | apply PX.app))
      · rintro c ⟨hc1, hc2⟩
        refine WP.cond rfl (fun ht => ?_) (fun ht => ?_)
        · refine WP.skip ?_
          refine WP.next ?_
          refine WP.seq ?_
          refine WP.block ?_
          refine WP.cut (X := Bool) (fun p' : Bool => [(2, vst), (6, .bool false), (8, .pointer (some ⟨d, 0, none⟩)), (11, .int .i64 0), (12, v12), (13, .int .i64 0), (14, vk), (17, v17), (18, .int .i64 0), (19, .int .i64 (x.waits.length : Int)), (20, .bool p'), (21, .bool q), (22, .int .i64 (i : Int))]) (fun _ => I) (fun _ => Ld ++ (Lk ++ (L12 ++ (L17 ++ F)))) (fun p' => p' = true → x.waits.length ≤ st.length ∧ ∀ j (h : j < st.length), j < i + 1 → 64 ≤ st[j]) ?_ ?_
          · skip
            obtain ⟨hi1, hi2⟩ := hc1 ht
            obtain ⟨bz, kz, cz, Tz, frz, arrz, rfl, hcz, hbz, hz4⟩ := hst.get (by omega)
            have ez := take_cells hz4 i (.int .i64 st[i]) (by simp [hi1]) (by simp; omega)
            rw [Array.getElem?_toList] at ez
            by_cases hb_p : p = true
            · subst hb_p
              refine WP.region [0, 1, 2, 3, 4, 5, 6, 7, 8] rfl ?_
              refine WP.val rfl rfl rfl rfl (Yld.move rfl rfl) ?_
              refine WP.val rfl rfl rfl rfl (Yld.move rfl rfl) ?_
              refine WP.valG rfl rfl rfl rfl rfl rfl rfl (Yld.move rfl rfl) ?_
              refine WP.valG rfl rfl rfl rfl rfl rfl rfl (Yld.move rfl rfl) ?_
              refine WP.valG rfl rfl rfl rfl rfl rfl rfl (Yld.indexAddr rfl ty_sl_45 rfl rfl (by omega)) ?_
              refine WP.valG rfl rfl rfl rfl rfl rfl rfl (Yld.loadC rfl ty_sc_57 rfl (There.i hbz) (by rw [Nat.mul_one]; exact ez)) ?_
              refine WP.splitG rfl rfl rfl rfl rfl rfl rfl (Yld.geq rfl rfl rfl) (fun g3 => ?_) (fun g3 => ?_)
              · refine WP.val rfl rfl rfl rfl (Yld.pickT rfl rfl rfl) ?_
                refine WP.val rfl rfl rfl rfl (Yld.assign rfl rfl) ?_
                refine WP.nil ?_
                refine WP.sub [(2, _), (6, _), (8, _), (11, _), (12, _), (13, _), (14, _), (17, _), (18, _), (19, _), (20, _), (21, _), (22, _), (115, _)] ?_ ⟨rfl, rfl, rfl, rfl, rfl, rfl, rfl, rfl, rfl, rfl, rfl, rfl, rfl, rfl, trivial⟩
                exact WP.meet true (fun _ => ⟨(hp rfl).1, fun j h hj => by rcases Nat.lt_succ_iff_lt_or_eq.1 hj with hj | rfl; exact (hp rfl).2 j h hj; omega⟩) ⟨rfl, rfl, rfl, rfl, rfl, rfl, rfl, rfl, rfl, rfl, rfl, rfl, rfl, trivial⟩ rfl (by (try dsimp only); repeat (first | exact Rm.chunk | exact Rm.here | apply Rm.skip | apply Rm.skipS | apply PX.cons | (apply PX.done; (repeat (first | exact Leave.done | apply Leave.drop | apply Leave.dropS)); done) | apply PX.app))
              · refine WP.val rfl rfl rfl rfl (Yld.pickT rfl rfl rfl) ?_
                refine WP.val rfl rfl rfl rfl (Yld.assign rfl rfl) ?_
                refine WP.nil ?_
                refine WP.sub [(2, _), (6, _), (8, _), (11, _), (12, _), (13, _), (14, _), (17, _), (18, _), (19, _), (20, _), (21, _), (22, _), (115, _)] ?_ ⟨rfl, rfl, rfl, rfl, rfl, rfl, rfl, rfl, rfl, rfl, rfl, rfl, rfl, rfl, trivial⟩
                exact WP.meet false (fun h => by cases h) ⟨rfl, rfl, rfl, rfl, rfl, rfl, rfl, rfl, rfl, rfl, rfl, rfl, rfl, trivial⟩ rfl (by (try dsimp only); repeat (first | exact Rm.chunk | exact Rm.here | apply Rm.skip | apply Rm.skipS | apply PX.cons | (apply PX.done; (repeat (first | exact Leave.done | apply Leave.drop | apply Leave.dropS)); done) | apply PX.app))
            · obtain rfl : p = false := by simpa using hb_p
              refine WP.region [0, 1, 2, 3, 4, 5, 6, 7, 8] rfl ?_
              refine WP.val rfl rfl rfl rfl (Yld.move rfl rfl) ?_
              refine WP.val rfl rfl rfl rfl (Yld.move rfl rfl) ?_
              refine WP.passG rfl rfl rfl rfl rfl rfl rfl rfl ?_
              refine WP.passG rfl rfl rfl rfl rfl rfl rfl rfl ?_
              refine WP.passG rfl rfl rfl rfl rfl rfl rfl rfl ?_
              refine WP.passG rfl rfl rfl rfl rfl rfl rfl rfl ?_
              refine WP.passG rfl rfl rfl rfl rfl rfl rfl rfl ?_
              refine WP.val rfl rfl rfl rfl (Yld.pickF rfl rfl rfl) ?_
              refine WP.val rfl rfl rfl rfl (Yld.assign rfl rfl) ?_
              refine WP.nil ?_
              refine WP.sub [(2, _), (6, _), (8, _), (11, _), (12, _), (13, _), (14, _), (17, _), (18, _), (19, _), (20, _), (21, _), (22, _), (115, _)] ?_ ⟨rfl, rfl, rfl, rfl, rfl, rfl, rfl, rfl, rfl, rfl, rfl, rfl, rfl, rfl, trivial⟩
              exact WP.meet false (fun h => by cases h) ⟨rfl, rfl, rfl, rfl, rfl, rfl, rfl, rfl, rfl, rfl, rfl, rfl, rfl, trivial⟩ rfl (by (try dsimp only); repeat (first | exact Rm.chunk | exact Rm.here | apply Rm.skip | apply Rm.skipS | apply PX.cons | (apply PX.done; (repeat (first | exact Leave.done | apply Leave.drop | apply Leave.dropS)); done) | apply PX.app))
          · rintro p' hp'
            obtain ⟨hi1, hi2⟩ := hc1 ht
            obtain ⟨bz, kz, cz, Tz, frz, arrz, rfl, hcz, hbz, hz4⟩ := hst.get (by omega)
            have ez := take_cells hz4 i (.int .i64 st[i]) (by simp [hi1]) (by simp; omega)
            rw [Array.getElem?_toList] at ez
            by_cases hb_q : q = true
            · subst hb_q
              refine WP.region [0, 1, 2, 3, 4, 5, 6, 7, 8] rfl ?_
              refine WP.val rfl rfl rfl rfl (Yld.move rfl rfl) ?_
              refine WP.val rfl rfl rfl rfl (Yld.move rfl rfl) ?_
              refine WP.valG rfl rfl rfl rfl rfl rfl rfl (Yld.move rfl rfl) ?_
              refine WP.valG rfl rfl rfl rfl rfl rfl rfl (Yld.move rfl rfl) ?_
              refine WP.valG rfl rfl rfl rfl rfl rfl rfl (Yld.indexAddr rfl ty_sl_45 rfl rfl (by omega)) ?_
              refine WP.valG rfl rfl rfl rfl rfl rfl rfl (Yld.loadC rfl ty_sc_57 rfl (There.i hbz) (by rw [Nat.mul_one]; exact ez)) ?_
              refine WP.splitG rfl rfl rfl rfl rfl rfl rfl (Yld.leq rfl rfl rfl) (fun g4 => ?_) (fun g4 => ?_)
              · refine WP.val rfl rfl rfl rfl (Yld.pickT rfl rfl rfl) ?_
                refine WP.val rfl rfl rfl rfl (Yld.assign rfl rfl) ?_
                refine WP.nil ?_
                refine WP.sub [(2, _), (6, _), (8, _), (11, _), (12, _), (13, _), (14, _), (17, _), (18, _), (19, _), (20, _), (21, _), (22, _)] ?_ ⟨rfl, rfl, rfl, rfl, rfl, rfl, rfl, rfl, rfl, rfl, rfl, rfl, rfl, trivial⟩
                refine WP.leave ?_
                refine WP.next ?_
                refine WP.region [0, 1, 2] rfl ?_
                refine WP.val rfl rfl rfl rfl (Yld.move rfl rfl) ?_
                refine WP.val rfl rfl rfl rfl (Yld.add64 rfl rfl rfl (by omega)) ?_
                refine WP.val rfl rfl rfl rfl (Yld.assign rfl rfl) ?_
                refine WP.nil ?_
                refine WP.sub [(2, _), (6, _), (8, _), (11, _), (12, _), (13, _), (14, _), (17, _), (18, _), (19, _), (20, _), (21, _), (22, _)] ?_ ⟨rfl, rfl, rfl, rfl, rfl, rfl, rfl, rfl, rfl, rfl, rfl, rfl, rfl, trivial⟩
                exact WP.again ⟨i + 1, p', true⟩ ⟨hi1, hi2, hp', fun _ j h hj => by rcases Nat.lt_succ_iff_lt_or_eq.1 hj with hj | rfl; exact hq rfl j h hj; omega⟩ (by simp only; omega) ⟨rfl, rfl, rfl, rfl, rfl, rfl, rfl, rfl, rfl, rfl, rfl, rfl, rfl, trivial⟩ rfl (by (try dsimp only); repeat (first | exact Rm.chunk | exact Rm.here | apply Rm.skip | apply Rm.skipS | apply PX.cons | (apply PX.done; (repeat (first | exact Leave.done | apply Leave.drop | apply Leave.dropS)); done) | apply PX.app))
              · refine WP.val rfl rfl rfl rfl (Yld.pickT rfl rfl rfl) ?_
                refine WP.val rfl rfl rfl rfl (Yld.assign rfl rfl) ?_
                refine WP.nil ?_
                refine WP.sub [(2, _), (6, _), (8, _), (11, _), (12, _), (13, _), (14, _), (17, _), (18, _), (19, _), (20, _), (21, _), (22, _)] ?_ ⟨rfl, rfl, rfl, rfl, rfl, rfl, rfl, rfl, rfl, rfl, rfl, rfl, rfl, trivial⟩
                refine WP.leave ?_
                refine WP.next ?_
                refine WP.region [0, 1, 2] rfl ?_
                refine WP.val rfl rfl rfl rfl (Yld.move rfl rfl) ?_
                refine WP.val rfl rfl rfl rfl (Yld.add64 rfl rfl rfl (by omega)) ?_
                refine WP.val rfl rfl rfl rfl (Yld.assign rfl rfl) ?_
                refine WP.nil ?_
                refine WP.sub [(2, _), (6, _), (8, _), (11, _), (12, _), (13, _), (14, _), (17, _), (18, _), (19, _), (20, _), (21, _), (22, _)] ?_ ⟨rfl, rfl, rfl, rfl, rfl, rfl, rfl, rfl, rfl, rfl, rfl, rfl, rfl, trivial⟩
                exact WP.again ⟨i + 1, p', false⟩ ⟨hi1, hi2, hp', fun h => by cases h⟩ (by simp only; omega) ⟨rfl, rfl, rfl, rfl, rfl, rfl, rfl, rfl, rfl, rfl, rfl, rfl, rfl, trivial⟩ rfl (by (try dsimp only); repeat (first | exact Rm.chunk | exact Rm.here | apply Rm.skip | apply Rm.skipS | apply PX.cons | (apply PX.done; (repeat (first | exact Leave.done | apply Leave.drop | apply Leave.dropS)); done) | apply PX.app))
            · obtain rfl : q = false := by simpa using hb_q
              refine WP.region [0, 1, 2, 3, 4, 5, 6, 7, 8] rfl ?_
              refine WP.val rfl rfl rfl rfl (Yld.move rfl rfl) ?_
              refine WP.val rfl rfl rfl rfl (Yld.move rfl rfl) ?_
              refine WP.passG rfl rfl rfl rfl rfl rfl rfl rfl ?_
              refine WP.passG rfl rfl rfl rfl rfl rfl rfl rfl ?_
              refine WP.passG rfl rfl rfl rfl rfl rfl rfl rfl ?_
              refine WP.passG rfl rfl rfl rfl rfl rfl rfl rfl ?_
              refine WP.passG rfl rfl rfl rfl rfl rfl rfl rfl ?_
              refine WP.val rfl rfl rfl rfl (Yld.pickF rfl rfl rfl) ?_
              refine WP.val rfl rfl rfl rfl (Yld.assign rfl rfl) ?_
              refine WP.nil ?_
              refine WP.sub [(2, _), (6, _), (8, _), (11, _), (12, _), (13, _), (14, _), (17, _), (18, _), (19, _), (20, _), (21, _), (22, _)] ?_ ⟨rfl, rfl, rfl, rfl, rfl, rfl, rfl, rfl, rfl, rfl, rfl, rfl, rfl, trivial⟩
              refine WP.leave ?_
              refine WP.next ?_
              refine WP.region [0, 1, 2] rfl ?_
              refine WP.val rfl rfl rfl rfl (Yld.move rfl rfl) ?_
              refine WP.val rfl rfl rfl rfl (Yld.add64 rfl rfl rfl (by omega)) ?_
              refine WP.val rfl rfl rfl rfl (Yld.assign rfl rfl) ?_
              refine WP.nil ?_
              refine WP.sub [(2, _), (6, _), (8, _), (11, _), (12, _), (13, _), (14, _), (17, _), (18, _), (19, _), (20, _), (21, _), (22, _)] ?_ ⟨rfl, rfl, rfl, rfl, rfl, rfl, rfl, rfl, rfl, rfl, rfl, rfl, rfl, trivial⟩
              exact WP.again ⟨i + 1, p', false⟩ ⟨hi1, hi2, hp', fun h => by cases h⟩ (by simp only; omega) ⟨rfl, rfl, rfl, rfl, rfl, rfl, rfl, rfl, rfl, rfl, rfl, rfl, rfl, trivial⟩ rfl (by (try dsimp only); repeat (first | exact Rm.chunk | exact Rm.here | apply Rm.skip | apply Rm.skipS | apply PX.cons | (apply PX.done; (repeat (first | exact Leave.done | apply Leave.drop | apply Leave.dropS)); done) | apply PX.app))
        · refine WP.exit ?_
          refine WP.thenE ?_
          refine WP.thenE ?_
          refine WP.hit ?_
          refine WP.next ?_
          refine WP.seq ?_
          simp only at l1 l2 hp hq
          have hex := hc2 ht
          refine WP.region [0, 1, 2] rfl ?_
          refine WP.val rfl rfl rfl rfl (Yld.move rfl rfl) ?_
          refine WP.val rfl rfl rfl rfl (Yld.move rfl rfl) ?_
          refine WP.loud rfl rfl ?_
          refine Op.call (disk_Up hd hst (by omega)) rfl Try.func25 rfl rfl rfl rfl (by repeat (first | exact Take.nil | apply Take.cons | apply Take.app | exact Rm.chunk | exact Rm.here | apply Rm.skip | apply Rm.skipS | apply Take.all)) ?_
          rintro v J Ld' hJ ⟨rfl, rfl, hd'⟩
          clear hJ; try simp only [List.cons_append, List.nil_append, List.append_assoc]
          refine WP.nil ?_
          refine WP.sub [(2, _), (6, _), (8, _), (11, _), (12, _), (13, _), (14, _), (17, _), (18, _), (19, _), (20, _), (21, _), (22, _), (115, _)] ?_ ⟨rfl, rfl, rfl, rfl, rfl, rfl, rfl, rfl, rfl, rfl, rfl, rfl, rfl, rfl, trivial⟩
          refine WP.next ?_
          refine WP.seq ?_
          refine WP.region [0, 1, 2, 3, 4, 5, 6] rfl ?_
          refine WP.val rfl rfl rfl rfl (Yld.move rfl rfl) ?_
          refine WP.loud rfl rfl ?_
          refine Op.call (disk_Read hd') rfl Try.func23 rfl rfl rfl rfl (by repeat (first | exact Take.nil | apply Take.cons | apply Take.app | exact Rm.chunk | exact Rm.here | apply Rm.skip | apply Rm.skipS | apply Take.all)) ?_
          rintro v J L1 hJ ⟨rfl, v23, L23, rfl, ho23, rfl⟩
          clear hJ; try simp only [List.cons_append, List.nil_append, List.append_assoc]
          have hPL := hd'.isok.ln
          rw [read_all rfl hPL] at ho23 ⊢
          try dsimp only at ho23 ⊢
          have hall : p = true → (x.up st).now = x.now := fun h => by rw [htw.now, ← htw.plat]; exact tear_all x.waits hiso.hw _ _ (hp h).1 (fun j h1 h2 => (hp h).2 j h1 (by have := (hp h).1; omega))
          have hnone : q = true → (x.up st).now = base := fun h => by rw [← htw.plat]; exact tear_none x.waits _ _ (fun j h1 h2 => hq h j h1 (by omega))
          have hbyte : ∀ k (hk : k < 512) c c0, (x.up st).now[k]? = some c → base[k]? = some c0 → c = c0 ∨ ∃ e ∈ ks, hit k c e := fun k hk c c0 h1 h2 => htw.byte hiso hk h1 h2
          generalize (x.up st).now = Pl at ho23 hall hnone hbyte hPL ⊢
          have hxn := hiso.ln
          try simp only [List.cons_append, List.nil_append, List.append_assoc]
          refine WP.val rfl rfl rfl rfl (Yld.move rfl rfl) ?_
          refine WP.val rfl rfl rfl rfl (Yld.extract rfl rfl rfl) ?_
          refine WP.val rfl rfl rfl rfl (Yld.extract rfl rfl rfl) ?_
          refine WP.val rfl rfl rfl rfl (Yld.assign rfl rfl) ?_
          refine WP.val rfl rfl rfl rfl (Yld.assign rfl rfl) ?_
          refine WP.nil ?_
          refine WP.sub [(2, _), (6, _), (8, _), (11, _), (12, _), (13, _), (14, _), (17, _), (18, _), (19, _), (20, _), (21, _), (22, _), (23, _), (24, _), (115, _)] ?_ ⟨rfl, rfl, rfl, rfl, rfl, rfl, rfl, rfl, rfl, rfl, rfl, rfl, rfl, rfl, rfl, rfl, trivial⟩
          refine WP.next ?_
          refine WP.seq ?_
          refine WP.seq ?_
          refine WP.region [0, 1, 2, 3, 4, 5, 6, 7, 8, 9, 10, 11, 12, 13, 14, 15, 16, 17, 18, 19, 20, 21, 22, 23, 24, 25, 26, 27, 28] rfl ?_
          refine WP.val rfl rfl rfl rfl (Yld.move rfl rfl) ?_
          refine WP.val rfl rfl rfl rfl (Yld.neq rfl rfl rfl false (decide_eq_false (by decide))) ?_
          refine WP.val rfl rfl rfl rfl (Yld.move rfl rfl) ?_
          refine WP.valG rfl rfl rfl rfl rfl rfl rfl (Yld.move rfl rfl) ?_
          refine WP.valG rfl rfl rfl rfl rfl rfl rfl (Yld.neq rfl rfl rfl false (decide_eq_false (by decide))) ?_
          refine WP.val rfl rfl rfl rfl (Yld.pickF rfl rfl rfl) ?_
          refine WP.val rfl rfl rfl rfl (Yld.move rfl rfl) ?_
          refine WP.valG rfl rfl rfl rfl rfl rfl rfl (Yld.move rfl rfl) ?_
          refine WP.valG rfl rfl rfl rfl rfl rfl rfl (Yld.neq rfl rfl rfl false (decide_eq_false (by decide))) ?_
          refine WP.val rfl rfl rfl rfl (Yld.pickF rfl rfl rfl) ?_
          refine WP.val rfl rfl rfl rfl (Yld.move rfl rfl) ?_
          refine WP.valG rfl rfl rfl rfl rfl rfl rfl (Yld.move rfl rfl) ?_
          refine WP.valG rfl rfl rfl rfl rfl rfl rfl (Yld.neq rfl rfl rfl false (decide_eq_false (by decide))) ?_
          refine WP.val rfl rfl rfl rfl (Yld.pickF rfl rfl rfl) ?_
          refine WP.val rfl rfl rfl rfl (Yld.move rfl rfl) ?_
          refine WP.valG rfl rfl rfl rfl rfl rfl rfl (Yld.move rfl rfl) ?_
          refine WP.valG rfl rfl rfl rfl rfl rfl rfl (Yld.lenR (ho12.rd (I := I) (fun p hp => hp)) rfl ty_sl_51 rfl) ?_
          refine WP.valG rfl rfl rfl rfl rfl rfl rfl (Yld.neq rfl rfl rfl false (decide_eq_false (by omega))) ?_
          refine WP.val rfl rfl rfl rfl (Yld.pickF rfl rfl rfl) ?_
          refine WP.val rfl rfl rfl rfl (Yld.move rfl rfl) ?_
          refine WP.valG rfl rfl rfl rfl rfl rfl rfl (Yld.move rfl rfl) ?_
          refine WP.valG rfl rfl rfl rfl rfl rfl rfl (Yld.lenR (ho17.rd (I := I) (fun p hp => hp)) rfl ty_sl_51 rfl) ?_
          refine WP.valG rfl rfl rfl rfl rfl rfl rfl (Yld.neq rfl rfl rfl false (decide_eq_false (by omega))) ?_
          refine WP.val rfl rfl rfl rfl (Yld.pickF rfl rfl rfl) ?_
          refine WP.val rfl rfl rfl rfl (Yld.move rfl rfl) ?_
          refine WP.valG rfl rfl rfl rfl rfl rfl rfl (Yld.move rfl rfl) ?_
          refine WP.valG rfl rfl rfl rfl rfl rfl rfl (Yld.lenR (ho23.rd (I := I) (fun p hp => hp)) rfl ty_sl_51 rfl) ?_
          refine WP.valG rfl rfl rfl rfl rfl rfl rfl (Yld.neq rfl rfl rfl false (decide_eq_false (by omega))) ?_
          refine WP.val rfl rfl rfl rfl (Yld.pickF rfl rfl rfl) ?_
          refine WP.nil ?_
          refine WP.sub [(2, _), (6, _), (8, _), (11, _), (12, _), (13, _), (14, _), (17, _), (18, _), (19, _), (20, _), (21, _), (22, _), (23, _), (24, _), (115, _), (170, _)] ?_ ⟨rfl, rfl, rfl, rfl, rfl, rfl, rfl, rfl, rfl, rfl, rfl, rfl, rfl, rfl, rfl, rfl, rfl, trivial⟩
          refine WP.next ?_
          refine WP.condF rfl ?_
          refine WP.skip ?_
          refine WP.next ?_
          refine WP.seq ?_
          refine WP.cut (X := Unit) (fun _ => [(6, .bool false), (12, v12), (14, vk), (23, v23), (188, .bool false)]) (fun _ => I) (fun _ => Lk ++ (L12 ++ (L23 ++ F))) (fun _ => True) ?_ ?_
          · skip
            by_cases hb_p : p = true
            · subst hb_p
              by_cases hb_q : q = true
              · subst hb_q
                refine WP.region [0, 1, 2, 3, 4, 5, 6, 7, 8, 9, 10, 11, 12, 13, 14, 15, 16, 17] rfl ?_
                refine WP.val rfl rfl rfl rfl (Yld.move rfl rfl) ?_
                refine WP.val rfl rfl rfl rfl (Yld.move rfl rfl) ?_
                refine WP.valG rfl rfl rfl rfl rfl rfl rfl (Yld.move rfl rfl) ?_
                refine WP.valG rfl rfl rfl rfl rfl rfl rfl (Yld.str (e := 5) rfl (by kernel_rfl) (by kernel_rfl) (by kernel_rfl) rfl (ho23.rd (by intro p hp; simp [hp]))) ?_
                refine WP.valG rfl rfl rfl rfl rfl rfl rfl (Yld.move rfl rfl) ?_
                refine WP.valG rfl rfl rfl rfl rfl rfl rfl (Yld.str (e := 5) rfl (by kernel_rfl) (by kernel_rfl) (by kernel_rfl) rfl (ho17.rd (by intro p hp; simp [hp]))) ?_
                refine WP.valG rfl rfl rfl rfl rfl rfl rfl (Yld.neqStr rfl rfl rfl false (by simp [hall rfl])) ?_
                refine WP.val rfl rfl rfl rfl (Yld.pickT rfl rfl rfl) ?_
                refine WP.val rfl rfl rfl rfl (Yld.move rfl rfl) ?_
                refine WP.valG rfl rfl rfl rfl rfl rfl rfl (Yld.move rfl rfl) ?_
                refine WP.valG rfl rfl rfl rfl rfl rfl rfl (Yld.move rfl rfl) ?_
                refine WP.valG rfl rfl rfl rfl rfl rfl rfl (Yld.move rfl rfl) ?_
                refine WP.valG rfl rfl rfl rfl rfl rfl rfl (Yld.str (e := 5) rfl (by kernel_rfl) (by kernel_rfl) (by kernel_rfl) rfl (ho23.rd (by intro p hp; simp [hp]))) ?_
                refine WP.valG rfl rfl rfl rfl rfl rfl rfl (Yld.move rfl rfl) ?_
                refine WP.valG rfl rfl rfl rfl rfl rfl rfl (Yld.str (e := 5) rfl (by kernel_rfl) (by kernel_rfl) (by kernel_rfl) rfl (ho12.rd (by intro p hp; simp [hp]))) ?_
                refine WP.valG rfl rfl rfl rfl rfl rfl rfl (Yld.neqStr rfl rfl rfl false (by simp [hnone rfl])) ?_
                refine WP.valG rfl rfl rfl rfl rfl rfl rfl (Yld.pickT rfl rfl rfl) ?_
                refine WP.val rfl rfl rfl rfl (Yld.pickF rfl rfl rfl) ?_
                refine WP.nil ?_
                refine WP.sub [(2, _), (6, _), (8, _), (11, _), (12, _), (13, _), (14, _), (17, _), (18, _), (19, _), (20, _), (21, _), (22, _), (23, _), (24, _), (115, _), (170, _), (188, _)] ?_ ⟨rfl, rfl, rfl, rfl, rfl, rfl, rfl, rfl, rfl, rfl, rfl, rfl, rfl, rfl, rfl, rfl, rfl, rfl, trivial⟩
                exact WP.meet () trivial ⟨rfl, rfl, rfl, rfl, rfl, trivial⟩ rfl (by (try dsimp only); repeat (first | exact Rm.chunk | exact Rm.here | apply Rm.skip | apply Rm.skipS | apply PX.cons | (apply PX.done; (repeat (first | exact Leave.done | apply Leave.drop | apply Leave.dropS)); done) | apply PX.app))
              · obtain rfl : q = false := by simpa using hb_q
                refine WP.region [0, 1, 2, 3, 4, 5, 6, 7, 8, 9, 10, 11, 12, 13, 14, 15, 16, 17] rfl ?_
                refine WP.val rfl rfl rfl rfl (Yld.move rfl rfl) ?_
                refine WP.val rfl rfl rfl rfl (Yld.move rfl rfl) ?_
                refine WP.valG rfl rfl rfl rfl rfl rfl rfl (Yld.move rfl rfl) ?_
                refine WP.valG rfl rfl rfl rfl rfl rfl rfl (Yld.str (e := 5) rfl (by kernel_rfl) (by kernel_rfl) (by kernel_rfl) rfl (ho23.rd (by intro p hp; simp [hp]))) ?_
                refine WP.valG rfl rfl rfl rfl rfl rfl rfl (Yld.move rfl rfl) ?_
                refine WP.valG rfl rfl rfl rfl rfl rfl rfl (Yld.str (e := 5) rfl (by kernel_rfl) (by kernel_rfl) (by kernel_rfl) rfl (ho17.rd (by intro p hp; simp [hp]))) ?_
                refine WP.valG rfl rfl rfl rfl rfl rfl rfl (Yld.neqStr rfl rfl rfl false (by simp [hall rfl])) ?_
                refine WP.val rfl rfl rfl rfl (Yld.pickT rfl rfl rfl) ?_
                refine WP.val rfl rfl rfl rfl (Yld.move rfl rfl) ?_
                refine WP.valG rfl rfl rfl rfl rfl rfl rfl (Yld.move rfl rfl) ?_
                refine WP.valG rfl rfl rfl rfl rfl rfl rfl (Yld.move rfl rfl) ?_
                refine WP.passG rfl rfl rfl rfl rfl rfl rfl rfl ?_
                refine WP.passG rfl rfl rfl rfl rfl rfl rfl rfl ?_
                refine WP.passG rfl rfl rfl rfl rfl rfl rfl rfl ?_
                refine WP.passG rfl rfl rfl rfl rfl rfl rfl rfl ?_
                refine WP.passG rfl rfl rfl rfl rfl rfl rfl rfl ?_
                refine WP.valG rfl rfl rfl rfl rfl rfl rfl (Yld.pickF rfl rfl rfl) ?_
                refine WP.val rfl rfl rfl rfl (Yld.pickF rfl rfl rfl) ?_
                refine WP.nil ?_
                refine WP.sub [(2, _), (6, _), (8, _), (11, _), (12, _), (13, _), (14, _), (17, _), (18, _), (19, _), (20, _), (21, _), (22, _), (23, _), (24, _), (115, _), (170, _), (188, _)] ?_ ⟨rfl, rfl, rfl, rfl, rfl, rfl, rfl, rfl, rfl, rfl, rfl, rfl, rfl, rfl, rfl, rfl, rfl, rfl, trivial⟩
                exact WP.meet () trivial ⟨rfl, rfl, rfl, rfl, rfl, trivial⟩ rfl (by (try dsimp only); repeat (first | exact Rm.chunk | exact Rm.here | apply Rm.skip | apply Rm.skipS | apply PX.cons | (apply PX.done; (repeat (first | exact Leave.done | apply Leave.drop | apply Leave.dropS)); done) | apply PX.app))
            · obtain rfl : p = false := by simpa using hb_p
              by_cases hb_q : q = true
              · subst hb_q
                refine WP.region [0, 1, 2, 3, 4, 5, 6, 7, 8, 9, 10, 11, 12, 13, 14, 15, 16, 17] rfl ?_
                refine WP.val rfl rfl rfl rfl (Yld.move rfl rfl) ?_
                refine WP.val rfl rfl rfl rfl (Yld.move rfl rfl) ?_
                refine WP.passG rfl rfl rfl rfl rfl rfl rfl rfl ?_
                refine WP.passG rfl rfl rfl rfl rfl rfl rfl rfl ?_
                refine WP.passG rfl rfl rfl rfl rfl rfl rfl rfl ?_
                refine WP.passG rfl rfl rfl rfl rfl rfl rfl rfl ?_
                refine WP.passG rfl rfl rfl rfl rfl rfl rfl rfl ?_
                refine WP.val rfl rfl rfl rfl (Yld.pickF rfl rfl rfl) ?_
                refine WP.val rfl rfl rfl rfl (Yld.move rfl rfl) ?_
                refine WP.valG rfl rfl rfl rfl rfl rfl rfl (Yld.move rfl rfl) ?_
                refine WP.valG rfl rfl rfl rfl rfl rfl rfl (Yld.move rfl rfl) ?_
                refine WP.valG rfl rfl rfl rfl rfl rfl rfl (Yld.move rfl rfl) ?_
                refine WP.valG rfl rfl rfl rfl rfl rfl rfl (Yld.str (e := 5) rfl (by kernel_rfl) (by kernel_rfl) (by kernel_rfl) rfl (ho23.rd (by intro p hp; simp [hp]))) ?_
                refine WP.valG rfl rfl rfl rfl rfl rfl rfl (Yld.move rfl rfl) ?_
                refine WP.valG rfl rfl rfl rfl rfl rfl rfl (Yld.str (e := 5) rfl (by kernel_rfl) (by kernel_rfl) (by kernel_rfl) rfl (ho12.rd (by intro p hp; simp [hp]))) ?_
                refine WP.valG rfl rfl rfl rfl rfl rfl rfl (Yld.neqStr rfl rfl rfl false (by simp [hnone rfl])) ?_
                refine WP.valG rfl rfl rfl rfl rfl rfl rfl (Yld.pickT rfl rfl rfl) ?_
                refine WP.val rfl rfl rfl rfl (Yld.pickF rfl rfl rfl) ?_
                refine WP.nil ?_
                refine WP.sub [(2, _), (6, _), (8, _), (11, _), (12, _), (13, _), (14, _), (17, _), (18, _), (19, _), (20, _), (21, _), (22, _), (23, _), (24, _), (115, _), (170, _), (188, _)] ?_ ⟨rfl, rfl, rfl, rfl, rfl, rfl, rfl, rfl, rfl, rfl, rfl, rfl, rfl, rfl, rfl, rfl, rfl, rfl, trivial⟩
                exact WP.meet () trivial ⟨rfl, rfl, rfl, rfl, rfl, trivial⟩ rfl (by (try dsimp only); repeat (first | exact Rm.chunk | exact Rm.here | apply Rm.skip | apply Rm.skipS | apply PX.cons | (apply PX.done; (repeat (first | exact Leave.done | apply Leave.drop | apply Leave.dropS)); done) | apply PX.app))
              · obtain rfl : q = false := by simpa using hb_q
                refine WP.region [0, 1, 2, 3, 4, 5, 6, 7, 8, 9, 10, 11, 12, 13, 14, 15, 16, 17] rfl ?_
                refine WP.val rfl rfl rfl rfl (Yld.move rfl rfl) ?_
                refine WP.val rfl rfl rfl rfl (Yld.move rfl rfl) ?_
                refine WP.passG rfl rfl rfl rfl rfl rfl rfl rfl ?_
                refine WP.passG rfl rfl rfl rfl rfl rfl rfl rfl ?_
                refine WP.passG rfl rfl rfl rfl rfl rfl rfl rfl ?_
                refine WP.passG rfl rfl rfl rfl rfl rfl rfl rfl ?_
                refine WP.passG rfl rfl rfl rfl rfl rfl rfl rfl ?_
                refine WP.val rfl rfl rfl rfl (Yld.pickF rfl rfl rfl) ?_
                refine WP.val rfl rfl rfl rfl (Yld.move rfl rfl) ?_
                refine WP.valG rfl rfl rfl rfl rfl rfl rfl (Yld.move rfl rfl) ?_
                refine WP.valG rfl rfl rfl rfl rfl rfl rfl (Yld.move rfl rfl) ?_
                refine WP.passG rfl rfl rfl rfl rfl rfl rfl rfl ?_
                refine WP.passG rfl rfl rfl rfl rfl rfl rfl rfl ?_
                refine WP.passG rfl rfl rfl rfl rfl rfl rfl rfl ?_
                refine WP.passG rfl rfl rfl rfl rfl rfl rfl rfl ?_
                refine WP.passG rfl rfl rfl rfl rfl rfl rfl rfl ?_
                refine WP.valG rfl rfl rfl rfl rfl rfl rfl (Yld.pickF rfl rfl rfl) ?_
                refine WP.val rfl rfl rfl rfl (Yld.pickF rfl rfl rfl) ?_
                refine WP.nil ?_
                refine WP.sub [(2, _), (6, _), (8, _), (11, _), (12, _), (13, _), (14, _), (17, _), (18, _), (19, _), (20, _), (21, _), (22, _), (23, _), (24, _), (115, _), (170, _), (188, _)] ?_ ⟨rfl, rfl, rfl, rfl, rfl, rfl, rfl, rfl, rfl, rfl, rfl, rfl, rfl, rfl, rfl, rfl, rfl, rfl, trivial⟩
                exact WP.meet () trivial ⟨rfl, rfl, rfl, rfl, rfl, trivial⟩ rfl (by (try dsimp only); repeat (first | exact Rm.chunk | exact Rm.here | apply Rm.skip | apply Rm.skipS | apply PX.cons | (apply PX.done; (repeat (first | exact Leave.done | apply Leave.drop | apply Leave.dropS)); done) | apply PX.app))
          · rintro _ _
            refine WP.condF rfl ?_
            refine WP.skip ?_
            refine WP.next ?_
            refine WP.seq ?_
            refine WP.seq ?_
            obtain ⟨b12, c12, sp12, rfl, rfl, q12, r12⟩ := ho12.get (by omega)
            obtain ⟨b23, c23, sp23, rfl, rfl, q23, r23⟩ := ho23.get (by omega)
            refine WP.region [0] rfl ?_
            refine WP.val rfl rfl rfl rfl (Yld.assign rfl rfl) ?_
            refine WP.nil ?_
            refine WP.next ?_
            refine WP.block ?_
            refine WP.loop (X := Nat) (fun k : Nat => [(6, .bool false), (12, .slice (some ⟨b12, 0, none⟩) base.length c12), (14, vk), (23, .slice (some ⟨b23, 0, none⟩) Pl.length c23), (25, .int .i64 (k : Int))]) (fun _ => I) (fun _ => Lk ++ ((b12, row 5 (bytesV base ++ sp12)) :: (b23, row 5 (bytesV Pl ++ sp23)) :: F)) (fun k => k ≤ 512) (fun k => 512 - k) 0 (Nat.zero_le _) ⟨rfl, rfl, rfl, rfl, rfl, trivial⟩ rfl (by (try dsimp only); repeat (first | exact Rm.chunk | exact Rm.here | apply Rm.skip | apply Rm.skipS | apply PX.cons | (apply PX.done; (repeat (first | exact Leave.done | apply Leave.drop | apply Leave.dropS)); done) | apply PX.app)) ?_
            intro k hk
            try dsimp only
            try simp only [List.cons_append, List.nil_append, List.append_assoc]
            refine WP.seq ?_
            refine WP.seq ?_
            refine WP.region [0, 1] rfl ?_
            refine WP.val rfl rfl rfl rfl (Yld.move rfl rfl) ?_
            refine WP.split rfl rfl rfl rfl (Yld.lss rfl rfl rfl) (fun hkl_ => ?_) (fun hkl_ => ?_)
            · have hk' : k < 512 := by omega
              have hP : k < Pl.length := by omega
              have hB : k < base.length := by omega
              refine WP.nil ?_
              refine WP.sub [(6, _), (12, _), (14, _), (23, _), (25, _), (190, _)] ?_ ⟨rfl, rfl, rfl, rfl, rfl, rfl, trivial⟩
              refine WP.next ?_
              refine WP.condT rfl ?_
              refine WP.skip ?_
              refine WP.next ?_
              refine WP.seq ?_
              refine WP.block ?_
              refine WP.seq ?_
              refine WQ.startAll Trymixed (by kernel_rfl) _ rfl ?_
              refine WQ.val rfl rfl rfl (Yld.move rfl rfl) ?_
              refine WQ.val rfl rfl rfl (Yld.move rfl rfl) ?_
              refine WQ.val rfl rfl rfl (Yld.indexAddr rfl ty_sl_51 rfl rfl (by omega)) ?_
              refine WQ.val rfl rfl rfl (Yld.load rfl ty_sc_5 rfl (by repeat (first | exact There.h | exact There.i (by assumption) | apply There.t | apply There.s)) (byte_at hP sp23)) ?_
              refine WQ.val rfl rfl rfl (Yld.move rfl rfl) ?_
              refine WQ.val rfl rfl rfl (Yld.move rfl rfl) ?_
              refine WQ.val rfl rfl rfl (Yld.indexAddr rfl ty_sl_51 rfl rfl (by omega)) ?_
              refine WQ.val rfl rfl rfl (Yld.load rfl ty_sc_5 rfl (by repeat (first | exact There.h | exact There.i (by assumption) | apply There.t | apply There.s)) (byte_at hB sp12)) ?_
              refine WQ.val rfl rfl rfl (Yld.eql rfl rfl rfl _ rfl) ?_
              refine WQ.val rfl rfl rfl (Yld.assign rfl rfl) ?_
              refine WQ.nil ?_
              refine WP.sub [(6, _), (12, _), (14, _), (23, _), (25, _), (26, _), (190, _)] ?_ ⟨rfl, rfl, rfl, rfl, rfl, rfl, rfl, trivial⟩
              refine WP.next ?_
              refine WP.seq ?_
              refine WP.seq ?_
              refine WP.region [0] rfl ?_
              refine WP.val rfl rfl rfl rfl (Yld.assign rfl rfl) ?_
              refine WP.nil ?_
              refine WP.next ?_
              refine WP.block ?_
              refine WP.loop (X := GX) (fun t : GX => [(6, .bool false), (12, .slice (some ⟨b12, 0, none⟩) base.length c12), (14, vk), (23, .slice (some ⟨b23, 0, none⟩) Pl.length c23), (25, .int .i64 (k : Int)), (26, .bool t.g), (27, .int .i64 (t.i : Int))]) (fun _ => I) (fun _ => Lk ++ ((b12, row 5 (bytesV base ++ sp12)) :: (b23, row 5 (bytesV Pl ++ sp23)) :: F)) (fun t => t.ok k Pl[k] base[k] ks) (fun t => ks.length - t.i) ⟨0, decide ((Pl[k].toNat : Int) = (base[k].toNat : Int))⟩ ⟨Nat.zero_le _, by by_cases he : (Pl[k].toNat : Int) = (base[k].toNat : Int); exact .inl (decide_eq_true he); exact .inr ⟨fun h => he (by rw [h]), fun j _ hj => absurd hj (by simp)⟩⟩ ⟨rfl, rfl, rfl, rfl, rfl, rfl, rfl, trivial⟩ rfl (by (try dsimp only); repeat (first | exact Rm.chunk | exact Rm.here | apply Rm.skip | apply Rm.skipS | apply PX.cons | (apply PX.done; (repeat (first | exact Leave.done | apply Leave.drop | apply Leave.dropS)); done) | apply PX.app)) ?_
              rintro ⟨i, g⟩ ⟨hle2, hg⟩
              try dsimp only
              try simp only [List.cons_append, List.nil_append, List.append_assoc]
              refine WP.seq ?_
              refine WP.seq ?_
              refine WP.region [0, 1, 2, 3] rfl ?_
              refine WP.val rfl rfl rfl rfl (Yld.move rfl rfl) ?_
              refine WP.val rfl rfl rfl rfl (Yld.move rfl rfl) ?_
              refine WP.val rfl rfl rfl rfl (Yld.lenR (how.rd (I := I) (fun p hp => hp)) rfl ty_sl_44 rfl) ?_
              refine WP.split rfl rfl rfl rfl (Yld.lss rfl rfl rfl) (fun hlt3 => ?_) (fun hlt3 => ?_)
              · simp only at hle2 hg
                have hi : i < ks.length := by first | omega | (simp only at hlt3; omega)
                obtain ⟨bk, ck, spk, rfl, rfl, qk, rk⟩ := how.get (by omega)
                refine WP.nil ?_
                refine WP.sub [(6, _), (12, _), (14, _), (23, _), (25, _), (26, _), (27, _), (205, _)] ?_ ⟨rfl, rfl, rfl, rfl, rfl, rfl, rfl, rfl, trivial⟩
                refine WP.next ?_
                refine WP.condT rfl ?_
                refine WP.skip ?_
                refine WP.next ?_
                refine WP.seq ?_
                refine WP.block ?_
                refine WP.seq ?_
                refine WP.region [0, 1, 2, 3, 4, 5, 6, 7, 8] rfl ?_
                refine WP.val rfl rfl rfl rfl (Yld.move rfl rfl) ?_
                refine WP.val rfl rfl rfl rfl (Yld.move rfl rfl) ?_
                refine WP.val rfl rfl rfl rfl (Yld.move rfl rfl) ?_
                refine WP.val rfl rfl rfl rfl (Yld.indexAddr rfl ty_sl_44 rfl rfl (by omega)) ?_
                refine WP.val rfl rfl rfl rfl (Yld.fieldAddr rfl ty_fd_53_1 rfl) ?_
                refine WP.val rfl rfl rfl rfl (Yld.load rfl ty_sc_3 rfl (by repeat (first | exact There.h | exact There.i (by assumption) | apply There.t | apply There.s)) (kcells_at ks i 1 hi spk _ rfl)) ?_
                refine WP.val rfl rfl rfl rfl (Yld.mul rfl rfl rfl) ?_
                refine WP.val rfl rfl rfl rfl (Yld.sub rfl rfl rfl) ?_
                refine WP.val rfl rfl rfl rfl (Yld.assign rfl rfl) ?_
                refine WP.nil ?_
                refine WP.sub [(6, _), (12, _), (14, _), (23, _), (25, _), (26, _), (27, _), (28, _), (205, _)] ?_ ⟨rfl, rfl, rfl, rfl, rfl, rfl, rfl, rfl, rfl, trivial⟩
                refine WP.next ?_
                refine WP.seq ?_
                refine WP.region [0, 1, 2, 3, 4, 5, 6, 7, 8, 9, 10, 11] rfl ?_
                refine WP.val rfl rfl rfl rfl (Yld.move rfl rfl) ?_
                refine WP.split rfl rfl rfl rfl (Yld.geq rfl rfl rfl) (fun t1 => ?_) (fun t1 => ?_)
                · refine WP.val rfl rfl rfl rfl (Yld.move rfl rfl) ?_
                  refine WP.valG rfl rfl rfl rfl rfl rfl rfl (Yld.move rfl rfl) ?_
                  refine WP.valG rfl rfl rfl rfl rfl rfl rfl (Yld.move rfl rfl) ?_
                  refine WP.valG rfl rfl rfl rfl rfl rfl rfl (Yld.move rfl rfl) ?_
                  refine WP.valG rfl rfl rfl rfl rfl rfl rfl (Yld.indexAddr rfl ty_sl_44 rfl rfl (by omega)) ?_
                  refine WP.valG rfl rfl rfl rfl rfl rfl rfl (Yld.fieldAddr rfl ty_fd_53_3 rfl) ?_
                  refine WP.valG rfl rfl rfl rfl rfl rfl rfl (Yld.load rfl ty_sc_51 rfl (by repeat (first | exact There.h | exact There.i (by assumption) | apply There.t | apply There.s)) (kcells_at ks i 3 hi spk _ rfl)) ?_
                  refine WP.valG rfl rfl rfl rfl rfl rfl rfl (Yld.lenR (hrd _ (List.getElem_mem hi)) rfl ty_sl_51 rfl) ?_
                  refine WP.splitG rfl rfl rfl rfl rfl rfl rfl (Yld.lss rfl rfl rfl) (fun t2 => ?_) (fun t2 => ?_)
                  · refine WP.val rfl rfl rfl rfl (Yld.pickT rfl rfl rfl) ?_
                    refine WP.nil ?_
                    refine WP.sub [(6, _), (12, _), (14, _), (23, _), (25, _), (26, _), (27, _), (28, _), (205, _), (227, _)] ?_ ⟨rfl, rfl, rfl, rfl, rfl, rfl, rfl, rfl, rfl, rfl, trivial⟩
                    refine WP.next ?_
                    refine WP.condT rfl ?_
                    have htn : (IntKind.i64.wrap ((k : Int) - IntKind.i64.wrap (64 * ks[i].o.at_))).toNat < ks[i].o.b.length := by omega
                    obtain ⟨bo, ko, co, To, fro, arro, hvo, hco, hbo, ho4⟩ := (hrd _ (List.getElem_mem hi)).get (by omega)
                    have hv3 := kcells_at ks i 3 hi spk _ (rfl : (kcell ks[i])[3]? = some ks[i].vb)
                    rw [hvo] at hv3
                    have e4 := take_cells ho4 (IntKind.i64.wrap ((k : Int) - IntKind.i64.wrap (64 * ks[i].o.at_))).toNat (byteV ks[i].o.b[(IntKind.i64.wrap ((k : Int) - IntKind.i64.wrap (64 * ks[i].o.at_))).toNat]) (by simp [bytesV, htn]) (by rw [bytesV_len]; exact htn)
                    rw [Array.getElem?_toList] at e4
                    by_cases hb_g : g = true
                    · subst hb_g
                      refine WQ.startAll Trymixed (by kernel_rfl) _ rfl ?_
                      refine WQ.val rfl rfl rfl (Yld.move rfl rfl) ?_
                      refine WQ.val rfl rfl rfl (Yld.move rfl rfl) ?_
                      refine WQ.passG rfl rfl rfl rfl rfl rfl rfl ?_
                      refine WQ.passG rfl rfl rfl rfl rfl rfl rfl ?_
                      refine WQ.passG rfl rfl rfl rfl rfl rfl rfl ?_
                      refine WQ.passG rfl rfl rfl rfl rfl rfl rfl ?_
                      refine WQ.passG rfl rfl rfl rfl rfl rfl rfl ?_
                      refine WQ.passG rfl rfl rfl rfl rfl rfl rfl ?_
                      refine WQ.passG rfl rfl rfl rfl rfl rfl rfl ?_
                      refine WQ.passG rfl rfl rfl rfl rfl rfl rfl ?_
                      refine WQ.passG rfl rfl rfl rfl rfl rfl rfl ?_
                      refine WQ.passG rfl rfl rfl rfl rfl rfl rfl ?_
                      refine WQ.passG rfl rfl rfl rfl rfl rfl rfl ?_
                      refine WQ.passG rfl rfl rfl rfl rfl rfl rfl ?_
                      refine WQ.passG rfl rfl rfl rfl rfl rfl rfl ?_
                      refine WQ.val rfl rfl rfl (Yld.pickT rfl rfl rfl) ?_
                      refine WQ.val rfl rfl rfl (Yld.assign rfl rfl) ?_
                      refine WQ.nil ?_
                      refine WP.sub [(6, _), (12, _), (14, _), (23, _), (25, _), (26, _), (27, _), (28, _), (205, _), (227, _)] ?_ ⟨rfl, rfl, rfl, rfl, rfl, rfl, rfl, rfl, rfl, rfl, trivial⟩
                      refine WP.leave ?_
                      refine WP.next ?_
                      refine WP.region [0, 1, 2] rfl ?_
                      refine WP.val rfl rfl rfl rfl (Yld.move rfl rfl) ?_
                      refine WP.val rfl rfl rfl rfl (Yld.add64 rfl rfl rfl (by omega)) ?_
                      refine WP.val rfl rfl rfl rfl (Yld.assign rfl rfl) ?_
                      refine WP.nil ?_
                      refine WP.sub [(6, _), (12, _), (14, _), (23, _), (25, _), (26, _), (27, _), (28, _), (205, _), (227, _)] ?_ ⟨rfl, rfl, rfl, rfl, rfl, rfl, rfl, rfl, rfl, rfl, trivial⟩
                      exact WP.again ⟨i + 1, true⟩ ⟨hi, .inl rfl⟩ (by simp only; omega) ⟨rfl, rfl, rfl, rfl, rfl, rfl, rfl, trivial⟩ rfl (by (try dsimp only); repeat (first | exact Rm.chunk | exact Rm.here | apply Rm.skip | apply Rm.skipS | apply PX.cons | (apply PX.done; (repeat (first | exact Leave.done | apply Leave.drop | apply Leave.dropS)); done) | apply PX.app))
                    · obtain rfl : g = false := by simpa using hb_g
                      refine WQ.startAll Trymixed (by kernel_rfl) _ rfl ?_
                      refine WQ.val rfl rfl rfl (Yld.move rfl rfl) ?_
                      refine WQ.val rfl rfl rfl (Yld.move rfl rfl) ?_
                      refine WQ.valG rfl rfl rfl rfl rfl rfl (Yld.move rfl rfl) ?_
                      refine WQ.valG rfl rfl rfl rfl rfl rfl (Yld.move rfl rfl) ?_
                      refine WQ.valG rfl rfl rfl rfl rfl rfl (Yld.indexAddr rfl ty_sl_51 rfl rfl (by omega)) ?_
                      refine WQ.valG rfl rfl rfl rfl rfl rfl (Yld.load rfl ty_sc_5 rfl (by repeat (first | exact There.h | exact There.i (by assumption) | apply There.t | apply There.s)) (byte_at hP sp23)) ?_
                      refine WQ.valG rfl rfl rfl rfl rfl rfl (Yld.move rfl rfl) ?_
                      refine WQ.valG rfl rfl rfl rfl rfl rfl (Yld.move rfl rfl) ?_
                      refine WQ.valG rfl rfl rfl rfl rfl rfl (Yld.indexAddr rfl ty_sl_44 rfl rfl (by omega)) ?_
                      refine WQ.valG rfl rfl rfl rfl rfl rfl (Yld.fieldAddr rfl ty_fd_53_3 rfl) ?_
                      refine WQ.valG rfl rfl rfl rfl rfl rfl (Yld.load rfl ty_sc_51 rfl (by repeat (first | exact There.h | exact There.i (by assumption) | apply There.t | apply There.s)) hv3) ?_
                      refine WQ.valG rfl rfl rfl rfl rfl rfl (Yld.move rfl rfl) ?_
                      refine WQ.valG rfl rfl rfl rfl rfl rfl (Yld.indexAddrI rfl ty_sl_51 rfl rfl t1 t2) ?_
                      refine WQ.valG rfl rfl rfl rfl rfl rfl (Yld.loadC rfl ty_sc_5 rfl (There.i hbo) (by rw [Nat.mul_one]; exact e4)) ?_
                      refine WQ.valG rfl rfl rfl rfl rfl rfl (Yld.eql rfl rfl rfl _ rfl) ?_
                      refine WQ.val rfl rfl rfl (Yld.pickF rfl rfl rfl) ?_
                      refine WQ.val rfl rfl rfl (Yld.assign rfl rfl) ?_
                      refine WQ.nil ?_
                      refine WP.sub [(6, _), (12, _), (14, _), (23, _), (25, _), (26, _), (27, _), (28, _), (205, _), (227, _)] ?_ ⟨rfl, rfl, rfl, rfl, rfl, rfl, rfl, rfl, rfl, rfl, trivial⟩
                      refine WP.leave ?_
                      refine WP.next ?_
                      refine WP.region [0, 1, 2] rfl ?_
                      refine WP.val rfl rfl rfl rfl (Yld.move rfl rfl) ?_
                      refine WP.val rfl rfl rfl rfl (Yld.add64 rfl rfl rfl (by omega)) ?_
                      refine WP.val rfl rfl rfl rfl (Yld.assign rfl rfl) ?_
                      refine WP.nil ?_
                      refine WP.sub [(6, _), (12, _), (14, _), (23, _), (25, _), (26, _), (27, _), (28, _), (205, _), (227, _)] ?_ ⟨rfl, rfl, rfl, rfl, rfl, rfl, rfl, rfl, rfl, rfl, trivial⟩
                      have hg' : decide ((Pl[k].toNat : Int) = (ks[i].o.b[(IntKind.i64.wrap ((k : Int) - IntKind.i64.wrap (64 * ks[i].o.at_))).toNat].toNat : Int)) = true ∨ (¬ Pl[k] = base[k] ∧ ∀ j (h : j < ks.length), j < i + 1 → ¬ hit k Pl[k] ks[j]) := by
                        rcases hg with hg | ⟨n1, n2⟩
                        · cases hg
                        · by_cases hq : (Pl[k].toNat : Int) = (ks[i].o.b[(IntKind.i64.wrap ((k : Int) - IntKind.i64.wrap (64 * ks[i].o.at_))).toNat].toNat : Int)
                          · exact .inl (decide_eq_true hq)
                          · refine .inr ⟨n1, fun j h hj => ?_⟩
                            rcases Nat.lt_succ_iff_lt_or_eq.1 hj with hj | rfl
                            · exact n2 j h hj
                            · intro hh
                              have h3 := hh.2.2
                              rw [List.getElem?_eq_getElem htn] at h3
                              exact hq (by rw [Option.some.inj h3])
                      exact WP.again ⟨i + 1, _⟩ ⟨hi, hg'⟩ (by simp only; omega) ⟨rfl, rfl, rfl, rfl, rfl, rfl, rfl, trivial⟩ rfl (by (try dsimp only); repeat (first | exact Rm.chunk | exact Rm.here | apply Rm.skip | apply Rm.skipS | apply PX.cons | (apply PX.done; (repeat (first | exact Leave.done | apply Leave.drop | apply Leave.dropS)); done) | apply PX.app))
                  · refine WP.val rfl rfl rfl rfl (Yld.pickT rfl rfl rfl) ?_
                    refine WP.nil ?_
                    refine WP.sub [(6, _), (12, _), (14, _), (23, _), (25, _), (26, _), (27, _), (28, _), (205, _), (227, _)] ?_ ⟨rfl, rfl, rfl, rfl, rfl, rfl, rfl, rfl, rfl, rfl, trivial⟩
                    refine WP.next ?_
                    refine WP.condF rfl ?_
                    refine WP.skip ?_
                    refine WP.leave ?_
                    refine WP.next ?_
                    refine WP.region [0, 1, 2] rfl ?_
                    refine WP.val rfl rfl rfl rfl (Yld.move rfl rfl) ?_
                    refine WP.val rfl rfl rfl rfl (Yld.add64 rfl rfl rfl (by omega)) ?_
                    refine WP.val rfl rfl rfl rfl (Yld.assign rfl rfl) ?_
                    refine WP.nil ?_
                    refine WP.sub [(6, _), (12, _), (14, _), (23, _), (25, _), (26, _), (27, _), (28, _), (205, _), (227, _)] ?_ ⟨rfl, rfl, rfl, rfl, rfl, rfl, rfl, rfl, rfl, rfl, trivial⟩
                    exact WP.again ⟨i + 1, g⟩ ⟨hi, hg.imp id fun ⟨n1, n2⟩ => ⟨n1, fun j h hj => by rcases Nat.lt_succ_iff_lt_or_eq.1 hj with hj | rfl; exact n2 j h hj; exact fun hh => t2 hh.2.1⟩⟩ (by simp only; omega) ⟨rfl, rfl, rfl, rfl, rfl, rfl, rfl, trivial⟩ rfl (by (try dsimp only); repeat (first | exact Rm.chunk | exact Rm.here | apply Rm.skip | apply Rm.skipS | apply PX.cons | (apply PX.done; (repeat (first | exact Leave.done | apply Leave.drop | apply Leave.dropS)); done) | apply PX.app))
                · refine WP.val rfl rfl rfl rfl (Yld.move rfl rfl) ?_
                  refine WP.passG rfl rfl rfl rfl rfl rfl rfl rfl ?_
                  refine WP.passG rfl rfl rfl rfl rfl rfl rfl rfl ?_
                  refine WP.passG rfl rfl rfl rfl rfl rfl rfl rfl ?_
                  refine WP.passG rfl rfl rfl rfl rfl rfl rfl rfl ?_
                  refine WP.passG rfl rfl rfl rfl rfl rfl rfl rfl ?_
                  refine WP.passG rfl rfl rfl rfl rfl rfl rfl rfl ?_
                  refine WP.passG rfl rfl rfl rfl rfl rfl rfl rfl ?_
                  refine WP.passG rfl rfl rfl rfl rfl rfl rfl rfl ?_
                  refine WP.val rfl rfl rfl rfl (Yld.pickF rfl rfl rfl) ?_
                  refine WP.nil ?_
                  refine WP.sub [(6, _), (12, _), (14, _), (23, _), (25, _), (26, _), (27, _), (28, _), (205, _), (227, _)] ?_ ⟨rfl, rfl, rfl, rfl, rfl, rfl, rfl, rfl, rfl, rfl, trivial⟩
                  refine WP.next ?_
                  refine WP.condF rfl ?_
                  refine WP.skip ?_
                  refine WP.leave ?_
                  refine WP.next ?_
                  refine WP.region [0, 1, 2] rfl ?_
                  refine WP.val rfl rfl rfl rfl (Yld.move rfl rfl) ?_
                  refine WP.val rfl rfl rfl rfl (Yld.add64 rfl rfl rfl (by omega)) ?_
                  refine WP.val rfl rfl rfl rfl (Yld.assign rfl rfl) ?_
                  refine WP.nil ?_
                  refine WP.sub [(6, _), (12, _), (14, _), (23, _), (25, _), (26, _), (27, _), (28, _), (205, _), (227, _)] ?_ ⟨rfl, rfl, rfl, rfl, rfl, rfl, rfl, rfl, rfl, rfl, trivial⟩
                  exact WP.again ⟨i + 1, g⟩ ⟨hi, hg.imp id fun ⟨n1, n2⟩ => ⟨n1, fun j h hj => by rcases Nat.lt_succ_iff_lt_or_eq.1 hj with hj | rfl; exact n2 j h hj; exact fun hh => t1 hh.1⟩⟩ (by simp only; omega) ⟨rfl, rfl, rfl, rfl, rfl, rfl, rfl, trivial⟩ rfl (by (try dsimp only); repeat (first | exact Rm.chunk | exact Rm.here | apply Rm.skip | apply Rm.skipS | apply PX.cons | (apply PX.done; (repeat (first | exact Leave.done | apply Leave.drop | apply Leave.dropS)); done) | apply PX.app))
              · simp only at hle2 hg
                have hie : i = ks.length := by first | omega | (simp only at hlt3; omega)
                obtain rfl : g = true := by
                  rcases hg with hg | ⟨n1, n2⟩
                  · exact hg
                  · rcases hbyte k hk' _ _ (List.getElem?_eq_getElem hP) (List.getElem?_eq_getElem hB) with h | ⟨e, he, hh⟩
                    · exact absurd h n1
                    · obtain ⟨j, hj, rfl⟩ := List.getElem_of_mem he
                      exact absurd hh (n2 j hj (by omega))
                refine WP.nil ?_
                refine WP.sub [(6, _), (12, _), (14, _), (23, _), (25, _), (26, _), (27, _), (205, _)] ?_ ⟨rfl, rfl, rfl, rfl, rfl, rfl, rfl, rfl, trivial⟩
                refine WP.next ?_
                refine WP.condF rfl ?_
                refine WP.exit ?_
                refine WP.thenE ?_
                refine WP.thenE ?_
                refine WP.hit ?_
                refine WP.next ?_
                refine WP.seq ?_
                refine WP.region [0, 1] rfl ?_
                refine WP.val rfl rfl rfl rfl (Yld.move rfl rfl) ?_
                refine WP.val rfl rfl rfl rfl (Yld.not rfl rfl) ?_
                refine WP.nil ?_
                refine WP.sub [(6, _), (12, _), (14, _), (23, _), (25, _), (26, _), (27, _), (205, _), (245, _)] ?_ ⟨rfl, rfl, rfl, rfl, rfl, rfl, rfl, rfl, rfl, trivial⟩
                refine WP.next ?_
                refine WP.condF rfl ?_
                refine WP.skip ?_
                refine WP.leave ?_
                refine WP.next ?_
                refine WP.region [0, 1, 2] rfl ?_
                refine WP.val rfl rfl rfl rfl (Yld.move rfl rfl) ?_
                refine WP.val rfl rfl rfl rfl (Yld.add64 rfl rfl rfl (by omega)) ?_
                refine WP.val rfl rfl rfl rfl (Yld.assign rfl rfl) ?_
                refine WP.nil ?_
                refine WP.sub [(6, _), (12, _), (14, _), (23, _), (25, _), (26, _), (27, _), (205, _), (245, _)] ?_ ⟨rfl, rfl, rfl, rfl, rfl, rfl, rfl, rfl, rfl, trivial⟩
                exact WP.again (k + 1) (by omega) (by omega) ⟨rfl, rfl, rfl, rfl, rfl, trivial⟩ rfl (by (try dsimp only); repeat (first | exact Rm.chunk | exact Rm.here | apply Rm.skip | apply Rm.skipS | apply PX.cons | (apply PX.done; (repeat (first | exact Leave.done | apply Leave.drop | apply Leave.dropS)); done) | apply PX.app))
            · refine WP.nil ?_
              refine WP.sub [(6, _), (12, _), (14, _), (23, _), (25, _), (190, _)] ?_ ⟨rfl, rfl, rfl, rfl, rfl, rfl, trivial⟩
              refine WP.next ?_
              refine WP.condF rfl ?_
              refine WP.exit ?_
              refine WP.thenE ?_
              refine WP.thenE ?_
              refine WP.hit ?_
              refine WP.next ?_
              refine WP.seq ?_
              refine WP.region [0] rfl ?_
              refine WP.val rfl rfl rfl rfl (Yld.assign rfl rfl) ?_
              refine WP.nil ?_
              refine WP.next ?_
              refine WP.ret ?_
              refine WP.fin .ret (.inr rfl) (res1 rfl rfl) [] (by repeat (first | exact Take.nil | apply Take.cons | apply Take.app | exact Rm.chunk | exact Rm.here | apply Rm.skip | apply Rm.skipS | apply Take.all)) (by repeat (first | exact Leave.done | apply Leave.drop | apply Leave.dropS)) (Imm.le_refl _) ?_
              exact ⟨rfl, rfl, rfl⟩


end Go.Hp
