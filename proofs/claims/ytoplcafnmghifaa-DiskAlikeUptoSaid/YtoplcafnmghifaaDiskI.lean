import Derived.Test.YtoplcafnmghifaaDiskH
set_option linter.unusedVariables false
set_option linter.unusedSimpArgs false
namespace Go.Hp
open Go Go.Proofs
set_option maxHeartbeats 1000000 in
theorem disk_DiskAlike {I : Imm} {ops : List DOp} {v : Value} (hl : Slc I 5 (RDop I) v ops) (hn : ops.length ≤ 1048576) (hbd : ∀ o ∈ ops, o.b.length ≤ 1048576) : Spec Try.prog 10 [v] I [] (fun v' J L => v' = .bool true ∧ I = J ∧ L = []) := by
  obtain ⟨A, cap, rfl, hcap, hops⟩ := hl
  refine Spec.of Try.func10 rfl Try.ntmps10 (Nat.le_of_ble_eq_true rfl) (fun F => ?_)
  try simp only [List.cons_append, List.nil_append, List.append_assoc]
  dsimp only [argsEnv]
  refine WP.seq ?_
  refine WP.region [0] rfl ?_
  refine WP.val rfl rfl rfl rfl (Yld.assign rfl rfl) ?_
  refine WP.nil ?_
  refine WP.next ?_
  refine WP.seq ?_
  refine WP.region [0, 1] rfl ?_
  refine WP.loud rfl rfl ?_
  refine Op.call (disk_awake _) rfl Try.func19 rfl rfl rfl rfl (by repeat (first | exact Take.nil | apply Take.cons | apply Take.app | exact Rm.chunk | exact Rm.here | apply Rm.skip | apply Rm.skipS | apply Take.all)) ?_
  rintro v J L1 hJ ⟨rfl, rfl, rfl⟩
  clear hJ; try simp only [List.cons_append, List.nil_append, List.append_assoc]
  refine WP.val rfl rfl rfl rfl (Yld.assign rfl rfl) ?_
  refine WP.nil ?_
  refine WP.sub [(0, _), (2, _), (3, _)] ?_ ⟨rfl, rfl, rfl, trivial⟩
  refine WP.next ?_
  refine WP.seq ?_
  refine WP.region [0, 1, 2, 3, 4, 5] rfl ?_
  refine WP.loud rfl rfl ?_
  refine Op.call (disk_New (n := 8) (by decide) (by decide)) rfl Try.func20 rfl rfl rfl rfl (by repeat (first | exact Take.nil | apply Take.cons | apply Take.app | exact Rm.chunk | exact Rm.here | apply Rm.skip | apply Rm.skipS | apply Take.all)) ?_
  rintro v J La hJ ⟨rfl, da, rfl, ha⟩
  clear hJ; try simp only [List.cons_append, List.nil_append, List.append_assoc]
  refine WP.val rfl rfl rfl rfl (Yld.move rfl rfl) ?_
  refine WP.val rfl rfl rfl rfl (Yld.extract rfl rfl rfl) ?_
  refine WP.val rfl rfl rfl rfl (Yld.extract rfl rfl rfl) ?_
  refine WP.val rfl rfl rfl rfl (Yld.assign rfl rfl) ?_
  refine WP.val rfl rfl rfl rfl (Yld.assign rfl rfl) ?_
  refine WP.nil ?_
  refine WP.sub [(0, _), (2, _), (3, _), (4, _)] ?_ ⟨rfl, rfl, rfl, rfl, trivial⟩
  refine WP.next ?_
  refine WP.seq ?_
  refine WP.region [0, 1, 2, 3, 4, 5] rfl ?_
  refine WP.loud rfl rfl ?_
  refine Op.call (disk_New (n := 8) (by decide) (by decide)) rfl Try.func20 rfl rfl rfl rfl (by repeat (first | exact Take.nil | apply Take.cons | apply Take.app | exact Rm.chunk | exact Rm.here | apply Rm.skip | apply Rm.skipS | apply Take.all)) ?_
  rintro v J Lb hJ ⟨rfl, db, rfl, hb⟩
  clear hJ; try simp only [List.cons_append, List.nil_append, List.append_assoc]
  refine WP.val rfl rfl rfl rfl (Yld.move rfl rfl) ?_
  refine WP.val rfl rfl rfl rfl (Yld.extract rfl rfl rfl) ?_
  refine WP.val rfl rfl rfl rfl (Yld.extract rfl rfl rfl) ?_
  refine WP.val rfl rfl rfl rfl (Yld.assign rfl rfl) ?_
  refine WP.val rfl rfl rfl rfl (Yld.assign rfl rfl) ?_
  refine WP.nil ?_
  refine WP.sub [(0, _), (2, _), (3, _), (4, _), (6, _)] ?_ ⟨rfl, rfl, rfl, rfl, rfl, trivial⟩
  refine WP.next ?_
  refine WP.seq ?_
  refine WP.seq ?_
  refine WP.region [0, 1, 2, 3, 4, 5, 6, 7, 8, 9] rfl ?_
  refine WP.val rfl rfl rfl rfl (Yld.move rfl rfl) ?_
  refine WP.val rfl rfl rfl rfl (Yld.not rfl rfl) ?_
  refine WP.val rfl rfl rfl rfl (Yld.move rfl rfl) ?_
  refine WP.valG rfl rfl rfl rfl rfl rfl rfl (Yld.move rfl rfl) ?_
  refine WP.valG rfl rfl rfl rfl rfl rfl rfl (Yld.eqlNil rfl ty_pt_46 rfl rfl) ?_
  refine WP.val rfl rfl rfl rfl (Yld.pickF rfl rfl rfl) ?_
  refine WP.val rfl rfl rfl rfl (Yld.move rfl rfl) ?_
  refine WP.valG rfl rfl rfl rfl rfl rfl rfl (Yld.move rfl rfl) ?_
  refine WP.valG rfl rfl rfl rfl rfl rfl rfl (Yld.eqlNil rfl ty_pt_46 rfl rfl) ?_
  refine WP.val rfl rfl rfl rfl (Yld.pickF rfl rfl rfl) ?_
  refine WP.nil ?_
  refine WP.sub [(0, _), (2, _), (3, _), (4, _), (6, _), (33, _)] ?_ ⟨rfl, rfl, rfl, rfl, rfl, rfl, trivial⟩
  refine WP.next ?_
  refine WP.condF rfl ?_
  refine WP.skip ?_
  refine WP.next ?_
  refine WP.seq ?_
  refine WP.seq ?_
  refine WP.region [0] rfl ?_
  refine WP.val rfl rfl rfl rfl (Yld.assign rfl rfl) ?_
  refine WP.nil ?_
  refine WP.next ?_
  refine WP.block ?_
  refine WP.loop (X := AX) (fun t : AX => [(0, .slice A ops.length cap), (2, .bool false), (4, .pointer (some ⟨da, 0, none⟩)), (6, .pointer (some ⟨db, 0, none⟩)), (8, .int .i64 (t.i : Int))]) (fun _ => I) (fun t : AX => t.La ++ (t.Lb ++ F)) (fun t => t.ok da db ops.length) (fun t => ops.length - t.i) ⟨0, Dk.new 8, La, Lb⟩ ⟨Nat.zero_le _, ha, hb, Nat.le_refl _⟩ ⟨rfl, rfl, rfl, rfl, rfl, trivial⟩ rfl (by (try dsimp only); repeat (first | exact Rm.chunk | exact Rm.here | apply Rm.skip | apply Rm.skipS | apply PX.cons | (apply PX.done; (repeat (first | exact Leave.done | apply Leave.drop | apply Leave.dropS)); done) | apply PX.app)) ?_
  rintro ⟨i, x, La, Lb⟩ ⟨hle, ha, hb, hwl⟩
  try dsimp only
  try simp only [List.cons_append, List.nil_append, List.append_assoc]
  refine WP.seq ?_
  refine WP.seq ?_
  refine WP.region [0, 1, 2, 3] rfl ?_
  refine WP.val rfl rfl rfl rfl (Yld.move rfl rfl) ?_
  refine WP.val rfl rfl rfl rfl (Yld.move rfl rfl) ?_
  refine WP.val rfl rfl rfl rfl (Yld.len rfl ty_sl_44 rfl) ?_
  refine WP.split rfl rfl rfl rfl (Yld.lss rfl rfl rfl) (fun hlt => ?_) (fun hlt => ?_)
  · simp only at hle ha hb hwl
    have hi : i < ops.length := by first | omega | (simp only at hlt; omega)
    obtain ⟨b, kk, arr, T, fr, rfl, hbl, hel⟩ := hops.resolve_left (by rintro rfl; simp at hi)
    obtain ⟨hl5, vb, vs, hR, hvb, hvs, hmany⟩ := hel i _ (List.getElem?_eq_getElem hi)
    have e0 := take_cells hR 0 _ rfl (by decide)
    have e1 := take_cells hR 1 _ rfl (by decide)
    have e2 := take_cells hR 2 _ rfl (by decide)
    have e3 := take_cells hR 3 _ rfl (by decide)
    have e4 := take_cells hR 4 _ rfl (by decide)
    rw [Array.getElem?_toList] at e0 e1 e2 e3 e4
    have hbs := hbd _ (List.getElem_mem hi)
    refine WP.nil ?_
    refine WP.sub [(0, _), (2, _), (4, _), (6, _), (8, _), (37, _)] ?_ ⟨rfl, rfl, rfl, rfl, rfl, rfl, trivial⟩
    refine WP.next ?_
    refine WP.condT rfl ?_
    refine WP.skip ?_
    refine WP.next ?_
    refine WP.seq ?_
    refine WP.block ?_
    refine WP.seq ?_
    refine WP.region [0] rfl ?_
    refine WP.val rfl rfl rfl rfl (Yld.assign rfl rfl) ?_
    refine WP.nil ?_
    refine WP.next ?_
    refine WP.seq ?_
    refine WP.region [0] rfl ?_
    refine WP.val rfl rfl rfl rfl (Yld.assign rfl rfl) ?_
    refine WP.nil ?_
    refine WP.next ?_
    refine WP.cut (X := AY) (fun t : AY => [(0, .slice (some ⟨b, kk, none⟩) ops.length cap), (2, .bool false), (4, .pointer (some ⟨da, 0, none⟩)), (6, .pointer (some ⟨db, 0, none⟩)), (8, .int .i64 (i : Int)), (9, .int .i64 t.c), (10, .int .i64 t.c)]) (fun _ => I) (fun t : AY => t.La ++ (t.Lb ++ F)) (fun t => t.ok da db i) ?_ ?_
    · skip
      refine WP.seq ?_
      refine WP.region [0, 1, 2, 3, 4] rfl ?_
      refine WP.val rfl rfl rfl rfl (Yld.move rfl rfl) ?_
      refine WP.val rfl rfl rfl rfl (Yld.move rfl rfl) ?_
      refine WP.val rfl rfl rfl rfl (Yld.indexAddr rfl ty_sl_44 rfl rfl (by omega)) ?_
      refine WP.val rfl rfl rfl rfl (Yld.fieldAddr rfl ty_fd_53_0 rfl) ?_
      refine WP.val rfl rfl rfl rfl (Yld.loadC rfl ty_sc_3 rfl (There.i hbl) e0) ?_
      refine WP.nil ?_
      refine WP.sub [(0, _), (2, _), (4, _), (6, _), (8, _), (9, _), (10, _), (37, _), (44, _)] ?_ ⟨rfl, rfl, rfl, rfl, rfl, rfl, rfl, rfl, rfl, trivial⟩
      refine WP.next ?_
      refine WP.block ?_
      refine WP.seq ?_
      refine WP.region [0, 1] rfl ?_
      refine WP.split rfl rfl rfl rfl (Yld.eql rfl rfl rfl) (fun k0 => ?_) (fun k0 => ?_)
      · refine WP.val rfl rfl rfl rfl (Yld.assign rfl rfl) ?_
        refine WP.nil ?_
        refine WP.sub [(0, _), (2, _), (4, _), (6, _), (8, _), (9, _), (10, _), (37, _), (44, _), (45, _)] ?_ ⟨rfl, rfl, rfl, rfl, rfl, rfl, rfl, rfl, rfl, rfl, trivial⟩
        refine WP.next ?_
        refine WP.condT rfl ?_
        refine WP.seq ?_
        refine WQ.start Trymixed 11 (by kernel_rfl) _ rfl [11, 12] rfl ?_
        refine WQ.val rfl rfl rfl (Yld.move rfl rfl) ?_
        refine WQ.val rfl rfl rfl (Yld.move rfl rfl) ?_
        refine WQ.val rfl rfl rfl (Yld.move rfl rfl) ?_
        refine WQ.val rfl rfl rfl (Yld.indexAddr rfl ty_sl_44 rfl rfl (by omega)) ?_
        refine WQ.val rfl rfl rfl (Yld.fieldAddr rfl ty_fd_53_1 rfl) ?_
        refine WQ.val rfl rfl rfl (Yld.loadC rfl ty_sc_3 rfl (There.i hbl) e1) ?_
        refine WQ.val rfl rfl rfl (Yld.move rfl rfl) ?_
        refine WQ.val rfl rfl rfl (Yld.move rfl rfl) ?_
        refine WQ.val rfl rfl rfl (Yld.indexAddr rfl ty_sl_44 rfl rfl (by omega)) ?_
        refine WQ.val rfl rfl rfl (Yld.fieldAddr rfl ty_fd_53_3 rfl) ?_
        refine WQ.val rfl rfl rfl (Yld.loadC rfl ty_sc_51 rfl (There.i hbl) e3) ?_
        refine WQ.nil ?_
        refine WP.loud rfl rfl ?_
        refine Op.call (disk_Write ha hvb (by omega) (by omega)) rfl Try.func21 rfl rfl rfl rfl (by repeat (first | exact Take.nil | apply Take.cons | apply Take.app | exact Rm.chunk | exact Rm.here | apply Rm.skip | apply Rm.skipS | apply Take.all)) ?_
        rintro v J La' hJ ⟨rfl, rfl, ha'⟩
        clear hJ; try simp only [List.cons_append, List.nil_append, List.append_assoc]
        refine WP.val rfl rfl rfl rfl (Yld.assign rfl rfl) ?_
        refine WP.nil ?_
        refine WP.sub [(0, _), (2, _), (4, _), (6, _), (8, _), (9, _), (10, _), (37, _), (44, _), (45, _)] ?_ ⟨rfl, rfl, rfl, rfl, rfl, rfl, rfl, rfl, rfl, rfl, trivial⟩
        refine WP.next ?_
        refine WQ.start Trymixed 11 (by kernel_rfl) _ rfl [11, 12] rfl ?_
        refine WQ.val rfl rfl rfl (Yld.move rfl rfl) ?_
        refine WQ.val rfl rfl rfl (Yld.move rfl rfl) ?_
        refine WQ.val rfl rfl rfl (Yld.move rfl rfl) ?_
        refine WQ.val rfl rfl rfl (Yld.indexAddr rfl ty_sl_44 rfl rfl (by omega)) ?_
        refine WQ.val rfl rfl rfl (Yld.fieldAddr rfl ty_fd_53_1 rfl) ?_
        refine WQ.val rfl rfl rfl (Yld.loadC rfl ty_sc_3 rfl (There.i hbl) e1) ?_
        refine WQ.val rfl rfl rfl (Yld.move rfl rfl) ?_
        refine WQ.val rfl rfl rfl (Yld.move rfl rfl) ?_
        refine WQ.val rfl rfl rfl (Yld.indexAddr rfl ty_sl_44 rfl rfl (by omega)) ?_
        refine WQ.val rfl rfl rfl (Yld.fieldAddr rfl ty_fd_53_3 rfl) ?_
        refine WQ.val rfl rfl rfl (Yld.loadC rfl ty_sc_51 rfl (There.i hbl) e3) ?_
        refine WQ.nil ?_
        refine WP.loud rfl rfl ?_
        refine Op.call (disk_Write hb hvb (by omega) (by omega)) rfl Try.func21 rfl rfl rfl rfl (by repeat (first | exact Take.nil | apply Take.cons | apply Take.app | exact Rm.chunk | exact Rm.here | apply Rm.skip | apply Rm.skipS | apply Take.all)) ?_
        rintro v J Lb' hJ ⟨rfl, rfl, hb'⟩
        clear hJ; try simp only [List.cons_append, List.nil_append, List.append_assoc]
        refine WP.val rfl rfl rfl rfl (Yld.assign rfl rfl) ?_
        refine WP.nil ?_
        refine WP.sub [(0, _), (2, _), (4, _), (6, _), (8, _), (9, _), (10, _), (37, _), (44, _), (45, _)] ?_ ⟨rfl, rfl, rfl, rfl, rfl, rfl, rfl, rfl, rfl, rfl, trivial⟩
        refine WP.leave ?_
        exact WP.meet (⟨_, (x.write 8 ops[i].at_ ops[i].b).1, La', Lb'⟩ : AY) ⟨ha', hb', (by have := write_waits_n x 8 ops[i].at_ ops[i].b; show (x.write 8 ops[i].at_ ops[i].b).1.waits.length ≤ 8 * (i + 1); omega)⟩ ⟨rfl, rfl, rfl, rfl, rfl, rfl, rfl, trivial⟩ rfl (by (try dsimp only); repeat (first | exact Rm.chunk | exact Rm.here | apply Rm.skip | apply Rm.skipS | apply PX.cons | (apply PX.done; (repeat (first | exact Leave.done | apply Leave.drop | apply Leave.dropS)); done) | apply PX.app))
      · refine WP.val rfl rfl rfl rfl (Yld.assign rfl rfl) ?_
        refine WP.nil ?_
        refine WP.sub [(0, _), (2, _), (4, _), (6, _), (8, _), (9, _), (10, _), (37, _), (44, _), (45, _)] ?_ ⟨rfl, rfl, rfl, rfl, rfl, rfl, rfl, rfl, rfl, rfl, trivial⟩
        refine WP.next ?_
        refine WP.condF rfl ?_
        refine WP.seq ?_
        refine WP.region [0, 1] rfl ?_
        refine WP.split rfl rfl rfl rfl (Yld.eql rfl rfl rfl) (fun k2 => ?_) (fun k2 => ?_)
        · refine WP.val rfl rfl rfl rfl (Yld.assign rfl rfl) ?_
          refine WP.nil ?_
          refine WP.sub [(0, _), (2, _), (4, _), (6, _), (8, _), (9, _), (10, _), (37, _), (44, _), (45, _), (71, _)] ?_ ⟨rfl, rfl, rfl, rfl, rfl, rfl, rfl, rfl, rfl, rfl, rfl, trivial⟩
          refine WP.next ?_
          refine WP.condT rfl ?_
          refine WP.seq ?_
          refine WP.region [0, 1, 2] rfl ?_
          refine WP.val rfl rfl rfl rfl (Yld.move rfl rfl) ?_
          refine WP.loud rfl rfl ?_
          refine Op.call (disk_Sync ha) rfl Try.func22 rfl rfl rfl rfl (by repeat (first | exact Take.nil | apply Take.cons | apply Take.app | exact Rm.chunk | exact Rm.here | apply Rm.skip | apply Rm.skipS | apply Take.all)) ?_
          rintro v J La' hJ ⟨rfl, rfl, ha'⟩
          clear hJ; try simp only [List.cons_append, List.nil_append, List.append_assoc]
          refine WP.val rfl rfl rfl rfl (Yld.assign rfl rfl) ?_
          refine WP.nil ?_
          refine WP.sub [(0, _), (2, _), (4, _), (6, _), (8, _), (9, _), (10, _), (37, _), (44, _), (45, _), (71, _)] ?_ ⟨rfl, rfl, rfl, rfl, rfl, rfl, rfl, rfl, rfl, rfl, rfl, trivial⟩
          refine WP.next ?_
          refine WP.region [0, 1, 2] rfl ?_
          refine WP.val rfl rfl rfl rfl (Yld.move rfl rfl) ?_
          refine WP.loud rfl rfl ?_
          refine Op.call (disk_Sync hb) rfl Try.func22 rfl rfl rfl rfl (by repeat (first | exact Take.nil | apply Take.cons | apply Take.app | exact Rm.chunk | exact Rm.here | apply Rm.skip | apply Rm.skipS | apply Take.all)) ?_
          rintro v J Lb' hJ ⟨rfl, rfl, hb'⟩
          clear hJ; try simp only [List.cons_append, List.nil_append, List.append_assoc]
          refine WP.val rfl rfl rfl rfl (Yld.assign rfl rfl) ?_
          refine WP.nil ?_
          refine WP.sub [(0, _), (2, _), (4, _), (6, _), (8, _), (9, _), (10, _), (37, _), (44, _), (45, _), (71, _)] ?_ ⟨rfl, rfl, rfl, rfl, rfl, rfl, rfl, rfl, rfl, rfl, rfl, trivial⟩
          refine WP.leave ?_
          exact WP.meet (⟨_, x.sync, La', Lb'⟩ : AY) ⟨ha', hb', (by have := sync_waits x; show x.sync.waits.length ≤ 8 * (i + 1); omega)⟩ ⟨rfl, rfl, rfl, rfl, rfl, rfl, rfl, trivial⟩ rfl (by (try dsimp only); repeat (first | exact Rm.chunk | exact Rm.here | apply Rm.skip | apply Rm.skipS | apply PX.cons | (apply PX.done; (repeat (first | exact Leave.done | apply Leave.drop | apply Leave.dropS)); done) | apply PX.app))
        · refine WP.val rfl rfl rfl rfl (Yld.assign rfl rfl) ?_
          refine WP.nil ?_
          refine WP.sub [(0, _), (2, _), (4, _), (6, _), (8, _), (9, _), (10, _), (37, _), (44, _), (45, _), (71, _)] ?_ ⟨rfl, rfl, rfl, rfl, rfl, rfl, rfl, rfl, rfl, rfl, rfl, trivial⟩
          refine WP.next ?_
          refine WP.condF rfl ?_
          refine WP.seq ?_
          refine WP.region [0, 1] rfl ?_
          refine WP.split rfl rfl rfl rfl (Yld.eql rfl rfl rfl) (fun k3 => ?_) (fun k3 => ?_)
          · refine WP.val rfl rfl rfl rfl (Yld.assign rfl rfl) ?_
            refine WP.nil ?_
            refine WP.sub [(0, _), (2, _), (4, _), (6, _), (8, _), (9, _), (10, _), (37, _), (44, _), (45, _), (71, _), (77, _)] ?_ ⟨rfl, rfl, rfl, rfl, rfl, rfl, rfl, rfl, rfl, rfl, rfl, rfl, trivial⟩
            refine WP.next ?_
            refine WP.condT rfl ?_
            refine WP.seq ?_
            refine WP.region [0, 1, 2, 3, 4, 5, 6] rfl ?_
            refine WP.val rfl rfl rfl rfl (Yld.move rfl rfl) ?_
            refine WP.val rfl rfl rfl rfl (Yld.move rfl rfl) ?_
            refine WP.val rfl rfl rfl rfl (Yld.move rfl rfl) ?_
            refine WP.val rfl rfl rfl rfl (Yld.indexAddr rfl ty_sl_44 rfl rfl (by omega)) ?_
            refine WP.val rfl rfl rfl rfl (Yld.fieldAddr rfl ty_fd_53_2 rfl) ?_
            refine WP.val rfl rfl rfl rfl (Yld.loadC rfl ty_sc_3 rfl (There.i hbl) e2) ?_
            refine WP.loud rfl rfl ?_
            refine Op.call (disk_Cut ha hmany.2) rfl Try.func34 rfl rfl rfl rfl (by repeat (first | exact Take.nil | apply Take.cons | apply Take.app | exact Rm.chunk | exact Rm.here | apply Rm.skip | apply Rm.skipS | apply Take.all)) ?_
            rintro v J La' hJ ⟨rfl, rfl, ha'⟩
            clear hJ; try simp only [List.cons_append, List.nil_append, List.append_assoc]
            refine WP.nil ?_
            refine WP.sub [(0, _), (2, _), (4, _), (6, _), (8, _), (9, _), (10, _), (37, _), (44, _), (45, _), (71, _), (77, _)] ?_ ⟨rfl, rfl, rfl, rfl, rfl, rfl, rfl, rfl, rfl, rfl, rfl, rfl, trivial⟩
            refine WP.next ?_
            refine WP.region [0, 1, 2, 3, 4, 5, 6] rfl ?_
            refine WP.val rfl rfl rfl rfl (Yld.move rfl rfl) ?_
            refine WP.val rfl rfl rfl rfl (Yld.move rfl rfl) ?_
            refine WP.val rfl rfl rfl rfl (Yld.move rfl rfl) ?_
            refine WP.val rfl rfl rfl rfl (Yld.indexAddr rfl ty_sl_44 rfl rfl (by omega)) ?_
            refine WP.val rfl rfl rfl rfl (Yld.fieldAddr rfl ty_fd_53_2 rfl) ?_
            refine WP.val rfl rfl rfl rfl (Yld.loadC rfl ty_sc_3 rfl (There.i hbl) e2) ?_
            refine WP.loud rfl rfl ?_
            refine Op.call (disk_Cut hb hmany.2) rfl Try.func34 rfl rfl rfl rfl (by repeat (first | exact Take.nil | apply Take.cons | apply Take.app | exact Rm.chunk | exact Rm.here | apply Rm.skip | apply Rm.skipS | apply Take.all)) ?_
            rintro v J Lb' hJ ⟨rfl, rfl, hb'⟩
            clear hJ; try simp only [List.cons_append, List.nil_append, List.append_assoc]
            refine WP.nil ?_
            refine WP.sub [(0, _), (2, _), (4, _), (6, _), (8, _), (9, _), (10, _), (37, _), (44, _), (45, _), (71, _), (77, _)] ?_ ⟨rfl, rfl, rfl, rfl, rfl, rfl, rfl, rfl, rfl, rfl, rfl, rfl, trivial⟩
            refine WP.leave ?_
            exact WP.meet (⟨0, x.cut ops[i].many, La', Lb'⟩ : AY) ⟨ha', hb', (by show x.waits.length ≤ 8 * (i + 1); omega)⟩ ⟨rfl, rfl, rfl, rfl, rfl, rfl, rfl, trivial⟩ rfl (by (try dsimp only); repeat (first | exact Rm.chunk | exact Rm.here | apply Rm.skip | apply Rm.skipS | apply PX.cons | (apply PX.done; (repeat (first | exact Leave.done | apply Leave.drop | apply Leave.dropS)); done) | apply PX.app))
          · refine WP.val rfl rfl rfl rfl (Yld.assign rfl rfl) ?_
            refine WP.nil ?_
            refine WP.sub [(0, _), (2, _), (4, _), (6, _), (8, _), (9, _), (10, _), (37, _), (44, _), (45, _), (71, _), (77, _)] ?_ ⟨rfl, rfl, rfl, rfl, rfl, rfl, rfl, rfl, rfl, rfl, rfl, rfl, trivial⟩
            refine WP.next ?_
            refine WP.condF rfl ?_
            refine WP.seq ?_
            refine WP.region [0, 1] rfl ?_
            refine WP.split rfl rfl rfl rfl (Yld.eql rfl rfl rfl) (fun k4 => ?_) (fun k4 => ?_)
            · refine WP.val rfl rfl rfl rfl (Yld.assign rfl rfl) ?_
              refine WP.nil ?_
              refine WP.sub [(0, _), (2, _), (4, _), (6, _), (8, _), (9, _), (10, _), (37, _), (44, _), (45, _), (71, _), (77, _), (93, _)] ?_ ⟨rfl, rfl, rfl, rfl, rfl, rfl, rfl, rfl, rfl, rfl, rfl, rfl, rfl, trivial⟩
              refine WP.next ?_
              refine WP.condT rfl ?_
              refine WP.seq ?_
              refine WP.region [0, 1, 2, 3, 4, 5, 6] rfl ?_
              refine WP.val rfl rfl rfl rfl (Yld.move rfl rfl) ?_
              refine WP.val rfl rfl rfl rfl (Yld.move rfl rfl) ?_
              refine WP.val rfl rfl rfl rfl (Yld.move rfl rfl) ?_
              refine WP.val rfl rfl rfl rfl (Yld.indexAddr rfl ty_sl_44 rfl rfl (by omega)) ?_
              refine WP.val rfl rfl rfl rfl (Yld.fieldAddr rfl ty_fd_53_4 rfl) ?_
              refine WP.val rfl rfl rfl rfl (Yld.loadC rfl ty_sc_45 rfl (There.i hbl) e4) ?_
              refine WP.loud rfl rfl ?_
              refine Op.call (disk_Up ha hvs (by omega)) rfl Try.func25 rfl rfl rfl rfl (by repeat (first | exact Take.nil | apply Take.cons | apply Take.app | exact Rm.chunk | exact Rm.here | apply Rm.skip | apply Rm.skipS | apply Take.all)) ?_
              rintro v J La' hJ ⟨rfl, rfl, ha'⟩
              clear hJ; try simp only [List.cons_append, List.nil_append, List.append_assoc]
              refine WP.nil ?_
              refine WP.sub [(0, _), (2, _), (4, _), (6, _), (8, _), (9, _), (10, _), (37, _), (44, _), (45, _), (71, _), (77, _), (93, _)] ?_ ⟨rfl, rfl, rfl, rfl, rfl, rfl, rfl, rfl, rfl, rfl, rfl, rfl, rfl, trivial⟩
              refine WP.next ?_
              refine WP.region [0, 1, 2, 3, 4, 5, 6] rfl ?_
              refine WP.val rfl rfl rfl rfl (Yld.move rfl rfl) ?_
              refine WP.val rfl rfl rfl rfl (Yld.move rfl rfl) ?_
              refine WP.val rfl rfl rfl rfl (Yld.move rfl rfl) ?_
              refine WP.val rfl rfl rfl rfl (Yld.indexAddr rfl ty_sl_44 rfl rfl (by omega)) ?_
              refine WP.val rfl rfl rfl rfl (Yld.fieldAddr rfl ty_fd_53_4 rfl) ?_
              refine WP.val rfl rfl rfl rfl (Yld.loadC rfl ty_sc_45 rfl (There.i hbl) e4) ?_
              refine WP.loud rfl rfl ?_
              refine Op.call (disk_Up hb hvs (by omega)) rfl Try.func25 rfl rfl rfl rfl (by repeat (first | exact Take.nil | apply Take.cons | apply Take.app | exact Rm.chunk | exact Rm.here | apply Rm.skip | apply Rm.skipS | apply Take.all)) ?_
              rintro v J Lb' hJ ⟨rfl, rfl, hb'⟩
              clear hJ; try simp only [List.cons_append, List.nil_append, List.append_assoc]
              refine WP.nil ?_
              refine WP.sub [(0, _), (2, _), (4, _), (6, _), (8, _), (9, _), (10, _), (37, _), (44, _), (45, _), (71, _), (77, _), (93, _)] ?_ ⟨rfl, rfl, rfl, rfl, rfl, rfl, rfl, rfl, rfl, rfl, rfl, rfl, rfl, trivial⟩
              refine WP.leave ?_
              exact WP.meet (⟨0, x.up ops[i].stay, La', Lb'⟩ : AY) ⟨ha', hb', (Nat.zero_le _)⟩ ⟨rfl, rfl, rfl, rfl, rfl, rfl, rfl, trivial⟩ rfl (by (try dsimp only); repeat (first | exact Rm.chunk | exact Rm.here | apply Rm.skip | apply Rm.skipS | apply PX.cons | (apply PX.done; (repeat (first | exact Leave.done | apply Leave.drop | apply Leave.dropS)); done) | apply PX.app))
            · refine WP.val rfl rfl rfl rfl (Yld.assign rfl rfl) ?_
              refine WP.nil ?_
              refine WP.sub [(0, _), (2, _), (4, _), (6, _), (8, _), (9, _), (10, _), (37, _), (44, _), (45, _), (71, _), (77, _), (93, _)] ?_ ⟨rfl, rfl, rfl, rfl, rfl, rfl, rfl, rfl, rfl, rfl, rfl, rfl, rfl, trivial⟩
              refine WP.next ?_
              refine WP.condF rfl ?_
              refine WP.skip ?_
              refine WP.leave ?_
              exact WP.meet (⟨0, x, La, Lb⟩ : AY) ⟨ha, hb, by show x.waits.length ≤ 8 * (i + 1); omega⟩ ⟨rfl, rfl, rfl, rfl, rfl, rfl, rfl, trivial⟩ rfl (by (try dsimp only); repeat (first | exact Rm.chunk | exact Rm.here | apply Rm.skip | apply Rm.skipS | apply PX.cons | (apply PX.done; (repeat (first | exact Leave.done | apply Leave.drop | apply Leave.dropS)); done) | apply PX.app))
    · rintro ⟨c, y, La, Lb⟩ ⟨ha, hb, hwy⟩
      refine WP.seq ?_
      refine WP.region [0, 1] rfl ?_
      refine WP.val rfl rfl rfl rfl (Yld.move rfl rfl) ?_
      refine WP.loud rfl rfl ?_
      refine Op.call (disk_Read hb) rfl Try.func23 rfl rfl rfl rfl (by repeat (first | exact Take.nil | apply Take.cons | apply Take.app | exact Rm.chunk | exact Rm.here | apply Rm.skip | apply Rm.skipS | apply Take.all)) ?_
      rintro v J L1 hJ ⟨rfl, v1, Lr1, rfl, ho1, rfl⟩
      clear hJ; try simp only [List.cons_append, List.nil_append, List.append_assoc]
      refine WP.nil ?_
      refine WP.sub [(0, _), (2, _), (4, _), (6, _), (8, _), (9, _), (10, _)] ?_ ⟨rfl, rfl, rfl, rfl, rfl, rfl, rfl, trivial⟩
      refine WP.next ?_
      refine WP.seq ?_
      refine WQ.start Trymixed 11 (by kernel_rfl) _ rfl [11] rfl ?_
      refine WQ.val rfl rfl rfl (Yld.move rfl rfl) ?_
      refine WQ.val rfl rfl rfl (Yld.move rfl rfl) ?_
      refine WQ.val rfl rfl rfl (Yld.move rfl rfl) ?_
      refine WQ.val rfl rfl rfl (Yld.indexAddr rfl ty_sl_44 rfl rfl (by omega)) ?_
      refine WQ.val rfl rfl rfl (Yld.fieldAddr rfl ty_fd_53_1 rfl) ?_
      refine WQ.val rfl rfl rfl (Yld.loadC rfl ty_sc_3 rfl (There.i hbl) e1) ?_
      refine WQ.val rfl rfl rfl (Yld.move rfl rfl) ?_
      refine WQ.val rfl rfl rfl (Yld.move rfl rfl) ?_
      refine WQ.val rfl rfl rfl (Yld.indexAddr rfl ty_sl_44 rfl rfl (by omega)) ?_
      refine WQ.val rfl rfl rfl (Yld.fieldAddr rfl ty_fd_53_2 rfl) ?_
      refine WQ.val rfl rfl rfl (Yld.loadC rfl ty_sc_3 rfl (There.i hbl) e2) ?_
      refine WQ.nil ?_
      refine WP.loud rfl rfl ?_
      refine Op.call (disk_Read hb) rfl Try.func23 rfl rfl rfl rfl (by repeat (first | exact Take.nil | apply Take.cons | apply Take.app | exact Rm.chunk | exact Rm.here | apply Rm.skip | apply Rm.skipS | apply Take.all)) ?_
      rintro v J L1 hJ ⟨rfl, v2, Lr2, rfl, ho2, rfl⟩
      clear hJ; try simp only [List.cons_append, List.nil_append, List.append_assoc]
      refine WP.nil ?_
      refine WP.sub [(0, _), (2, _), (4, _), (6, _), (8, _), (9, _), (10, _)] ?_ ⟨rfl, rfl, rfl, rfl, rfl, rfl, rfl, trivial⟩
      refine WP.next ?_
      refine WP.seq ?_
      refine WP.region [0, 1, 2, 3, 4, 5, 6, 7, 8, 9, 10, 11, 12, 13, 14, 15, 16, 17, 18, 19, 20, 21, 22, 23, 24, 25, 26, 27, 28, 29, 30] rfl ?_
      refine WP.val rfl rfl rfl rfl (Yld.move rfl rfl) ?_
      refine WP.val rfl rfl rfl rfl (Yld.move rfl rfl) ?_
      refine WP.val rfl rfl rfl rfl (Yld.neq rfl rfl rfl false (decide_eq_false (by simp))) ?_
      refine WP.val rfl rfl rfl rfl (Yld.move rfl rfl) ?_
      refine WP.valG rfl rfl rfl rfl rfl rfl rfl (Yld.move rfl rfl) ?_
      refine WP.loudG rfl rfl rfl rfl rfl ?_
      refine Op.call (disk_On ha) rfl Try.func28 rfl rfl rfl rfl (by repeat (first | exact Take.nil | apply Take.cons | apply Take.app | exact Rm.chunk | exact Rm.here | apply Rm.skip | apply Rm.skipS | apply Take.all)) ?_
      rintro v J L1 hJ ⟨rfl, rfl, rfl⟩
      clear hJ; try simp only [List.cons_append, List.nil_append, List.append_assoc]
      refine WP.valG rfl rfl rfl rfl rfl rfl rfl (Yld.move rfl rfl) ?_
      refine WP.loudG rfl rfl rfl rfl rfl ?_
      refine Op.call (disk_On hb) rfl Try.func28 rfl rfl rfl rfl (by repeat (first | exact Take.nil | apply Take.cons | apply Take.app | exact Rm.chunk | exact Rm.here | apply Rm.skip | apply Rm.skipS | apply Take.all)) ?_
      rintro v J L1 hJ ⟨rfl, rfl, rfl⟩
      clear hJ; try simp only [List.cons_append, List.nil_append, List.append_assoc]
      refine WP.valG rfl rfl rfl rfl rfl rfl rfl (Yld.neqBool rfl (by kernel_rfl) rfl rfl false (by simp)) ?_
      refine WP.val rfl rfl rfl rfl (Yld.pickF rfl rfl rfl) ?_
      refine WP.val rfl rfl rfl rfl (Yld.move rfl rfl) ?_
      refine WP.valG rfl rfl rfl rfl rfl rfl rfl (Yld.move rfl rfl) ?_
      refine WP.loudG rfl rfl rfl rfl rfl ?_
      refine Op.call (disk_Waiting ha) rfl Try.func24 rfl rfl rfl rfl (by repeat (first | exact Take.nil | apply Take.cons | apply Take.app | exact Rm.chunk | exact Rm.here | apply Rm.skip | apply Rm.skipS | apply Take.all)) ?_
      rintro v J L1 hJ ⟨rfl, rfl, rfl⟩
      clear hJ; try simp only [List.cons_append, List.nil_append, List.append_assoc]
      refine WP.valG rfl rfl rfl rfl rfl rfl rfl (Yld.move rfl rfl) ?_
      refine WP.loudG rfl rfl rfl rfl rfl ?_
      refine Op.call (disk_Waiting hb) rfl Try.func24 rfl rfl rfl rfl (by repeat (first | exact Take.nil | apply Take.cons | apply Take.app | exact Rm.chunk | exact Rm.here | apply Rm.skip | apply Rm.skipS | apply Take.all)) ?_
      rintro v J L1 hJ ⟨rfl, rfl, rfl⟩
      clear hJ; try simp only [List.cons_append, List.nil_append, List.append_assoc]
      refine WP.valG rfl rfl rfl rfl rfl rfl rfl (Yld.neq rfl rfl rfl false (decide_eq_false (by simp))) ?_
      refine WP.val rfl rfl rfl rfl (Yld.pickF rfl rfl rfl) ?_
      refine WP.val rfl rfl rfl rfl (Yld.move rfl rfl) ?_
      refine WP.valG rfl rfl rfl rfl rfl rfl rfl (Yld.move rfl rfl) ?_
      refine WP.loudG rfl rfl rfl rfl rfl ?_
      refine Op.call (disk_Writes ha) rfl Try.func29 rfl rfl rfl rfl (by repeat (first | exact Take.nil | apply Take.cons | apply Take.app | exact Rm.chunk | exact Rm.here | apply Rm.skip | apply Rm.skipS | apply Take.all)) ?_
      rintro v J L1 hJ ⟨rfl, rfl, rfl⟩
      clear hJ; try simp only [List.cons_append, List.nil_append, List.append_assoc]
      refine WP.valG rfl rfl rfl rfl rfl rfl rfl (Yld.move rfl rfl) ?_
      refine WP.loudG rfl rfl rfl rfl rfl ?_
      refine Op.call (disk_Writes hb) rfl Try.func29 rfl rfl rfl rfl (by repeat (first | exact Take.nil | apply Take.cons | apply Take.app | exact Rm.chunk | exact Rm.here | apply Rm.skip | apply Rm.skipS | apply Take.all)) ?_
      rintro v J L1 hJ ⟨rfl, rfl, rfl⟩
      clear hJ; try simp only [List.cons_append, List.nil_append, List.append_assoc]
      refine WP.valG rfl rfl rfl rfl rfl rfl rfl (Yld.neq rfl rfl rfl false (decide_eq_false (by simp))) ?_
      refine WP.val rfl rfl rfl rfl (Yld.pickF rfl rfl rfl) ?_
      refine WP.val rfl rfl rfl rfl (Yld.move rfl rfl) ?_
      refine WP.valG rfl rfl rfl rfl rfl rfl rfl (Yld.move rfl rfl) ?_
      refine WP.loudG rfl rfl rfl rfl rfl ?_
      refine Op.call (disk_Syncs ha) rfl Try.func30 rfl rfl rfl rfl (by repeat (first | exact Take.nil | apply Take.cons | apply Take.app | exact Rm.chunk | exact Rm.here | apply Rm.skip | apply Rm.skipS | apply Take.all)) ?_
      rintro v J L1 hJ ⟨rfl, rfl, rfl⟩
      clear hJ; try simp only [List.cons_append, List.nil_append, List.append_assoc]
      refine WP.valG rfl rfl rfl rfl rfl rfl rfl (Yld.move rfl rfl) ?_
      refine WP.loudG rfl rfl rfl rfl rfl ?_
      refine Op.call (disk_Syncs hb) rfl Try.func30 rfl rfl rfl rfl (by repeat (first | exact Take.nil | apply Take.cons | apply Take.app | exact Rm.chunk | exact Rm.here | apply Rm.skip | apply Rm.skipS | apply Take.all)) ?_
      rintro v J L1 hJ ⟨rfl, rfl, rfl⟩
      clear hJ; try simp only [List.cons_append, List.nil_append, List.append_assoc]
      refine WP.valG rfl rfl rfl rfl rfl rfl rfl (Yld.neq rfl rfl rfl false (decide_eq_false (by simp))) ?_
      refine WP.val rfl rfl rfl rfl (Yld.pickF rfl rfl rfl) ?_
      refine WP.nil ?_
      refine WP.sub [(0, _), (2, _), (4, _), (6, _), (8, _), (9, _), (10, _), (153, _)] ?_ ⟨rfl, rfl, rfl, rfl, rfl, rfl, rfl, rfl, trivial⟩
      refine WP.next ?_
      refine WP.condF rfl ?_
      refine WP.skip ?_
      refine WP.leave ?_
      refine WP.next ?_
      refine WP.region [0, 1, 2] rfl ?_
      refine WP.val rfl rfl rfl rfl (Yld.move rfl rfl) ?_
      refine WP.val rfl rfl rfl rfl (Yld.add64 rfl rfl rfl (by omega)) ?_
      refine WP.val rfl rfl rfl rfl (Yld.assign rfl rfl) ?_
      refine WP.nil ?_
      refine WP.sub [(0, _), (2, _), (4, _), (6, _), (8, _), (9, _), (10, _), (153, _)] ?_ ⟨rfl, rfl, rfl, rfl, rfl, rfl, rfl, rfl, trivial⟩
      exact WP.again ⟨i + 1, y, La, Lb⟩ ⟨hi, ha, hb, hwy⟩ (by simp only; omega) ⟨rfl, rfl, rfl, rfl, rfl, trivial⟩ rfl (by (try dsimp only); repeat (first | exact Rm.chunk | exact Rm.here | apply Rm.skip | apply Rm.skipS | apply PX.cons | (apply PX.done; (repeat (first | exact Leave.done | apply Leave.drop | apply Leave.dropS)); done) | apply PX.app))
  · refine WP.nil ?_
    refine WP.sub [(0, _), (2, _), (4, _), (6, _), (8, _), (37, _)] ?_ ⟨rfl, rfl, rfl, rfl, rfl, rfl, trivial⟩
    refine WP.next ?_
    refine WP.condF rfl ?_
    refine WP.exit ?_
    refine WP.thenE ?_
    refine WP.thenE ?_
    refine WP.hit ?_
    refine WP.next ?_
    refine WP.seq ?_
    refine WP.region [0, 1, 2, 3, 4, 5, 6] rfl ?_
    refine WP.val rfl rfl rfl rfl (Yld.move rfl rfl) ?_
    refine WP.loud rfl rfl ?_
    refine Op.call (disk_Read ha) rfl Try.func23 rfl rfl rfl rfl (by repeat (first | exact Take.nil | apply Take.cons | apply Take.app | exact Rm.chunk | exact Rm.here | apply Rm.skip | apply Rm.skipS | apply Take.all)) ?_
    rintro v J L1 hJ ⟨rfl, v11, L11, rfl, ho1, rfl⟩
    clear hJ; try simp only [List.cons_append, List.nil_append, List.append_assoc]
    try simp only [List.cons_append, List.nil_append, List.append_assoc]
    refine WP.val rfl rfl rfl rfl (Yld.move rfl rfl) ?_
    refine WP.val rfl rfl rfl rfl (Yld.extract rfl rfl rfl) ?_
    refine WP.val rfl rfl rfl rfl (Yld.extract rfl rfl rfl) ?_
    refine WP.val rfl rfl rfl rfl (Yld.assign rfl rfl) ?_
    refine WP.val rfl rfl rfl rfl (Yld.assign rfl rfl) ?_
    refine WP.nil ?_
    refine WP.sub [(0, _), (2, _), (4, _), (6, _), (8, _), (11, _), (12, _), (37, _)] ?_ ⟨rfl, rfl, rfl, rfl, rfl, rfl, rfl, rfl, trivial⟩
    refine WP.next ?_
    refine WP.seq ?_
    refine WP.region [0, 1, 2, 3, 4, 5, 6] rfl ?_
    refine WP.val rfl rfl rfl rfl (Yld.move rfl rfl) ?_
    refine WP.loud rfl rfl ?_
    refine Op.call (disk_Read hb) rfl Try.func23 rfl rfl rfl rfl (by repeat (first | exact Take.nil | apply Take.cons | apply Take.app | exact Rm.chunk | exact Rm.here | apply Rm.skip | apply Rm.skipS | apply Take.all)) ?_
    rintro v J L1 hJ ⟨rfl, v13, L13, rfl, ho2, rfl⟩
    clear hJ; try simp only [List.cons_append, List.nil_append, List.append_assoc]
    try simp only [List.cons_append, List.nil_append, List.append_assoc]
    refine WP.val rfl rfl rfl rfl (Yld.move rfl rfl) ?_
    refine WP.val rfl rfl rfl rfl (Yld.extract rfl rfl rfl) ?_
    refine WP.val rfl rfl rfl rfl (Yld.extract rfl rfl rfl) ?_
    refine WP.val rfl rfl rfl rfl (Yld.assign rfl rfl) ?_
    refine WP.val rfl rfl rfl rfl (Yld.assign rfl rfl) ?_
    refine WP.nil ?_
    refine WP.sub [(0, _), (2, _), (4, _), (6, _), (8, _), (11, _), (12, _), (13, _), (14, _), (37, _)] ?_ ⟨rfl, rfl, rfl, rfl, rfl, rfl, rfl, rfl, rfl, rfl, trivial⟩
    refine WP.next ?_
    refine WP.seq ?_
    refine WP.region [0, 1, 2, 3, 4, 5, 6, 7, 8, 9, 10] rfl ?_
    refine WP.val rfl rfl rfl rfl (Yld.move rfl rfl) ?_
    refine WP.val rfl rfl rfl rfl (Yld.move rfl rfl) ?_
    refine WP.val rfl rfl rfl rfl (Yld.eql rfl rfl rfl true (decide_eq_true (by rfl))) ?_
    refine WP.val rfl rfl rfl rfl (Yld.move rfl rfl) ?_
    refine WP.valG rfl rfl rfl rfl rfl rfl rfl (Yld.move rfl rfl) ?_
    refine WP.valG rfl rfl rfl rfl rfl rfl rfl (Yld.str (e := 5) rfl (by kernel_rfl) (by kernel_rfl) (by kernel_rfl) rfl (ho1.rd (by intro p hp; simp [hp]))) ?_
    refine WP.valG rfl rfl rfl rfl rfl rfl rfl (Yld.move rfl rfl) ?_
    refine WP.valG rfl rfl rfl rfl rfl rfl rfl (Yld.str (e := 5) rfl (by kernel_rfl) (by kernel_rfl) (by kernel_rfl) rfl (ho2.rd (by intro p hp; simp [hp]))) ?_
    refine WP.valG rfl rfl rfl rfl rfl rfl rfl (Yld.eqlStr rfl rfl rfl true (by simp)) ?_
    refine WP.val rfl rfl rfl rfl (Yld.pickT rfl rfl rfl) ?_
    refine WP.val rfl rfl rfl rfl (Yld.assign rfl rfl) ?_
    refine WP.nil ?_
    refine WP.sub [(0, _), (2, _), (4, _), (6, _), (8, _), (11, _), (12, _), (13, _), (14, _), (37, _)] ?_ ⟨rfl, rfl, rfl, rfl, rfl, rfl, rfl, rfl, rfl, rfl, trivial⟩
    refine WP.next ?_
    refine WP.ret ?_
    refine WP.fin .ret (.inr rfl) (res1 rfl rfl) [] (by repeat (first | exact Take.nil | apply Take.cons | apply Take.app | exact Rm.chunk | exact Rm.here | apply Rm.skip | apply Rm.skipS | apply Take.all)) (by repeat (first | exact Leave.done | apply Leave.drop | apply Leave.dropS)) (Imm.le_refl _) ?_
    exact ⟨rfl, rfl, rfl⟩


end Go.Hp
