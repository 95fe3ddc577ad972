import Derived.Test.YtelkknmnnmmoaaaSupL
set_option linter.unusedVariables false
set_option linter.unusedSimpArgs false
namespace Go.Hp
open Go Go.Proofs

theorem syn_now (x : Dk) : x.sync.now = x.now := by unfold Dk.sync; split <;> rfl
theorem syn_off (x : Dk) : x.sync.off = x.off := by unfold Dk.sync; split <;> rfl
theorem syn_left (x : Dk) : x.sync.left = x.left := by unfold Dk.sync; split <;> rfl
theorem syn_waits (x : Dk) : x.sync.waits.length ≤ x.waits.length := by unfold Dk.sync; split; exact Nat.le_refl _; exact Nat.zero_le _
theorem w1_left {x : Dk} {a : Nat} {s : List UInt8} (h : x.left = -1) : (x.write1 a s).left = -1 := by show dec x.left = -1; rw [h]; rfl
theorem w1_waits (x : Dk) (a : Nat) (s : List UInt8) : (x.write1 a s).waits.length = x.waits.length + 1 := by show (x.waits ++ [_]).length = _; simp
structure NX where
  i : Nat
  x : Dk
  J : Imm
  L : Chunks
  s : Sp
structure NX.ok (I : Imm) (d : Nat) (first : Int) (m : Nat) (t : NX) : Prop where
  le : t.i ≤ m
  hJ : I.le t.J
  hd : IsDisk d 8 t.x t.L
  old : Old t.x (first + t.i)
  wl : t.x.waits.length ≤ t.i
theorem super_Newer {I : Imm} {first : Int} {ops : List SOp} {v : Value} (hl : Slc I 9 (RSOp I) v ops) (hn : ops.length ≤ 1353245080339) (hf : -9223372036854775808 ≤ first) : Spec Try.prog 5 [.int .i64 first, v] I [] (fun v J L => v = .bool true ∧ L = []) := by
  obtain ⟨A, cap, rfl, hcap, _⟩ := id hl
  refine Spec.of Try.func5 rfl Try.ntmps5 (Nat.le_of_ble_eq_true rfl) (fun F => ?_)
  try simp only [List.cons_append, List.nil_append, List.append_assoc]
  dsimp only [argsEnv]
  refine WP.seq ?_
  refine WP.region [0] rfl ?_
  refine WP.val rfl rfl rfl rfl (Yld.assign rfl rfl) ?_
  refine WP.nil ?_
  refine WP.next ?_
  refine WP.seq ?_
  refine WP.region [0, 1] rfl ?_
  refine WP.loud rfl rfl ?_
  refine Op.call super_awake rfl Try.func8 rfl rfl rfl rfl (by repeat (first | exact Take.nil | with_reducible apply Take.cons | apply Take.app | exact Rm.chunk | exact Rm.here | exact Rm.nil0 | apply Rm.skip | apply Rm.skipS | (focus (apply Take.all; (repeat (first | exact Rm.chunk | exact Rm.here | exact Rm.nil0 | apply Rm.skip | apply Rm.skipS)); done)) | apply Take.cons)) ?_
  rintro v Ja L1 hJa ⟨rfl, rfl⟩
  try simp only [List.cons_append, List.nil_append, List.append_assoc]
  refine WP.val rfl rfl rfl rfl (Yld.assign rfl rfl) ?_
  refine WP.nil ?_
  refine WP.sub [(0, _), (1, _), (4, _), (5, _)] ?_ ⟨rfl, rfl, rfl, rfl, trivial⟩
  refine WP.next ?_
  refine WP.seq ?_
  refine WP.region [0, 1, 2, 3, 4, 5] rfl ?_
  refine WP.loud rfl rfl ?_
  refine Op.call (disk_New (n := 8) (by decide) (by decide)) rfl Try.func13 rfl rfl rfl rfl (by repeat (first | exact Take.nil | with_reducible apply Take.cons | apply Take.app | exact Rm.chunk | exact Rm.here | exact Rm.nil0 | apply Rm.skip | apply Rm.skipS | (focus (apply Take.all; (repeat (first | exact Rm.chunk | exact Rm.here | exact Rm.nil0 | apply Rm.skip | apply Rm.skipS)); done)) | apply Take.cons)) ?_
  rintro v J Ld hJ ⟨rfl, d, rfl, hd⟩
  clear hJ; try simp only [List.cons_append, List.nil_append, List.append_assoc]
  refine WP.val rfl rfl rfl rfl (Yld.move rfl rfl) ?_
  refine WP.val rfl rfl rfl rfl (Yld.extract rfl rfl rfl) ?_
  refine WP.val rfl rfl rfl rfl (Yld.extract rfl rfl rfl) ?_
  refine WP.val rfl rfl rfl rfl (Yld.assign rfl rfl) ?_
  refine WP.val rfl rfl rfl rfl (Yld.assign rfl rfl) ?_
  refine WP.nil ?_
  refine WP.sub [(0, _), (1, _), (4, _), (5, _), (6, _), (7, _)] ?_ ⟨rfl, rfl, rfl, rfl, rfl, rfl, trivial⟩
  refine WP.next ?_
  refine WP.seq ?_
  refine WP.seq ?_
  refine WP.region [0, 1, 2, 3, 4, 5, 6, 7, 8, 9] rfl ?_
  refine WP.val rfl rfl rfl rfl (Yld.move rfl rfl) ?_
  refine WP.val rfl rfl rfl rfl (Yld.not rfl rfl) ?_
  refine WP.val rfl rfl rfl rfl (Yld.move rfl rfl) ?_
  refine WP.valG rfl rfl rfl rfl rfl rfl rfl (Yld.move rfl rfl) ?_
  refine WP.valG rfl rfl rfl rfl rfl rfl rfl (Yld.eqlNil rfl ty_pt_32 rfl rfl) ?_
  refine WP.val rfl rfl rfl rfl (Yld.pickF rfl rfl rfl) ?_
  refine WP.val rfl rfl rfl rfl (Yld.move rfl rfl) ?_
  refine WP.valG rfl rfl rfl rfl rfl rfl rfl (Yld.move rfl rfl) ?_
  refine WP.valG rfl rfl rfl rfl rfl rfl rfl (Yld.neq rfl rfl rfl false (decide_eq_false (by omega))) ?_
  refine WP.val rfl rfl rfl rfl (Yld.pickF rfl rfl rfl) ?_
  refine WP.nil ?_
  refine WP.sub [(0, _), (1, _), (4, _), (5, _), (6, _), (7, _), (29, _)] ?_ ⟨rfl, rfl, rfl, rfl, rfl, rfl, rfl, trivial⟩
  refine WP.next ?_
  refine WP.condF rfl ?_
  refine WP.skip ?_
  refine WP.next ?_
  refine WP.seq ?_
  refine WP.region [0, 1, 2] rfl ?_
  refine WP.val rfl rfl rfl rfl (Yld.buildS (pl := []) rfl ty_zr_23 ty_zd_23 (by kernel_rfl) rfl (vs := []) rfl (segs := []) rfl rfl (by repeat (first | exact SetSeg.nil | apply SetSeg.one | exact SetAt.zero | apply SetAt.succ))) ?_
  refine WP.loud rfl rfl ?_
  refine Op.alloc rfl rfl rfl ty_zr_23 (fun b8 => ?_)
  refine WP.loud rfl rfl ?_
  refine Op.storeAll rfl rfl ty_sz_23 rfl rfl rfl rfl (by repeat (first | exact Upd.head | apply Upd.tail | apply Upd.tailS)) rfl ?_
  refine WP.nil ?_
  refine WP.sub [(0, _), (1, _), (4, _), (5, _), (6, _), (7, _), (8, _), (29, _)] ?_ ⟨rfl, rfl, rfl, rfl, rfl, rfl, rfl, rfl, trivial⟩
  refine WP.next ?_
  refine WP.seq ?_
  refine WP.seq ?_
  refine WP.region [0] rfl ?_
  refine WP.val rfl rfl rfl rfl (Yld.assign rfl rfl) ?_
  refine WP.nil ?_
  refine WP.next ?_
  refine WP.block ?_
  refine WP.loop (X := NX) (fun t : NX => [(0, .int .i64 first), (1, .slice A ops.length cap), (6, .pointer (some ⟨d, 0, none⟩)), (8, .pointer (some ⟨b8, 0, none⟩)), (9, .int .i64 (t.i : Int))]) (fun t => t.J) (fun t : NX => (b8, row 23 (spV t.s)) :: (t.L ++ F)) (fun t => t.ok I d first ops.length) (fun t => ops.length - t.i) ⟨0, Dk.new 8, Ja, Ld, spZ⟩ ⟨Nat.zero_le _, hJa, hd, Old.new _, Nat.le_refl _⟩ ⟨rfl, rfl, rfl, rfl, rfl, trivial⟩ rfl (by (try dsimp only); repeat (first | exact Rm.chunk | exact Rm.here | exact Rm.nil0 | apply Rm.skip | apply Rm.skipS | apply PX.cons | (apply PX.done; (repeat (first | exact Leave.done | apply Leave.drop | apply Leave.dropS)); done) | apply PX.app)) ?_
  rintro ⟨i, x, J, L, lst⟩ ⟨hle, hJ, hd, hold, hwl⟩; dsimp only at hle hJ hd hold hwl
  try dsimp only
  try simp only [List.cons_append, List.nil_append, List.append_assoc]
  refine WP.seq ?_
  refine WP.seq ?_
  refine WP.region [0, 1, 2, 3] rfl ?_
  refine WP.val rfl rfl rfl rfl (Yld.move rfl rfl) ?_
  refine WP.val rfl rfl rfl rfl (Yld.move rfl rfl) ?_
  refine WP.val rfl rfl rfl rfl (Yld.len rfl ty_sl_42 rfl) ?_
  refine WP.split rfl rfl rfl rfl (Yld.lss rfl rfl rfl) (fun hlt => ?_) (fun hlt => ?_)
  · have hi : i < ops.length := by omega
    obtain ⟨bo, ko, To, fro, arro, vb, vs, rfl, hbl, e0, e1, e2, e7, e8, hvb, hvs, hnn⟩ := hl.sop hi
    have hbl := hJ.2 _ _ hbl
    refine WP.nil ?_
    refine WP.sub [(0, _), (1, _), (6, _), (8, _), (9, _), (34, _)] ?_ ⟨rfl, rfl, rfl, rfl, rfl, rfl, trivial⟩
    refine WP.next ?_
    refine WP.condT rfl ?_
    refine WP.skip ?_
    refine WP.next ?_
    refine WP.seq ?_
    refine WP.block ?_
    refine WP.seq ?_
    refine WP.region [0, 1, 2, 3, 4, 5, 6] rfl ?_
    refine WP.val rfl rfl rfl rfl (Yld.move rfl rfl) ?_
    refine WP.val rfl rfl rfl rfl (Yld.move rfl rfl) ?_
    refine WP.val rfl rfl rfl rfl (Yld.indexAddr (i := i) rfl ty_sl_42 rfl rfl hi) ?_
    refine WP.val rfl rfl rfl rfl (Yld.fieldAddr rfl ty_fd_45_2 rfl) ?_
    refine WP.val rfl rfl rfl rfl (Yld.loadAggC rfl ty_ag_23 rfl (There.i hbl) e2 rfl) ?_
    refine WP.loud rfl rfl ?_
    refine Op.alloc rfl rfl rfl ty_zr_23 (fun b10 => ?_)
    refine WP.loud rfl rfl ?_
    refine Op.storeAll rfl rfl ty_sz_23 rfl rfl rfl rfl (by repeat (first | exact Upd.head | apply Upd.tail | apply Upd.tailS)) rfl ?_
    refine WP.nil ?_
    refine WP.sub [(0, _), (1, _), (6, _), (8, _), (9, _), (10, _), (34, _)] ?_ ⟨rfl, rfl, rfl, rfl, rfl, rfl, rfl, trivial⟩
    refine WP.next ?_
    refine WP.seq ?_
    refine WP.region [0, 1, 2, 3, 4] rfl ?_
    refine WP.val rfl rfl rfl rfl (Yld.move rfl rfl) ?_
    refine WP.val rfl rfl rfl rfl (Yld.move rfl rfl) ?_
    refine WP.val rfl rfl rfl rfl (Yld.add rfl rfl rfl) ?_
    refine WP.val rfl rfl rfl rfl (Yld.fieldAddr rfl ty_fd_23_0 rfl) ?_
    refine WP.loud rfl rfl ?_
    refine Op.store1 rfl rfl ty_sz_3 rfl rfl rfl (by repeat (first | exact Upd.head | apply Upd.tail | apply Upd.tailS)) (by repeat (first | exact SetAt.zero | apply SetAt.succ)) ?_
    refine WP.nil ?_
    refine WP.sub [(0, _), (1, _), (6, _), (8, _), (9, _), (10, _), (34, _)] ?_ ⟨rfl, rfl, rfl, rfl, rfl, rfl, rfl, trivial⟩
    refine WP.next ?_
    refine WP.seq ?_
    refine WP.region [0, 1, 2] rfl ?_
    refine WP.val rfl rfl rfl rfl (Yld.loadAll rfl ty_ag_23 rfl (by repeat (first | exact There.h | exact There.i (by assumption) | apply There.t | apply There.s)) rfl) ?_
    refine WP.loud rfl rfl ?_
    refine Op.call (ref16_May (s := (⟨IntKind.i64.wrap (first + (i : Int)), ops[i].s.place, ops[i].s.first, ops[i].s.era, ops[i].s.upto⟩ : Sp))) rfl Try.func14 rfl rfl rfl rfl (by repeat (first | exact Take.nil | with_reducible apply Take.cons | apply Take.app | exact Rm.chunk | exact Rm.here | exact Rm.nil0 | apply Rm.skip | apply Rm.skipS | (focus (apply Take.all; (repeat (first | exact Rm.chunk | exact Rm.here | exact Rm.nil0 | apply Rm.skip | apply Rm.skipS)); done)) | apply Take.cons)) ?_
    rintro v J L1 hJ ⟨bm, rfl, hbm, rfl, rfl⟩
    clear hJ; try simp only [List.cons_append, List.nil_append, List.append_assoc]
    by_cases hm : bm = true
    · rw [hm]
      refine WP.val rfl rfl rfl rfl (Yld.assign rfl rfl) ?_
      refine WP.nil ?_
      refine WP.sub [(0, _), (1, _), (6, _), (8, _), (9, _), (10, _), (11, _), (34, _)] ?_ ⟨rfl, rfl, rfl, rfl, rfl, rfl, rfl, rfl, trivial⟩
      refine WP.next ?_
      refine WP.seq ?_
      refine WP.seq ?_
      refine WP.region [0, 1, 2, 3, 4, 5] rfl ?_
      refine WP.val rfl rfl rfl rfl (Yld.move rfl rfl) ?_
      refine WP.val rfl rfl rfl rfl (Yld.not rfl rfl) ?_
      refine WP.val rfl rfl rfl rfl (Yld.move rfl rfl) ?_
      refine WP.valG rfl rfl rfl rfl rfl rfl rfl (Yld.move rfl rfl) ?_
      refine WP.splitG rfl rfl rfl rfl rfl rfl rfl (Yld.gtr rfl rfl rfl) (fun hgt => ?_) (fun hgt => ?_)
      · refine WP.val rfl rfl rfl rfl (Yld.pickF rfl rfl rfl) ?_
        refine WP.nil ?_
        refine WP.sub [(0, _), (1, _), (6, _), (8, _), (9, _), (10, _), (11, _), (34, _), (53, _)] ?_ ⟨rfl, rfl, rfl, rfl, rfl, rfl, rfl, rfl, rfl, trivial⟩
        refine WP.next ?_
        refine WP.condT rfl ?_
        refine WP.seq ?_
        refine WP.region [0] rfl ?_
        refine WP.val rfl rfl rfl rfl (Yld.assign rfl rfl) ?_
        refine WP.nil ?_
        refine WP.next ?_
        refine WP.ret ?_
        refine WP.fin .ret (.inr rfl) (res1 rfl rfl) [] (by repeat (first | exact Take.nil | with_reducible apply Take.cons | apply Take.app | exact Rm.chunk | exact Rm.here | exact Rm.nil0 | apply Rm.skip | apply Rm.skipS | (focus (apply Take.all; (repeat (first | exact Rm.chunk | exact Rm.here | exact Rm.nil0 | apply Rm.skip | apply Rm.skipS)); done)) | apply Take.cons)) (by repeat (first | exact Leave.done | apply Leave.drop | apply Leave.dropS)) hJ ?_
        exact ⟨rfl, rfl⟩
      · have hw : IntKind.i64.wrap (first + (i : Int)) = first + (i : Int) := wrap64_id (by omega)
        rw [hw] at hbm ⊢
        have hs := hbm.1 hm
        have hwr := Old.write (s := (⟨first + (i : Int), ops[i].s.place, ops[i].s.first, ops[i].s.era, ops[i].s.upto⟩ : Sp)) hold hs
        refine WP.val rfl rfl rfl rfl (Yld.pickF rfl rfl rfl) ?_
        refine WP.nil ?_
        refine WP.sub [(0, _), (1, _), (6, _), (8, _), (9, _), (10, _), (11, _), (34, _), (53, _)] ?_ ⟨rfl, rfl, rfl, rfl, rfl, rfl, rfl, rfl, rfl, trivial⟩
        refine WP.next ?_
        refine WP.condF rfl ?_
        refine WP.skip ?_
        refine WP.next ?_
        refine WP.seq ?_
        refine WP.region [0, 1, 2, 3] rfl ?_
        refine WP.val rfl rfl rfl rfl (Yld.move rfl rfl) ?_
        refine WP.val rfl rfl rfl rfl (Yld.loadAll rfl ty_ag_23 rfl (by repeat (first | exact There.h | exact There.i (by assumption) | apply There.t | apply There.s)) rfl) ?_
        refine WP.loud rfl rfl ?_
        refine Op.call (super_Write_ok (s := (⟨first + (i : Int), ops[i].s.place, ops[i].s.first, ops[i].s.era, ops[i].s.upto⟩ : Sp)) hd hs (by omega)) rfl Try.func17 rfl rfl rfl rfl (by repeat (first | exact Take.nil | with_reducible apply Take.cons | apply Take.app | exact Rm.chunk | exact Rm.here | exact Rm.nil0 | apply Rm.skip | apply Rm.skipS | (focus (apply Take.all; (repeat (first | exact Rm.chunk | exact Rm.here | exact Rm.nil0 | apply Rm.skip | apply Rm.skipS)); done)) | apply Take.cons)) ?_
        rintro v J2 Le hJ2 ⟨rfl, hd2⟩
        try simp only [List.cons_append, List.nil_append, List.append_assoc]
        rw [hwr] at hd2 ⊢
        have hbl := hJ2.2 _ _ hbl
        refine WP.val rfl rfl rfl rfl (Yld.assign rfl rfl) ?_
        refine WP.nil ?_
        refine WP.sub [(0, _), (1, _), (6, _), (8, _), (9, _), (10, _), (11, _), (12, _), (34, _), (53, _)] ?_ ⟨rfl, rfl, rfl, rfl, rfl, rfl, rfl, rfl, rfl, rfl, trivial⟩
        refine WP.next ?_
        refine WP.seq ?_
        refine WP.seq ?_
        refine WP.region [0, 1, 2, 3, 4, 5] rfl ?_
        refine WP.val rfl rfl rfl rfl (Yld.move rfl rfl) ?_
        refine WP.val rfl rfl rfl rfl (Yld.move rfl rfl) ?_
        refine WP.val rfl rfl rfl rfl (Yld.indexAddr (i := i) rfl ty_sl_42 rfl rfl hi) ?_
        refine WP.val rfl rfl rfl rfl (Yld.fieldAddr rfl ty_fd_45_0 rfl) ?_
        refine WP.val rfl rfl rfl rfl (Yld.loadC rfl ty_sc_3 rfl (There.i hbl) e0) ?_
        refine WP.split rfl rfl rfl rfl (Yld.eql rfl rfl rfl) (fun hk => ?_) (fun hk => ?_)
        · refine WP.nil ?_
          refine WP.sub [(0, _), (1, _), (6, _), (8, _), (9, _), (10, _), (11, _), (12, _), (34, _), (53, _), (62, _)] ?_ ⟨rfl, rfl, rfl, rfl, rfl, rfl, rfl, rfl, rfl, rfl, rfl, trivial⟩
          refine WP.next ?_
          refine WP.condT rfl ?_
          refine WP.region [0, 1] rfl ?_
          refine WP.val rfl rfl rfl rfl (Yld.move rfl rfl) ?_
          refine WP.loud rfl rfl ?_
          refine Op.call (disk_Sync hd2) rfl Try.func20 rfl rfl rfl rfl (by repeat (first | exact Take.nil | with_reducible apply Take.cons | apply Take.app | exact Rm.chunk | exact Rm.here | exact Rm.nil0 | apply Rm.skip | apply Rm.skipS | (focus (apply Take.all; (repeat (first | exact Rm.chunk | exact Rm.here | exact Rm.nil0 | apply Rm.skip | apply Rm.skipS)); done)) | apply Take.cons)) ?_
          rintro v J Ls hJ ⟨rfl, rfl, hd3⟩
          clear hJ; try simp only [List.cons_append, List.nil_append, List.append_assoc]
          refine WP.nil ?_
          refine WP.sub [(0, _), (1, _), (6, _), (8, _), (9, _), (10, _), (11, _), (12, _), (34, _), (53, _), (62, _)] ?_ ⟨rfl, rfl, rfl, rfl, rfl, rfl, rfl, rfl, rfl, rfl, rfl, trivial⟩
          refine WP.next ?_
          refine WP.seq ?_
          refine WP.region [0, 1] rfl ?_
          refine WP.val rfl rfl rfl rfl (Yld.loadAll rfl ty_ag_23 rfl (by repeat (first | exact There.h | exact There.i (by assumption) | apply There.t | apply There.s)) rfl) ?_
          refine WP.loud rfl rfl ?_
          refine Op.storeAll rfl rfl ty_sz_23 rfl rfl rfl rfl (by repeat (first | exact Upd.head | apply Upd.tail | apply Upd.tailS)) rfl ?_
          refine WP.nil ?_
          refine WP.sub [(0, _), (1, _), (6, _), (8, _), (9, _), (10, _), (11, _), (12, _), (34, _), (53, _), (62, _)] ?_ ⟨rfl, rfl, rfl, rfl, rfl, rfl, rfl, rfl, rfl, rfl, rfl, trivial⟩
          refine WP.next ?_
          refine WP.seq ?_
          refine WP.region [0, 1, 2, 3, 4, 5, 6, 7] rfl ?_
          refine WP.val rfl rfl rfl rfl (Yld.move rfl rfl) ?_
          refine WP.loud rfl rfl ?_
          refine Op.call (super_Read hd3) rfl Try.func18 rfl rfl rfl rfl (by repeat (first | exact Take.nil | with_reducible apply Take.cons | apply Take.app | exact Rm.chunk | exact Rm.here | exact Rm.nil0 | apply Rm.skip | apply Rm.skipS | (focus (apply Take.all; (repeat (first | exact Rm.chunk | exact Rm.here | exact Rm.nil0 | apply Rm.skip | apply Rm.skipS)); done)) | apply Take.cons)) ?_
          rintro v J3 Ls hJ3 ⟨rfl, rfl⟩
          try simp only [List.cons_append, List.nil_append, List.append_assoc]
          have hrd := Old.read (s := (⟨first + (i : Int), ops[i].s.place, ops[i].s.first, ops[i].s.era, ops[i].s.upto⟩ : Sp)) hold hs (y := (x.write1 (lane (⟨first + (i : Int), ops[i].s.place, ops[i].s.first, ops[i].s.era, ops[i].s.upto⟩ : Sp).no) (enc (⟨first + (i : Int), ops[i].s.place, ops[i].s.first, ops[i].s.era, ops[i].s.upto⟩ : Sp))).sync) (syn_now _) ((syn_off _).trans hold.off)
          have hnx := Old.next (s := (⟨first + (i : Int), ops[i].s.place, ops[i].s.first, ops[i].s.era, ops[i].s.upto⟩ : Sp)) hold hs (y := (x.write1 (lane (⟨first + (i : Int), ops[i].s.place, ops[i].s.first, ops[i].s.era, ops[i].s.upto⟩ : Sp).no) (enc (⟨first + (i : Int), ops[i].s.place, ops[i].s.first, ops[i].s.era, ops[i].s.upto⟩ : Sp))).sync) (Dk.sync_ok (hold.secs hs).1) (syn_now _) ((syn_off _).trans hold.off) ((syn_left _).trans (w1_left hold.left))
          rw [hrd]
          refine WP.val rfl rfl rfl rfl (Yld.move rfl rfl) ?_
          refine WP.val rfl rfl rfl rfl (Yld.extract rfl rfl rfl) ?_
          refine WP.val rfl rfl rfl rfl (Yld.extract rfl rfl rfl) ?_
          refine WP.loud rfl rfl ?_
          refine Op.alloc rfl rfl rfl ty_zr_23 (fun b13 => ?_)
          refine WP.loud rfl rfl ?_
          refine Op.storeAll rfl rfl ty_sz_23 rfl rfl rfl rfl (by repeat (first | exact Upd.head | apply Upd.tail | apply Upd.tailS)) rfl ?_
          refine WP.val rfl rfl rfl rfl (Yld.assign rfl rfl) ?_
          refine WP.nil ?_
          refine WP.sub [(0, _), (1, _), (6, _), (8, _), (9, _), (10, _), (11, _), (12, _), (13, _), (14, _), (34, _), (53, _), (62, _)] ?_ ⟨rfl, rfl, rfl, rfl, rfl, rfl, rfl, rfl, rfl, rfl, rfl, rfl, rfl, trivial⟩
          refine WP.next ?_
          refine WP.seq ?_
          refine WP.region [0, 1, 2, 3, 4, 5, 6, 7, 8, 9, 10] rfl ?_
          refine WP.val rfl rfl rfl rfl (Yld.move rfl rfl) ?_
          refine WP.val rfl rfl rfl rfl (Yld.neq rfl rfl rfl false (decide_eq_false (by omega))) ?_
          refine WP.val rfl rfl rfl rfl (Yld.move rfl rfl) ?_
          refine WP.valG rfl rfl rfl rfl rfl rfl rfl (Yld.move rfl rfl) ?_
          refine WP.valG rfl rfl rfl rfl rfl rfl rfl (Yld.neq rfl rfl rfl false (decide_eq_false (by omega))) ?_
          refine WP.val rfl rfl rfl rfl (Yld.pickF rfl rfl rfl) ?_
          refine WP.val rfl rfl rfl rfl (Yld.move rfl rfl) ?_
          refine WP.valG rfl rfl rfl rfl rfl rfl rfl (Yld.loadAll rfl ty_ag_23 rfl (by repeat (first | exact There.h | exact There.i (by assumption) | apply There.t | apply There.s)) rfl) ?_
          refine WP.valG rfl rfl rfl rfl rfl rfl rfl (Yld.loadAll rfl ty_ag_23 rfl (by repeat (first | exact There.h | exact There.i (by assumption) | apply There.t | apply There.s)) rfl) ?_
          refine WP.valG rfl rfl rfl rfl rfl rfl rfl (Yld.neqInts (m := 5) (us := (⟨first + (i : Int), ops[i].s.place, ops[i].s.first, ops[i].s.era, ops[i].s.upto⟩ : Sp).ints) (vs := (⟨first + (i : Int), ops[i].s.place, ops[i].s.first, ops[i].s.era, ops[i].s.upto⟩ : Sp).ints) rfl (by kernel_rfl) rfl rfl rfl rfl false (by simp)) ?_
          refine WP.val rfl rfl rfl rfl (Yld.pickF rfl rfl rfl) ?_
          refine WP.nil ?_
          refine WP.sub [(0, _), (1, _), (6, _), (8, _), (9, _), (10, _), (11, _), (12, _), (13, _), (14, _), (34, _), (53, _), (62, _), (81, _)] ?_ ⟨rfl, rfl, rfl, rfl, rfl, rfl, rfl, rfl, rfl, rfl, rfl, rfl, rfl, rfl, trivial⟩
          refine WP.next ?_
          refine WP.condF rfl ?_
          refine WP.skip ?_
          refine WP.leave ?_
          refine WP.next ?_
          refine WP.region [0, 1, 2] rfl ?_
          refine WP.val rfl rfl rfl rfl (Yld.move rfl rfl) ?_
          refine WP.val rfl rfl rfl rfl (Yld.add64 rfl rfl rfl (by omega)) ?_
          refine WP.val rfl rfl rfl rfl (Yld.assign rfl rfl) ?_
          refine WP.nil ?_
          refine WP.sub [(0, _), (1, _), (6, _), (8, _), (9, _), (10, _), (11, _), (12, _), (13, _), (14, _), (34, _), (53, _), (62, _), (81, _)] ?_ ⟨rfl, rfl, rfl, rfl, rfl, rfl, rfl, rfl, rfl, rfl, rfl, rfl, rfl, rfl, trivial⟩
          exact WP.again ⟨i + 1, (x.write1 (lane (⟨first + (i : Int), ops[i].s.place, ops[i].s.first, ops[i].s.era, ops[i].s.upto⟩ : Sp).no) (enc (⟨first + (i : Int), ops[i].s.place, ops[i].s.first, ops[i].s.era, ops[i].s.upto⟩ : Sp))).sync, J3, Ls, (⟨first + (i : Int), ops[i].s.place, ops[i].s.first, ops[i].s.era, ops[i].s.upto⟩ : Sp)⟩ ⟨hi, Imm.le_trans hJ (Imm.le_trans hJ2 hJ3), hd3, (by have q := hnx; rwa [Int.add_assoc] at q), (by have q1 := w1_waits x (lane (⟨first + (i : Int), ops[i].s.place, ops[i].s.first, ops[i].s.era, ops[i].s.upto⟩ : Sp).no) (enc (⟨first + (i : Int), ops[i].s.place, ops[i].s.first, ops[i].s.era, ops[i].s.upto⟩ : Sp)); have q2 := syn_waits (x.write1 (lane (⟨first + (i : Int), ops[i].s.place, ops[i].s.first, ops[i].s.era, ops[i].s.upto⟩ : Sp).no) (enc (⟨first + (i : Int), ops[i].s.place, ops[i].s.first, ops[i].s.era, ops[i].s.upto⟩ : Sp))); simp only at q1 q2 ⊢; omega)⟩ (show ops.length - (i + 1) < ops.length - i by omega) ⟨rfl, rfl, rfl, rfl, rfl, trivial⟩ rfl (by (try dsimp only); repeat (first | exact Rm.chunk | exact Rm.here | exact Rm.nil0 | apply Rm.skip | apply Rm.skipS | apply PX.cons | (apply PX.done; (repeat (first | exact Leave.done | apply Leave.drop | apply Leave.dropS)); done) | apply PX.app))
        · refine WP.nil ?_
          refine WP.sub [(0, _), (1, _), (6, _), (8, _), (9, _), (10, _), (11, _), (12, _), (34, _), (53, _), (62, _)] ?_ ⟨rfl, rfl, rfl, rfl, rfl, rfl, rfl, rfl, rfl, rfl, rfl, trivial⟩
          refine WP.next ?_
          refine WP.condF rfl ?_
          refine WP.skip ?_
          refine WP.next ?_
          refine WP.seq ?_
          refine WP.region [0, 1] rfl ?_
          refine WP.val rfl rfl rfl rfl (Yld.loadAll rfl ty_ag_23 rfl (by repeat (first | exact There.h | exact There.i (by assumption) | apply There.t | apply There.s)) rfl) ?_
          refine WP.loud rfl rfl ?_
          refine Op.storeAll rfl rfl ty_sz_23 rfl rfl rfl rfl (by repeat (first | exact Upd.head | apply Upd.tail | apply Upd.tailS)) rfl ?_
          refine WP.nil ?_
          refine WP.sub [(0, _), (1, _), (6, _), (8, _), (9, _), (10, _), (11, _), (12, _), (34, _), (53, _), (62, _)] ?_ ⟨rfl, rfl, rfl, rfl, rfl, rfl, rfl, rfl, rfl, rfl, rfl, trivial⟩
          refine WP.next ?_
          refine WP.seq ?_
          refine WP.region [0, 1, 2, 3, 4, 5, 6, 7] rfl ?_
          refine WP.val rfl rfl rfl rfl (Yld.move rfl rfl) ?_
          refine WP.loud rfl rfl ?_
          refine Op.call (super_Read hd2) rfl Try.func18 rfl rfl rfl rfl (by repeat (first | exact Take.nil | with_reducible apply Take.cons | apply Take.app | exact Rm.chunk | exact Rm.here | exact Rm.nil0 | apply Rm.skip | apply Rm.skipS | (focus (apply Take.all; (repeat (first | exact Rm.chunk | exact Rm.here | exact Rm.nil0 | apply Rm.skip | apply Rm.skipS)); done)) | apply Take.cons)) ?_
          rintro v J3 Le hJ3 ⟨rfl, rfl⟩
          try simp only [List.cons_append, List.nil_append, List.append_assoc]
          have hrd := Old.read (s := (⟨first + (i : Int), ops[i].s.place, ops[i].s.first, ops[i].s.era, ops[i].s.upto⟩ : Sp)) hold hs (y := x.write1 (lane (⟨first + (i : Int), ops[i].s.place, ops[i].s.first, ops[i].s.era, ops[i].s.upto⟩ : Sp).no) (enc (⟨first + (i : Int), ops[i].s.place, ops[i].s.first, ops[i].s.era, ops[i].s.upto⟩ : Sp))) rfl hold.off
          have hnx := Old.next (s := (⟨first + (i : Int), ops[i].s.place, ops[i].s.first, ops[i].s.era, ops[i].s.upto⟩ : Sp)) hold hs (y := x.write1 (lane (⟨first + (i : Int), ops[i].s.place, ops[i].s.first, ops[i].s.era, ops[i].s.upto⟩ : Sp).no) (enc (⟨first + (i : Int), ops[i].s.place, ops[i].s.first, ops[i].s.era, ops[i].s.upto⟩ : Sp))) (hold.secs hs).1 rfl hold.off (w1_left hold.left)
          rw [hrd]
          refine WP.val rfl rfl rfl rfl (Yld.move rfl rfl) ?_
          refine WP.val rfl rfl rfl rfl (Yld.extract rfl rfl rfl) ?_
          refine WP.val rfl rfl rfl rfl (Yld.extract rfl rfl rfl) ?_
          refine WP.loud rfl rfl ?_
          refine Op.alloc rfl rfl rfl ty_zr_23 (fun b13 => ?_)
          refine WP.loud rfl rfl ?_
          refine Op.storeAll rfl rfl ty_sz_23 rfl rfl rfl rfl (by repeat (first | exact Upd.head | apply Upd.tail | apply Upd.tailS)) rfl ?_
          refine WP.val rfl rfl rfl rfl (Yld.assign rfl rfl) ?_
          refine WP.nil ?_
          refine WP.sub [(0, _), (1, _), (6, _), (8, _), (9, _), (10, _), (11, _), (12, _), (13, _), (14, _), (34, _), (53, _), (62, _)] ?_ ⟨rfl, rfl, rfl, rfl, rfl, rfl, rfl, rfl, rfl, rfl, rfl, rfl, rfl, trivial⟩
          refine WP.next ?_
          refine WP.seq ?_
          refine WP.region [0, 1, 2, 3, 4, 5, 6, 7, 8, 9, 10] rfl ?_
          refine WP.val rfl rfl rfl rfl (Yld.move rfl rfl) ?_
          refine WP.val rfl rfl rfl rfl (Yld.neq rfl rfl rfl false (decide_eq_false (by omega))) ?_
          refine WP.val rfl rfl rfl rfl (Yld.move rfl rfl) ?_
          refine WP.valG rfl rfl rfl rfl rfl rfl rfl (Yld.move rfl rfl) ?_
          refine WP.valG rfl rfl rfl rfl rfl rfl rfl (Yld.neq rfl rfl rfl false (decide_eq_false (by omega))) ?_
          refine WP.val rfl rfl rfl rfl (Yld.pickF rfl rfl rfl) ?_
          refine WP.val rfl rfl rfl rfl (Yld.move rfl rfl) ?_
          refine WP.valG rfl rfl rfl rfl rfl rfl rfl (Yld.loadAll rfl ty_ag_23 rfl (by repeat (first | exact There.h | exact There.i (by assumption) | apply There.t | apply There.s)) rfl) ?_
          refine WP.valG rfl rfl rfl rfl rfl rfl rfl (Yld.loadAll rfl ty_ag_23 rfl (by repeat (first | exact There.h | exact There.i (by assumption) | apply There.t | apply There.s)) rfl) ?_
          refine WP.valG rfl rfl rfl rfl rfl rfl rfl (Yld.neqInts (m := 5) (us := (⟨first + (i : Int), ops[i].s.place, ops[i].s.first, ops[i].s.era, ops[i].s.upto⟩ : Sp).ints) (vs := (⟨first + (i : Int), ops[i].s.place, ops[i].s.first, ops[i].s.era, ops[i].s.upto⟩ : Sp).ints) rfl (by kernel_rfl) rfl rfl rfl rfl false (by simp)) ?_
          refine WP.val rfl rfl rfl rfl (Yld.pickF rfl rfl rfl) ?_
          refine WP.nil ?_
          refine WP.sub [(0, _), (1, _), (6, _), (8, _), (9, _), (10, _), (11, _), (12, _), (13, _), (14, _), (34, _), (53, _), (62, _), (81, _)] ?_ ⟨rfl, rfl, rfl, rfl, rfl, rfl, rfl, rfl, rfl, rfl, rfl, rfl, rfl, rfl, trivial⟩
          refine WP.next ?_
          refine WP.condF rfl ?_
          refine WP.skip ?_
          refine WP.leave ?_
          refine WP.next ?_
          refine WP.region [0, 1, 2] rfl ?_
          refine WP.val rfl rfl rfl rfl (Yld.move rfl rfl) ?_
          refine WP.val rfl rfl rfl rfl (Yld.add64 rfl rfl rfl (by omega)) ?_
          refine WP.val rfl rfl rfl rfl (Yld.assign rfl rfl) ?_
          refine WP.nil ?_
          refine WP.sub [(0, _), (1, _), (6, _), (8, _), (9, _), (10, _), (11, _), (12, _), (13, _), (14, _), (34, _), (53, _), (62, _), (81, _)] ?_ ⟨rfl, rfl, rfl, rfl, rfl, rfl, rfl, rfl, rfl, rfl, rfl, rfl, rfl, rfl, trivial⟩
          exact WP.again ⟨i + 1, x.write1 (lane (⟨first + (i : Int), ops[i].s.place, ops[i].s.first, ops[i].s.era, ops[i].s.upto⟩ : Sp).no) (enc (⟨first + (i : Int), ops[i].s.place, ops[i].s.first, ops[i].s.era, ops[i].s.upto⟩ : Sp)), J3, Le, (⟨first + (i : Int), ops[i].s.place, ops[i].s.first, ops[i].s.era, ops[i].s.upto⟩ : Sp)⟩ ⟨hi, Imm.le_trans hJ (Imm.le_trans hJ2 hJ3), hd2, (by have q := hnx; rwa [Int.add_assoc] at q), (by have q1 := w1_waits x (lane (⟨first + (i : Int), ops[i].s.place, ops[i].s.first, ops[i].s.era, ops[i].s.upto⟩ : Sp).no) (enc (⟨first + (i : Int), ops[i].s.place, ops[i].s.first, ops[i].s.era, ops[i].s.upto⟩ : Sp)); have q2 := syn_waits (x.write1 (lane (⟨first + (i : Int), ops[i].s.place, ops[i].s.first, ops[i].s.era, ops[i].s.upto⟩ : Sp).no) (enc (⟨first + (i : Int), ops[i].s.place, ops[i].s.first, ops[i].s.era, ops[i].s.upto⟩ : Sp))); simp only at q1 q2 ⊢; omega)⟩ (show ops.length - (i + 1) < ops.length - i by omega) ⟨rfl, rfl, rfl, rfl, rfl, trivial⟩ rfl (by (try dsimp only); repeat (first | exact Rm.chunk | exact Rm.here | exact Rm.nil0 | apply Rm.skip | apply Rm.skipS | apply PX.cons | (apply PX.done; (repeat (first | exact Leave.done | apply Leave.drop | apply Leave.dropS)); done) | apply PX.app))
    · have hm : bm = false := by simpa using hm
      rw [hm]
      refine WP.val rfl rfl rfl rfl (Yld.assign rfl rfl) ?_
      refine WP.nil ?_
      refine WP.sub [(0, _), (1, _), (6, _), (8, _), (9, _), (10, _), (11, _), (34, _)] ?_ ⟨rfl, rfl, rfl, rfl, rfl, rfl, rfl, rfl, trivial⟩
      refine WP.next ?_
      refine WP.seq ?_
      refine WP.seq ?_
      refine WP.region [0, 1, 2, 3, 4, 5] rfl ?_
      refine WP.val rfl rfl rfl rfl (Yld.move rfl rfl) ?_
      refine WP.val rfl rfl rfl rfl (Yld.not rfl rfl) ?_
      refine WP.val rfl rfl rfl rfl (Yld.move rfl rfl) ?_
      refine WP.passG rfl rfl rfl rfl rfl rfl rfl rfl ?_
      refine WP.passG rfl rfl rfl rfl rfl rfl rfl rfl ?_
      refine WP.val rfl rfl rfl rfl (Yld.pickT rfl rfl rfl) ?_
      refine WP.nil ?_
      refine WP.sub [(0, _), (1, _), (6, _), (8, _), (9, _), (10, _), (11, _), (34, _), (53, _)] ?_ ⟨rfl, rfl, rfl, rfl, rfl, rfl, rfl, rfl, rfl, trivial⟩
      refine WP.next ?_
      refine WP.condT rfl ?_
      refine WP.seq ?_
      refine WP.region [0] rfl ?_
      refine WP.val rfl rfl rfl rfl (Yld.assign rfl rfl) ?_
      refine WP.nil ?_
      refine WP.next ?_
      refine WP.ret ?_
      refine WP.fin .ret (.inr rfl) (res1 rfl rfl) [] (by repeat (first | exact Take.nil | with_reducible apply Take.cons | apply Take.app | exact Rm.chunk | exact Rm.here | exact Rm.nil0 | apply Rm.skip | apply Rm.skipS | (focus (apply Take.all; (repeat (first | exact Rm.chunk | exact Rm.here | exact Rm.nil0 | apply Rm.skip | apply Rm.skipS)); done)) | apply Take.cons)) (by repeat (first | exact Leave.done | apply Leave.drop | apply Leave.dropS)) hJ ?_
      exact ⟨rfl, rfl⟩
  · refine WP.nil ?_
    refine WP.sub [(0, _), (1, _), (6, _), (8, _), (9, _), (34, _)] ?_ ⟨rfl, rfl, rfl, rfl, rfl, rfl, trivial⟩
    refine WP.next ?_
    refine WP.condF rfl ?_
    refine WP.exit ?_
    refine WP.thenE ?_
    refine WP.thenE ?_
    refine WP.hit ?_
    refine WP.next ?_
    refine WP.seq ?_
    refine WP.region [0] rfl ?_
    refine WP.val rfl rfl rfl rfl (Yld.assign rfl rfl) ?_
    refine WP.nil ?_
    refine WP.next ?_
    refine WP.ret ?_
    refine WP.fin .ret (.inr rfl) (res1 rfl rfl) [] (by repeat (first | exact Take.nil | with_reducible apply Take.cons | apply Take.app | exact Rm.chunk | exact Rm.here | exact Rm.nil0 | apply Rm.skip | apply Rm.skipS | (focus (apply Take.all; (repeat (first | exact Rm.chunk | exact Rm.here | exact Rm.nil0 | apply Rm.skip | apply Rm.skipS)); done)) | apply Take.cons)) (by repeat (first | exact Leave.done | apply Leave.drop | apply Leave.dropS)) hJ ?_
    exact ⟨rfl, rfl⟩


end Go.Hp
