import Derived.Test.YtelkknmnnmmoaaaSupN
set_option linter.unusedVariables false
set_option linter.unusedSimpArgs false
namespace Go.Hp
open Go Go.Proofs

theorem sec_torn_at {p : List UInt8} {n : Nat} {e : Nat × List UInt8} {k : Int} (hp : p.length = n * 64) (he : e.1 < n ∧ e.2.length = 64) : sec (torn p e k) e.1 = e.2.take (keepN k) ++ (sec p e.1).drop (keepN k) := by
  have hk := keepN_le k
  unfold sec torn
  have h1 : (p.take (e.1 * 64)).length = e.1 * 64 := by simp; omega
  have h2 : (e.2.take (keepN k)).length = keepN k := by simp; omega
  rw [List.append_assoc, List.drop_append, List.drop_of_length_le (by omega), h1, Nat.sub_self, List.drop_zero, List.nil_append, List.take_append, h2, List.take_of_length_le (by omega), List.drop_take, List.drop_drop]
theorem Calm.torn {x : Dk} {last s : Sp} (h : Calm x last) (hs : s.may) (hn : s.no = last.no + 1) (ks : List Int) :
    ∃ t, supR ((x.write1 (lane s.no) (enc s)).up ks) 8 = (t, 0) ∧ Calm ((x.write1 (lane s.no) (enc s)).up ks) t ∧ (t = s ∨ t = last) := by
  have hok := Dk.up_ok (Dk.write1_ok h.ok (enc_len s) (show lane s.no < 8 from lane_lt _)) ks
  have hnow : ((x.write1 (lane s.no) (enc s)).up ks).now = Hp.torn x.now (lane s.no, enc s) (ks.headD 0) := by
    show tear x.plat (x.waits ++ [(lane s.no, enc s)]) ks = _
    rw [h.waits, h.plat]; rfl
  have he : (lane s.no, enc s).1 < 8 ∧ (lane s.no, enc s).2.length = 64 := ⟨lane_lt _, enc_len s⟩
  have st := h.step hs hn (y := (x.write1 (lane s.no) (enc s)).up ks) hok rfl rfl rfl rfl (m := keepN (ks.headD 0)) (keepN_le _)
    (by rw [hnow, ← hn]; exact sec_torn_at h.ok.ln he) (by rw [hnow]; exact sec_torn h.ok.ln he (by rw [hn]; exact lane_ne _))
  rcases st with ⟨a, b⟩ | ⟨_, a, b⟩
  · exact ⟨s, a, b, .inl rfl⟩
  · exact ⟨last, a, b, .inr rfl⟩
theorem Calm.synced {x : Dk} {last s : Sp} (h : Calm x last) (hs : s.may) (hn : s.no = last.no + 1) (ks : List Int) :
    supR ((x.write1 (lane s.no) (enc s)).sync.up ks) 8 = (s, 0) ∧ Calm ((x.write1 (lane s.no) (enc s)).sync.up ks) s := by
  have hw1 := Dk.write1_ok h.ok (enc_len s) (show lane s.no < 8 from lane_lt _)
  have hok := Dk.up_ok (Dk.sync_ok hw1) ks
  have hsy : (x.write1 (lane s.no) (enc s)).sync = { x.write1 (lane s.no) (enc s) with plat := (x.write1 (lane s.no) (enc s)).now, waits := [], syncs := IntKind.i64.wrap ((x.write1 (lane s.no) (enc s)).syncs + 1) } := by
    unfold Dk.sync
    rw [if_neg (by rw [w1_off, h.off]; decide)]
  have hnow : ((x.write1 (lane s.no) (enc s)).sync.up ks).now = (x.write1 (lane s.no) (enc s)).now := by
    show tear (x.write1 (lane s.no) (enc s)).sync.plat (x.write1 (lane s.no) (enc s)).sync.waits ks = _
    rw [hsy]; rfl
  have st := h.step hs hn (y := (x.write1 (lane s.no) (enc s)).sync.up ks) hok rfl rfl rfl rfl (m := 64) (Nat.le_refl _)
    (by rw [hnow, ← hn]
        have e1 : sec (x.write1 (lane s.no) (enc s)).now (lane s.no) = enc s := sec_same (enc_len s) (by rw [h.ok.ln]; have := lane_lt s.no; omega)
        rw [e1, List.take_of_length_le (by rw [enc_len]; exact Nat.le_refl _), List.drop_of_length_le (by rw [sec_len h.ok.ln (lane_lt _)]; exact Nat.le_refl _), List.append_nil])
    (by rw [hnow]; exact sec_ne (enc_len s) (Nat.le_refl _) (by rw [h.ok.ln]; have := lane_lt s.no; omega) (by rw [hn]; exact lane_ne _))
  rcases st with ⟨a, b⟩ | ⟨a, _⟩
  · exact ⟨a, b⟩
  · exact absurd rfl a
theorem Calm.write {x : Dk} {last s : Sp} (h : Calm x last) (hs : s.may) : x.write 8 (s.no % 2 * 4) (enc s) = (x.write1 (lane s.no) (enc s), 0) := by
  have hp := hs.no
  rw [write_one (n := 8) (x := x) (at_ := s.no % 2 * 4) (bs := enc s) h.off (by rw [h.left]; decide) (by omega) (by omega) (enc_len s)]
  rfl
theorem Sp.ints_inj {s t : Sp} (h : s.ints = t.ints) : s = t := by cases s; cases t; simp [Sp.ints] at h; simp [h]
theorem Calm.wb1 {x : Dk} {last : Sp} (h : Calm x last) {a : Nat} {s : List UInt8} : (x.write1 a s).waits.length ≤ 1954687338000 := by rw [w1_waits, h.waits]; decide
structure TX where
  i : Nat
  x : Dk
  J : Imm
  L : Chunks
  s : Sp
structure TX.ok (I : Imm) (d : Nat) (m : Nat) (t : TX) : Prop where
  le : t.i ≤ m
  hJ : I.le t.J
  hd : IsDisk d 8 t.x t.L
  calm : Calm t.x t.s
theorem super_Torn {I : Imm} {ops : List SOp} {v : Value} (hl : Slc I 9 (RSOp I) v ops) (hn : ops.length ≤ 1353245080339) : Spec Try.prog 6 [v] I [] (fun v J L => v = .bool true ∧ L = []) := by
  obtain ⟨A, cap, rfl, hcap, _⟩ := id hl
  refine Spec.of Try.func6 rfl Try.ntmps6 (Nat.le_of_ble_eq_true rfl) (fun F => ?_)
  try simp only [List.cons_append, List.nil_append, List.append_assoc]
  dsimp only [argsEnv]
  refine WP.seq ?_
  refine WP.region [0] rfl ?_
  refine WP.val rfl rfl rfl rfl (Yld.assign rfl rfl) ?_
  refine WP.nil ?_
  refine WP.next ?_
  refine WP.seq ?_
  refine WP.region [0, 1] rfl ?_
  refine WP.loud rfl rfl ?_
  refine Op.call super_awake rfl Try.func8 rfl rfl rfl rfl (by repeat (first | exact Take.nil | with_reducible apply Take.cons | apply Take.app | exact Rm.chunk | exact Rm.here | exact Rm.nil0 | apply Rm.skip | apply Rm.skipS | (focus (apply Take.all; (repeat (first | exact Rm.chunk | exact Rm.here | exact Rm.nil0 | apply Rm.skip | apply Rm.skipS)); done)) | apply Take.cons)) ?_
  rintro v Ja L1 hJa ⟨rfl, rfl⟩
  try simp only [List.cons_append, List.nil_append, List.append_assoc]
  refine WP.val rfl rfl rfl rfl (Yld.assign rfl rfl) ?_
  refine WP.nil ?_
  refine WP.sub [(0, _), (2, _), (3, _)] ?_ ⟨rfl, rfl, rfl, trivial⟩
  refine WP.next ?_
  refine WP.seq ?_
  refine WP.region [0, 1, 2, 3, 4, 5] rfl ?_
  refine WP.loud rfl rfl ?_
  refine Op.call (disk_New (n := 8) (by decide) (by decide)) rfl Try.func13 rfl rfl rfl rfl (by repeat (first | exact Take.nil | with_reducible apply Take.cons | apply Take.app | exact Rm.chunk | exact Rm.here | exact Rm.nil0 | apply Rm.skip | apply Rm.skipS | (focus (apply Take.all; (repeat (first | exact Rm.chunk | exact Rm.here | exact Rm.nil0 | apply Rm.skip | apply Rm.skipS)); done)) | apply Take.cons)) ?_
  rintro v J Ld hJ ⟨rfl, d, rfl, hd⟩
  clear hJ; try simp only [List.cons_append, List.nil_append, List.append_assoc]
  refine WP.val rfl rfl rfl rfl (Yld.move rfl rfl) ?_
  refine WP.val rfl rfl rfl rfl (Yld.extract rfl rfl rfl) ?_
  refine WP.val rfl rfl rfl rfl (Yld.extract rfl rfl rfl) ?_
  refine WP.val rfl rfl rfl rfl (Yld.assign rfl rfl) ?_
  refine WP.val rfl rfl rfl rfl (Yld.assign rfl rfl) ?_
  refine WP.nil ?_
  refine WP.sub [(0, _), (2, _), (3, _), (4, _), (5, _)] ?_ ⟨rfl, rfl, rfl, rfl, rfl, trivial⟩
  refine WP.next ?_
  refine WP.seq ?_
  refine WP.seq ?_
  refine WP.region [0, 1, 2, 3, 4, 5, 6, 7, 8, 9] rfl ?_
  refine WP.val rfl rfl rfl rfl (Yld.move rfl rfl) ?_
  refine WP.val rfl rfl rfl rfl (Yld.not rfl rfl) ?_
  refine WP.val rfl rfl rfl rfl (Yld.move rfl rfl) ?_
  refine WP.valG rfl rfl rfl rfl rfl rfl rfl (Yld.move rfl rfl) ?_
  refine WP.valG rfl rfl rfl rfl rfl rfl rfl (Yld.eqlNil rfl ty_pt_32 rfl rfl) ?_
  refine WP.val rfl rfl rfl rfl (Yld.pickF rfl rfl rfl) ?_
  refine WP.val rfl rfl rfl rfl (Yld.move rfl rfl) ?_
  refine WP.valG rfl rfl rfl rfl rfl rfl rfl (Yld.move rfl rfl) ?_
  refine WP.valG rfl rfl rfl rfl rfl rfl rfl (Yld.neq rfl rfl rfl false (decide_eq_false (by omega))) ?_
  refine WP.val rfl rfl rfl rfl (Yld.pickF rfl rfl rfl) ?_
  refine WP.nil ?_
  refine WP.sub [(0, _), (2, _), (3, _), (4, _), (5, _), (28, _)] ?_ ⟨rfl, rfl, rfl, rfl, rfl, rfl, trivial⟩
  refine WP.next ?_
  refine WP.condF rfl ?_
  refine WP.skip ?_
  refine WP.next ?_
  refine WP.seq ?_
  refine WP.region [0, 1, 2] rfl ?_
  refine WP.val rfl rfl rfl rfl (Yld.buildS (pl := []) rfl ty_zr_23 ty_zd_23 (by kernel_rfl) rfl (vs := []) rfl (segs := []) rfl rfl (by repeat (first | exact SetSeg.nil | apply SetSeg.one | exact SetAt.zero | apply SetAt.succ))) ?_
  refine WP.loud rfl rfl ?_
  refine Op.alloc rfl rfl rfl ty_zr_23 (fun b6 => ?_)
  refine WP.loud rfl rfl ?_
  refine Op.storeAll rfl rfl ty_sz_23 rfl rfl rfl rfl (by repeat (first | exact Upd.head | apply Upd.tail | apply Upd.tailS)) rfl ?_
  refine WP.nil ?_
  refine WP.sub [(0, _), (2, _), (3, _), (4, _), (5, _), (6, _), (28, _)] ?_ ⟨rfl, rfl, rfl, rfl, rfl, rfl, rfl, trivial⟩
  refine WP.next ?_
  refine WP.seq ?_
  refine WP.seq ?_
  refine WP.region [0] rfl ?_
  refine WP.val rfl rfl rfl rfl (Yld.assign rfl rfl) ?_
  refine WP.nil ?_
  refine WP.next ?_
  refine WP.block ?_
  refine WP.loop (X := TX) (fun t : TX => [(0, .slice A ops.length cap), (4, .pointer (some ⟨d, 0, none⟩)), (6, .pointer (some ⟨b6, 0, none⟩)), (7, .int .i64 (t.i : Int))]) (fun t => t.J) (fun t : TX => (b6, row 23 (spV t.s)) :: (t.L ++ F)) (fun t => t.ok I d ops.length) (fun t => ops.length - t.i) ⟨0, Dk.new 8, Ja, Ld, spZ⟩ ⟨Nat.zero_le _, hJa, hd, Calm.new⟩ ⟨rfl, rfl, rfl, rfl, trivial⟩ rfl (by (try dsimp only); repeat (first | exact Rm.chunk | exact Rm.here | exact Rm.nil0 | apply Rm.skip | apply Rm.skipS | apply PX.cons | (apply PX.done; (repeat (first | exact Leave.done | apply Leave.drop | apply Leave.dropS)); done) | apply PX.app)) ?_
  rintro ⟨i, x, J, L, last⟩ ⟨hle, hJ, hd, hcalm⟩; dsimp only at hle hJ hd hcalm
  try dsimp only
  try simp only [List.cons_append, List.nil_append, List.append_assoc]
  refine WP.seq ?_
  refine WP.seq ?_
  refine WP.region [0, 1, 2, 3] rfl ?_
  refine WP.val rfl rfl rfl rfl (Yld.move rfl rfl) ?_
  refine WP.val rfl rfl rfl rfl (Yld.move rfl rfl) ?_
  refine WP.val rfl rfl rfl rfl (Yld.len rfl ty_sl_42 rfl) ?_
  refine WP.split rfl rfl rfl rfl (Yld.lss rfl rfl rfl) (fun hlt => ?_) (fun hlt => ?_)
  · have hi : i < ops.length := by omega
    obtain ⟨bo, ko, To, fro, arro, vb, vs, rfl, hbl, e0, e1, e2, e7, e8, hvb, hvs, hnn⟩ := hl.sop hi
    have hbl := hJ.2 _ _ hbl
    have hvs := hvs.mono (fun b o h => hJ.2 b o h)
    have hrng := hcalm.rng
    refine WP.nil ?_
    refine WP.sub [(0, _), (4, _), (6, _), (7, _), (33, _)] ?_ ⟨rfl, rfl, rfl, rfl, rfl, trivial⟩
    refine WP.next ?_
    refine WP.condT rfl ?_
    refine WP.skip ?_
    refine WP.next ?_
    refine WP.seq ?_
    refine WP.block ?_
    refine WP.seq ?_
    refine WP.region [0, 1, 2, 3, 4, 5, 6] rfl ?_
    refine WP.val rfl rfl rfl rfl (Yld.move rfl rfl) ?_
    refine WP.val rfl rfl rfl rfl (Yld.move rfl rfl) ?_
    refine WP.val rfl rfl rfl rfl (Yld.indexAddr (i := i) rfl ty_sl_42 rfl rfl hi) ?_
    refine WP.val rfl rfl rfl rfl (Yld.fieldAddr rfl ty_fd_45_2 rfl) ?_
    refine WP.val rfl rfl rfl rfl (Yld.loadAggC rfl ty_ag_23 rfl (There.i hbl) e2 rfl) ?_
    refine WP.loud rfl rfl ?_
    refine Op.alloc rfl rfl rfl ty_zr_23 (fun b8 => ?_)
    refine WP.loud rfl rfl ?_
    refine Op.storeAll rfl rfl ty_sz_23 rfl rfl rfl rfl (by repeat (first | exact Upd.head | apply Upd.tail | apply Upd.tailS)) rfl ?_
    refine WP.nil ?_
    refine WP.sub [(0, _), (4, _), (6, _), (7, _), (8, _), (33, _)] ?_ ⟨rfl, rfl, rfl, rfl, rfl, rfl, trivial⟩
    refine WP.next ?_
    refine WP.seq ?_
    refine WP.region [0, 1, 2, 3, 4] rfl ?_
    refine WP.val rfl rfl rfl rfl (Yld.fieldAddr rfl ty_fd_23_0 rfl) ?_
    refine WP.val rfl rfl rfl rfl (Yld.load rfl ty_sc_3 rfl (by repeat (first | exact There.h | exact There.i (by assumption) | apply There.t | apply There.s)) rfl) ?_
    refine WP.val rfl rfl rfl rfl (Yld.add64 rfl rfl rfl (by omega)) ?_
    refine WP.val rfl rfl rfl rfl (Yld.fieldAddr rfl ty_fd_23_0 rfl) ?_
    refine WP.loud rfl rfl ?_
    refine Op.store1 rfl rfl ty_sz_3 rfl rfl rfl (by repeat (first | exact Upd.head | apply Upd.tail | apply Upd.tailS)) (by repeat (first | exact SetAt.zero | apply SetAt.succ)) ?_
    refine WP.nil ?_
    refine WP.sub [(0, _), (4, _), (6, _), (7, _), (8, _), (33, _)] ?_ ⟨rfl, rfl, rfl, rfl, rfl, rfl, trivial⟩
    refine WP.next ?_
    refine WP.seq ?_
    refine WP.region [0, 1, 2] rfl ?_
    refine WP.val rfl rfl rfl rfl (Yld.loadAll rfl ty_ag_23 rfl (by repeat (first | exact There.h | exact There.i (by assumption) | apply There.t | apply There.s)) rfl) ?_
    refine WP.loud rfl rfl ?_
    refine Op.call (ref16_May (s := (⟨last.no + 1, ops[i].s.place, ops[i].s.first, ops[i].s.era, ops[i].s.upto⟩ : Sp))) rfl Try.func14 rfl rfl rfl rfl (by repeat (first | exact Take.nil | with_reducible apply Take.cons | apply Take.app | exact Rm.chunk | exact Rm.here | exact Rm.nil0 | apply Rm.skip | apply Rm.skipS | (focus (apply Take.all; (repeat (first | exact Rm.chunk | exact Rm.here | exact Rm.nil0 | apply Rm.skip | apply Rm.skipS)); done)) | apply Take.cons)) ?_
    rintro v J L1 hJ ⟨bm, rfl, hbm, rfl, rfl⟩
    clear hJ; try simp only [List.cons_append, List.nil_append, List.append_assoc]
    by_cases hm : bm = true
    · rw [hm]
      refine WP.val rfl rfl rfl rfl (Yld.assign rfl rfl) ?_
      refine WP.nil ?_
      refine WP.sub [(0, _), (4, _), (6, _), (7, _), (8, _), (9, _), (33, _)] ?_ ⟨rfl, rfl, rfl, rfl, rfl, rfl, rfl, trivial⟩
      refine WP.next ?_
      refine WP.seq ?_
      refine WP.seq ?_
      refine WP.region [0, 1] rfl ?_
      refine WP.val rfl rfl rfl rfl (Yld.move rfl rfl) ?_
      refine WP.val rfl rfl rfl rfl (Yld.not rfl rfl) ?_
      refine WP.nil ?_
      refine WP.sub [(0, _), (4, _), (6, _), (7, _), (8, _), (9, _), (33, _), (48, _)] ?_ ⟨rfl, rfl, rfl, rfl, rfl, rfl, rfl, rfl, trivial⟩
      refine WP.next ?_
      refine WP.condF rfl ?_
      refine WP.skip ?_
      refine WP.next ?_
      refine WP.seq ?_
      have hs := hbm.1 hm
      have hwr := Calm.write (s := (⟨last.no + 1, ops[i].s.place, ops[i].s.first, ops[i].s.era, ops[i].s.upto⟩ : Sp)) hcalm hs
      refine WP.region [0, 1, 2, 3] rfl ?_
      refine WP.val rfl rfl rfl rfl (Yld.move rfl rfl) ?_
      refine WP.val rfl rfl rfl rfl (Yld.loadAll rfl ty_ag_23 rfl (by repeat (first | exact There.h | exact There.i (by assumption) | apply There.t | apply There.s)) rfl) ?_
      refine WP.loud rfl rfl ?_
      refine Op.call (super_Write_ok (s := (⟨last.no + 1, ops[i].s.place, ops[i].s.first, ops[i].s.era, ops[i].s.upto⟩ : Sp)) hd hs (by rw [hcalm.waits]; decide)) rfl Try.func17 rfl rfl rfl rfl (by repeat (first | exact Take.nil | with_reducible apply Take.cons | apply Take.app | exact Rm.chunk | exact Rm.here | exact Rm.nil0 | apply Rm.skip | apply Rm.skipS | (focus (apply Take.all; (repeat (first | exact Rm.chunk | exact Rm.here | exact Rm.nil0 | apply Rm.skip | apply Rm.skipS)); done)) | apply Take.cons)) ?_
      rintro v J2 Le hJ2 ⟨rfl, hd2⟩
      try simp only [List.cons_append, List.nil_append, List.append_assoc]
      rw [hwr] at hd2 ⊢
      have hbl := hJ2.2 _ _ hbl
      have hvs := hvs.mono (fun b o h => hJ2.2 b o h)
      refine WP.val rfl rfl rfl rfl (Yld.assign rfl rfl) ?_
      refine WP.nil ?_
      refine WP.sub [(0, _), (4, _), (6, _), (7, _), (8, _), (9, _), (10, _), (33, _), (48, _)] ?_ ⟨rfl, rfl, rfl, rfl, rfl, rfl, rfl, rfl, rfl, trivial⟩
      refine WP.next ?_
      refine WP.seq ?_
      refine WP.seq ?_
      refine WP.region [0, 1] rfl ?_
      refine WP.val rfl rfl rfl rfl (Yld.move rfl rfl) ?_
      refine WP.val rfl rfl rfl rfl (Yld.neq rfl rfl rfl false (decide_eq_false (by omega))) ?_
      refine WP.nil ?_
      refine WP.sub [(0, _), (4, _), (6, _), (7, _), (8, _), (9, _), (10, _), (33, _), (48, _), (53, _)] ?_ ⟨rfl, rfl, rfl, rfl, rfl, rfl, rfl, rfl, rfl, rfl, trivial⟩
      refine WP.next ?_
      refine WP.condF rfl ?_
      refine WP.skip ?_
      refine WP.next ?_
      refine WP.seq ?_
      refine WP.seq ?_
      refine WP.region [0, 1, 2, 3, 4, 5, 6] rfl ?_
      refine WP.val rfl rfl rfl rfl (Yld.move rfl rfl) ?_
      refine WP.val rfl rfl rfl rfl (Yld.move rfl rfl) ?_
      refine WP.val rfl rfl rfl rfl (Yld.indexAddr (i := i) rfl ty_sl_42 rfl rfl hi) ?_
      refine WP.val rfl rfl rfl rfl (Yld.fieldAddr rfl ty_fd_45_0 rfl) ?_
      refine WP.val rfl rfl rfl rfl (Yld.loadC rfl ty_sc_3 rfl (There.i hbl) e0) ?_
      refine WP.val rfl rfl rfl rfl (Yld.remT rfl rfl rfl (by decide)) ?_
      refine WP.split rfl rfl rfl rfl (Yld.eql rfl rfl rfl) (fun hk => ?_) (fun hk => ?_)
      · refine WP.nil ?_
        refine WP.sub [(0, _), (4, _), (6, _), (7, _), (8, _), (9, _), (10, _), (33, _), (48, _), (53, _), (60, _)] ?_ ⟨rfl, rfl, rfl, rfl, rfl, rfl, rfl, rfl, rfl, rfl, rfl, trivial⟩
        refine WP.next ?_
        refine WP.condT rfl ?_
        refine WP.seq ?_
        refine WP.region [0, 1, 2] rfl ?_
        refine WP.val rfl rfl rfl rfl (Yld.move rfl rfl) ?_
        refine WP.loud rfl rfl ?_
        refine Op.call (disk_Sync hd2) rfl Try.func20 rfl rfl rfl rfl (by repeat (first | exact Take.nil | with_reducible apply Take.cons | apply Take.app | exact Rm.chunk | exact Rm.here | exact Rm.nil0 | apply Rm.skip | apply Rm.skipS | (focus (apply Take.all; (repeat (first | exact Rm.chunk | exact Rm.here | exact Rm.nil0 | apply Rm.skip | apply Rm.skipS)); done)) | apply Take.cons)) ?_
        rintro v J Ls hJ ⟨rfl, rfl, hd3⟩
        clear hJ; try simp only [List.cons_append, List.nil_append, List.append_assoc]
        rw [show (x.write1 (lane (⟨last.no + 1, ops[i].s.place, ops[i].s.first, ops[i].s.era, ops[i].s.upto⟩ : Sp).no) (enc (⟨last.no + 1, ops[i].s.place, ops[i].s.first, ops[i].s.era, ops[i].s.upto⟩ : Sp))).off = false from hcalm.off]
        refine WP.val rfl rfl rfl rfl (Yld.assign rfl rfl) ?_
        refine WP.nil ?_
        refine WP.sub [(0, _), (4, _), (6, _), (7, _), (8, _), (9, _), (10, _), (11, _), (33, _), (48, _), (53, _), (60, _)] ?_ ⟨rfl, rfl, rfl, rfl, rfl, rfl, rfl, rfl, rfl, rfl, rfl, rfl, trivial⟩
        refine WP.next ?_
        refine WP.seq ?_
        refine WP.region [0, 1] rfl ?_
        refine WP.val rfl rfl rfl rfl (Yld.move rfl rfl) ?_
        refine WP.val rfl rfl rfl rfl (Yld.neq rfl rfl rfl false (decide_eq_false (by simp))) ?_
        refine WP.nil ?_
        refine WP.sub [(0, _), (4, _), (6, _), (7, _), (8, _), (9, _), (10, _), (11, _), (33, _), (48, _), (53, _), (60, _), (64, _)] ?_ ⟨rfl, rfl, rfl, rfl, rfl, rfl, rfl, rfl, rfl, rfl, rfl, rfl, rfl, trivial⟩
        refine WP.next ?_
        refine WP.condF rfl ?_
        refine WP.skip ?_
        refine WP.next ?_
        refine WP.seq ?_
        refine WP.region [0, 1, 2, 3, 4, 5, 6] rfl ?_
        refine WP.val rfl rfl rfl rfl (Yld.move rfl rfl) ?_
        refine WP.val rfl rfl rfl rfl (Yld.move rfl rfl) ?_
        refine WP.val rfl rfl rfl rfl (Yld.move rfl rfl) ?_
        refine WP.val rfl rfl rfl rfl (Yld.indexAddr (i := i) rfl ty_sl_42 rfl rfl hi) ?_
        refine WP.val rfl rfl rfl rfl (Yld.fieldAddr rfl ty_fd_45_4 rfl) ?_
        refine WP.val rfl rfl rfl rfl (Yld.loadC rfl ty_sc_43 rfl (There.i hbl) e8) ?_
        refine WP.loud rfl rfl ?_
        refine Op.call (disk_Up hd3 hvs (Nat.le_trans (syn_waits (x.write1 (lane (⟨last.no + 1, ops[i].s.place, ops[i].s.first, ops[i].s.era, ops[i].s.upto⟩ : Sp).no) (enc (⟨last.no + 1, ops[i].s.place, ops[i].s.first, ops[i].s.era, ops[i].s.upto⟩ : Sp)))) hcalm.wb1)) rfl Try.func21 rfl rfl rfl rfl (by repeat (first | exact Take.nil | with_reducible apply Take.cons | apply Take.app | exact Rm.chunk | exact Rm.here | exact Rm.nil0 | apply Rm.skip | apply Rm.skipS | (focus (apply Take.all; (repeat (first | exact Rm.chunk | exact Rm.here | exact Rm.nil0 | apply Rm.skip | apply Rm.skipS)); done)) | apply Take.cons)) ?_
        rintro v J Lu hJ ⟨rfl, rfl, hd4⟩
        clear hJ; try simp only [List.cons_append, List.nil_append, List.append_assoc]
        refine WP.nil ?_
        refine WP.sub [(0, _), (4, _), (6, _), (7, _), (8, _), (9, _), (10, _), (11, _), (33, _), (48, _), (53, _), (60, _), (64, _)] ?_ ⟨rfl, rfl, rfl, rfl, rfl, rfl, rfl, rfl, rfl, rfl, rfl, rfl, rfl, trivial⟩
        refine WP.next ?_
        refine WP.seq ?_
        refine WP.region [0, 1, 2, 3, 4, 5, 6, 7] rfl ?_
        refine WP.val rfl rfl rfl rfl (Yld.move rfl rfl) ?_
        refine WP.loud rfl rfl ?_
        refine Op.call (super_Read hd4) rfl Try.func18 rfl rfl rfl rfl (by repeat (first | exact Take.nil | with_reducible apply Take.cons | apply Take.app | exact Rm.chunk | exact Rm.here | exact Rm.nil0 | apply Rm.skip | apply Rm.skipS | (focus (apply Take.all; (repeat (first | exact Rm.chunk | exact Rm.here | exact Rm.nil0 | apply Rm.skip | apply Rm.skipS)); done)) | apply Take.cons)) ?_
        rintro v J3 Lu hJ3 ⟨rfl, rfl⟩
        try simp only [List.cons_append, List.nil_append, List.append_assoc]
        have hsn := Calm.synced (s := (⟨last.no + 1, ops[i].s.place, ops[i].s.first, ops[i].s.era, ops[i].s.upto⟩ : Sp)) hcalm hs rfl ops[i].stay
        obtain ⟨t, hrd, hc2, ht⟩ : ∃ t, supR ((x.write1 (lane (⟨last.no + 1, ops[i].s.place, ops[i].s.first, ops[i].s.era, ops[i].s.upto⟩ : Sp).no) (enc (⟨last.no + 1, ops[i].s.place, ops[i].s.first, ops[i].s.era, ops[i].s.upto⟩ : Sp))).sync.up ops[i].stay) 8 = (t, 0) ∧ Calm ((x.write1 (lane (⟨last.no + 1, ops[i].s.place, ops[i].s.first, ops[i].s.era, ops[i].s.upto⟩ : Sp).no) (enc (⟨last.no + 1, ops[i].s.place, ops[i].s.first, ops[i].s.era, ops[i].s.upto⟩ : Sp))).sync.up ops[i].stay) t ∧ t = (⟨last.no + 1, ops[i].s.place, ops[i].s.first, ops[i].s.era, ops[i].s.upto⟩ : Sp) := ⟨_, hsn.1, hsn.2, rfl⟩
        rw [hrd]
        have hbl := hJ3.2 _ _ hbl
        refine WP.val rfl rfl rfl rfl (Yld.move rfl rfl) ?_
        refine WP.val rfl rfl rfl rfl (Yld.extract rfl rfl rfl) ?_
        refine WP.val rfl rfl rfl rfl (Yld.extract rfl rfl rfl) ?_
        refine WP.loud rfl rfl ?_
        refine Op.alloc rfl rfl rfl ty_zr_23 (fun b12 => ?_)
        refine WP.loud rfl rfl ?_
        refine Op.storeAll rfl rfl ty_sz_23 rfl rfl rfl rfl (by repeat (first | exact Upd.head | apply Upd.tail | apply Upd.tailS)) rfl ?_
        refine WP.val rfl rfl rfl rfl (Yld.assign rfl rfl) ?_
        refine WP.nil ?_
        refine WP.sub [(0, _), (4, _), (6, _), (7, _), (8, _), (9, _), (10, _), (11, _), (12, _), (13, _), (33, _), (48, _), (53, _), (60, _), (64, _)] ?_ ⟨rfl, rfl, rfl, rfl, rfl, rfl, rfl, rfl, rfl, rfl, rfl, rfl, rfl, rfl, rfl, trivial⟩
        refine WP.next ?_
        refine WP.seq ?_
        refine WP.seq ?_
        refine WP.region [0, 1, 2, 3, 4, 5, 6, 7, 8, 9, 10, 11, 12, 13, 14, 15, 16, 17, 18, 19, 20] rfl ?_
        refine WP.val rfl rfl rfl rfl (Yld.move rfl rfl) ?_
        refine WP.val rfl rfl rfl rfl (Yld.neq rfl rfl rfl false (decide_eq_false (by omega))) ?_
        refine WP.val rfl rfl rfl rfl (Yld.move rfl rfl) ?_
        refine WP.valG rfl rfl rfl rfl rfl rfl rfl (Yld.loadAll rfl ty_ag_23 rfl (by repeat (first | exact There.h | exact There.i (by assumption) | apply There.t | apply There.s)) rfl) ?_
        refine WP.valG rfl rfl rfl rfl rfl rfl rfl (Yld.loadAll rfl ty_ag_23 rfl (by repeat (first | exact There.h | exact There.i (by assumption) | apply There.t | apply There.s)) rfl) ?_
        refine WP.valG rfl rfl rfl rfl rfl rfl rfl (Yld.neqInts (m := 5) (us := t.ints) (vs := (⟨last.no + 1, ops[i].s.place, ops[i].s.first, ops[i].s.era, ops[i].s.upto⟩ : Sp).ints) rfl (by kernel_rfl) rfl rfl rfl rfl false (by rw [ht]; simp)) ?_
        refine WP.valG rfl rfl rfl rfl rfl rfl rfl (Yld.move rfl rfl) ?_
        refine WP.passG rfl rfl rfl rfl rfl rfl rfl rfl ?_
        refine WP.passG rfl rfl rfl rfl rfl rfl rfl rfl ?_
        refine WP.passG rfl rfl rfl rfl rfl rfl rfl rfl ?_
        refine WP.passG rfl rfl rfl rfl rfl rfl rfl rfl ?_
        refine WP.passG rfl rfl rfl rfl rfl rfl rfl rfl ?_
        refine WP.passG rfl rfl rfl rfl rfl rfl rfl rfl ?_
        refine WP.passG rfl rfl rfl rfl rfl rfl rfl rfl ?_
        refine WP.passG rfl rfl rfl rfl rfl rfl rfl rfl ?_
        refine WP.passG rfl rfl rfl rfl rfl rfl rfl rfl ?_
        refine WP.passG rfl rfl rfl rfl rfl rfl rfl rfl ?_
        refine WP.passG rfl rfl rfl rfl rfl rfl rfl rfl ?_
        refine WP.passG rfl rfl rfl rfl rfl rfl rfl rfl ?_
        refine WP.valG rfl rfl rfl rfl rfl rfl rfl (Yld.pickF rfl rfl rfl) ?_
        refine WP.val rfl rfl rfl rfl (Yld.pickF rfl rfl rfl) ?_
        refine WP.nil ?_
        refine WP.sub [(0, _), (4, _), (6, _), (7, _), (8, _), (9, _), (10, _), (11, _), (12, _), (13, _), (33, _), (48, _), (53, _), (60, _), (64, _), (97, _)] ?_ ⟨rfl, rfl, rfl, rfl, rfl, rfl, rfl, rfl, rfl, rfl, rfl, rfl, rfl, rfl, rfl, rfl, trivial⟩
        refine WP.next ?_
        refine WP.condF rfl ?_
        refine WP.skip ?_
        refine WP.next ?_
        refine WP.region [0, 1] rfl ?_
        refine WP.val rfl rfl rfl rfl (Yld.loadAll rfl ty_ag_23 rfl (by repeat (first | exact There.h | exact There.i (by assumption) | apply There.t | apply There.s)) rfl) ?_
        refine WP.loud rfl rfl ?_
        refine Op.storeAll rfl rfl ty_sz_23 rfl rfl rfl rfl (by repeat (first | exact Upd.head | apply Upd.tail | apply Upd.tailS)) rfl ?_
        refine WP.nil ?_
        refine WP.sub [(0, _), (4, _), (6, _), (7, _), (8, _), (9, _), (10, _), (11, _), (12, _), (13, _), (33, _), (48, _), (53, _), (60, _), (64, _), (97, _)] ?_ ⟨rfl, rfl, rfl, rfl, rfl, rfl, rfl, rfl, rfl, rfl, rfl, rfl, rfl, rfl, rfl, rfl, trivial⟩
        refine WP.leave ?_
        refine WP.next ?_
        refine WP.region [0, 1, 2] rfl ?_
        refine WP.val rfl rfl rfl rfl (Yld.move rfl rfl) ?_
        refine WP.val rfl rfl rfl rfl (Yld.add64 rfl rfl rfl (by omega)) ?_
        refine WP.val rfl rfl rfl rfl (Yld.assign rfl rfl) ?_
        refine WP.nil ?_
        refine WP.sub [(0, _), (4, _), (6, _), (7, _), (8, _), (9, _), (10, _), (11, _), (12, _), (13, _), (33, _), (48, _), (53, _), (60, _), (64, _), (97, _)] ?_ ⟨rfl, rfl, rfl, rfl, rfl, rfl, rfl, rfl, rfl, rfl, rfl, rfl, rfl, rfl, rfl, rfl, trivial⟩
        exact WP.again ⟨i + 1, (x.write1 (lane (⟨last.no + 1, ops[i].s.place, ops[i].s.first, ops[i].s.era, ops[i].s.upto⟩ : Sp).no) (enc (⟨last.no + 1, ops[i].s.place, ops[i].s.first, ops[i].s.era, ops[i].s.upto⟩ : Sp))).sync.up ops[i].stay, J3, Lu, t⟩ ⟨hi, Imm.le_trans hJ (Imm.le_trans hJ2 hJ3), hd4, hc2⟩ (show ops.length - (i + 1) < ops.length - i by omega) ⟨rfl, rfl, rfl, rfl, trivial⟩ rfl (by (try dsimp only); repeat (first | exact Rm.chunk | exact Rm.here | exact Rm.nil0 | apply Rm.skip | apply Rm.skipS | apply PX.cons | (apply PX.done; (repeat (first | exact Leave.done | apply Leave.drop | apply Leave.dropS)); done) | apply PX.app))
      · refine WP.nil ?_
        refine WP.sub [(0, _), (4, _), (6, _), (7, _), (8, _), (9, _), (10, _), (33, _), (48, _), (53, _), (60, _)] ?_ ⟨rfl, rfl, rfl, rfl, rfl, rfl, rfl, rfl, rfl, rfl, rfl, trivial⟩
        refine WP.next ?_
        refine WP.condF rfl ?_
        refine WP.skip ?_
        refine WP.next ?_
        refine WP.seq ?_
        refine WP.region [0, 1, 2, 3, 4, 5, 6] rfl ?_
        refine WP.val rfl rfl rfl rfl (Yld.move rfl rfl) ?_
        refine WP.val rfl rfl rfl rfl (Yld.move rfl rfl) ?_
        refine WP.val rfl rfl rfl rfl (Yld.move rfl rfl) ?_
        refine WP.val rfl rfl rfl rfl (Yld.indexAddr (i := i) rfl ty_sl_42 rfl rfl hi) ?_
        refine WP.val rfl rfl rfl rfl (Yld.fieldAddr rfl ty_fd_45_4 rfl) ?_
        refine WP.val rfl rfl rfl rfl (Yld.loadC rfl ty_sc_43 rfl (There.i hbl) e8) ?_
        refine WP.loud rfl rfl ?_
        refine Op.call (disk_Up hd2 hvs hcalm.wb1) rfl Try.func21 rfl rfl rfl rfl (by repeat (first | exact Take.nil | with_reducible apply Take.cons | apply Take.app | exact Rm.chunk | exact Rm.here | exact Rm.nil0 | apply Rm.skip | apply Rm.skipS | (focus (apply Take.all; (repeat (first | exact Rm.chunk | exact Rm.here | exact Rm.nil0 | apply Rm.skip | apply Rm.skipS)); done)) | apply Take.cons)) ?_
        rintro v J Lu hJ ⟨rfl, rfl, hd4⟩
        clear hJ; try simp only [List.cons_append, List.nil_append, List.append_assoc]
        refine WP.nil ?_
        refine WP.sub [(0, _), (4, _), (6, _), (7, _), (8, _), (9, _), (10, _), (33, _), (48, _), (53, _), (60, _)] ?_ ⟨rfl, rfl, rfl, rfl, rfl, rfl, rfl, rfl, rfl, rfl, rfl, trivial⟩
        refine WP.next ?_
        refine WP.seq ?_
        refine WP.region [0, 1, 2, 3, 4, 5, 6, 7] rfl ?_
        refine WP.val rfl rfl rfl rfl (Yld.move rfl rfl) ?_
        refine WP.loud rfl rfl ?_
        refine Op.call (super_Read hd4) rfl Try.func18 rfl rfl rfl rfl (by repeat (first | exact Take.nil | with_reducible apply Take.cons | apply Take.app | exact Rm.chunk | exact Rm.here | exact Rm.nil0 | apply Rm.skip | apply Rm.skipS | (focus (apply Take.all; (repeat (first | exact Rm.chunk | exact Rm.here | exact Rm.nil0 | apply Rm.skip | apply Rm.skipS)); done)) | apply Take.cons)) ?_
        rintro v J3 Lu hJ3 ⟨rfl, rfl⟩
        try simp only [List.cons_append, List.nil_append, List.append_assoc]
        obtain ⟨t, hrd, hc2, ht⟩ := Calm.torn (s := (⟨last.no + 1, ops[i].s.place, ops[i].s.first, ops[i].s.era, ops[i].s.upto⟩ : Sp)) hcalm hs rfl ops[i].stay
        rw [hrd]
        have hbl := hJ3.2 _ _ hbl
        refine WP.val rfl rfl rfl rfl (Yld.move rfl rfl) ?_
        refine WP.val rfl rfl rfl rfl (Yld.extract rfl rfl rfl) ?_
        refine WP.val rfl rfl rfl rfl (Yld.extract rfl rfl rfl) ?_
        refine WP.loud rfl rfl ?_
        refine Op.alloc rfl rfl rfl ty_zr_23 (fun b12 => ?_)
        refine WP.loud rfl rfl ?_
        refine Op.storeAll rfl rfl ty_sz_23 rfl rfl rfl rfl (by repeat (first | exact Upd.head | apply Upd.tail | apply Upd.tailS)) rfl ?_
        refine WP.val rfl rfl rfl rfl (Yld.assign rfl rfl) ?_
        refine WP.nil ?_
        refine WP.sub [(0, _), (4, _), (6, _), (7, _), (8, _), (9, _), (10, _), (12, _), (13, _), (33, _), (48, _), (53, _), (60, _)] ?_ ⟨rfl, rfl, rfl, rfl, rfl, rfl, rfl, rfl, rfl, rfl, rfl, rfl, rfl, trivial⟩
        refine WP.next ?_
        refine WP.seq ?_
        refine WP.seq ?_
        refine WP.region [0, 1, 2, 3, 4, 5, 6, 7, 8, 9, 10, 11, 12, 13, 14, 15, 16, 17, 18, 19, 20] rfl ?_
        refine WP.val rfl rfl rfl rfl (Yld.move rfl rfl) ?_
        refine WP.val rfl rfl rfl rfl (Yld.neq rfl rfl rfl false (decide_eq_false (by omega))) ?_
        refine WP.val rfl rfl rfl rfl (Yld.move rfl rfl) ?_
        refine WP.valG rfl rfl rfl rfl rfl rfl rfl (Yld.loadAll rfl ty_ag_23 rfl (by repeat (first | exact There.h | exact There.i (by assumption) | apply There.t | apply There.s)) rfl) ?_
        refine WP.valG rfl rfl rfl rfl rfl rfl rfl (Yld.loadAll rfl ty_ag_23 rfl (by repeat (first | exact There.h | exact There.i (by assumption) | apply There.t | apply There.s)) rfl) ?_
        refine WP.valG rfl rfl rfl rfl rfl rfl rfl (Yld.neqInts (m := 5) (us := t.ints) (vs := (⟨last.no + 1, ops[i].s.place, ops[i].s.first, ops[i].s.era, ops[i].s.upto⟩ : Sp).ints) rfl (by kernel_rfl) rfl rfl rfl rfl (decide (t.ints ≠ (⟨last.no + 1, ops[i].s.place, ops[i].s.first, ops[i].s.era, ops[i].s.upto⟩ : Sp).ints)) rfl) ?_
        by_cases hts : (decide (t.ints ≠ (⟨last.no + 1, ops[i].s.place, ops[i].s.first, ops[i].s.era, ops[i].s.upto⟩ : Sp).ints)) = true
        · rw [hts]
          refine WP.valG rfl rfl rfl rfl rfl rfl rfl (Yld.move rfl rfl) ?_
          refine WP.valG rfl rfl rfl rfl rfl rfl rfl (Yld.loadAll rfl ty_ag_23 rfl (by repeat (first | exact There.h | exact There.i (by assumption) | apply There.t | apply There.s)) rfl) ?_
          refine WP.valG rfl rfl rfl rfl rfl rfl rfl (Yld.loadAll rfl ty_ag_23 rfl (by repeat (first | exact There.h | exact There.i (by assumption) | apply There.t | apply There.s)) rfl) ?_
          refine WP.valG rfl rfl rfl rfl rfl rfl rfl (Yld.neqInts (m := 5) (us := t.ints) (vs := last.ints) rfl (by kernel_rfl) rfl rfl rfl rfl false (by have htl : t = last := ht.resolve_left (fun e => of_decide_eq_true hts (by rw [e])); rw [htl]; simp)) ?_
          refine WP.valG rfl rfl rfl rfl rfl rfl rfl (Yld.move rfl rfl) ?_
          refine WP.valG rfl rfl rfl rfl rfl rfl rfl (Yld.move rfl rfl) ?_
          refine WP.valG rfl rfl rfl rfl rfl rfl rfl (Yld.move rfl rfl) ?_
          refine WP.valG rfl rfl rfl rfl rfl rfl rfl (Yld.indexAddr (i := i) rfl ty_sl_42 rfl rfl hi) ?_
          refine WP.valG rfl rfl rfl rfl rfl rfl rfl (Yld.fieldAddr rfl ty_fd_45_0 rfl) ?_
          refine WP.valG rfl rfl rfl rfl rfl rfl rfl (Yld.loadC rfl ty_sc_3 rfl (There.i hbl) e0) ?_
          refine WP.valG rfl rfl rfl rfl rfl rfl rfl (Yld.remT rfl rfl rfl (by decide)) ?_
          refine WP.valG rfl rfl rfl rfl rfl rfl rfl (Yld.eql rfl rfl rfl false (decide_eq_false (by exact hk))) ?_
          refine WP.valG rfl rfl rfl rfl rfl rfl rfl (Yld.pickF rfl rfl rfl) ?_
          refine WP.valG rfl rfl rfl rfl rfl rfl rfl (Yld.pickT rfl rfl rfl) ?_
          refine WP.val rfl rfl rfl rfl (Yld.pickF rfl rfl rfl) ?_
          refine WP.nil ?_
          refine WP.sub [(0, _), (4, _), (6, _), (7, _), (8, _), (9, _), (10, _), (12, _), (13, _), (33, _), (48, _), (53, _), (60, _), (97, _)] ?_ ⟨rfl, rfl, rfl, rfl, rfl, rfl, rfl, rfl, rfl, rfl, rfl, rfl, rfl, rfl, trivial⟩
          refine WP.next ?_
          refine WP.condF rfl ?_
          refine WP.skip ?_
          refine WP.next ?_
          refine WP.region [0, 1] rfl ?_
          refine WP.val rfl rfl rfl rfl (Yld.loadAll rfl ty_ag_23 rfl (by repeat (first | exact There.h | exact There.i (by assumption) | apply There.t | apply There.s)) rfl) ?_
          refine WP.loud rfl rfl ?_
          refine Op.storeAll rfl rfl ty_sz_23 rfl rfl rfl rfl (by repeat (first | exact Upd.head | apply Upd.tail | apply Upd.tailS)) rfl ?_
          refine WP.nil ?_
          refine WP.sub [(0, _), (4, _), (6, _), (7, _), (8, _), (9, _), (10, _), (12, _), (13, _), (33, _), (48, _), (53, _), (60, _), (97, _)] ?_ ⟨rfl, rfl, rfl, rfl, rfl, rfl, rfl, rfl, rfl, rfl, rfl, rfl, rfl, rfl, trivial⟩
          refine WP.leave ?_
          refine WP.next ?_
          refine WP.region [0, 1, 2] rfl ?_
          refine WP.val rfl rfl rfl rfl (Yld.move rfl rfl) ?_
          refine WP.val rfl rfl rfl rfl (Yld.add64 rfl rfl rfl (by omega)) ?_
          refine WP.val rfl rfl rfl rfl (Yld.assign rfl rfl) ?_
          refine WP.nil ?_
          refine WP.sub [(0, _), (4, _), (6, _), (7, _), (8, _), (9, _), (10, _), (12, _), (13, _), (33, _), (48, _), (53, _), (60, _), (97, _)] ?_ ⟨rfl, rfl, rfl, rfl, rfl, rfl, rfl, rfl, rfl, rfl, rfl, rfl, rfl, rfl, trivial⟩
          exact WP.again ⟨i + 1, (x.write1 (lane (⟨last.no + 1, ops[i].s.place, ops[i].s.first, ops[i].s.era, ops[i].s.upto⟩ : Sp).no) (enc (⟨last.no + 1, ops[i].s.place, ops[i].s.first, ops[i].s.era, ops[i].s.upto⟩ : Sp))).up ops[i].stay, J3, Lu, t⟩ ⟨hi, Imm.le_trans hJ (Imm.le_trans hJ2 hJ3), hd4, hc2⟩ (show ops.length - (i + 1) < ops.length - i by omega) ⟨rfl, rfl, rfl, rfl, trivial⟩ rfl (by (try dsimp only); repeat (first | exact Rm.chunk | exact Rm.here | exact Rm.nil0 | apply Rm.skip | apply Rm.skipS | apply PX.cons | (apply PX.done; (repeat (first | exact Leave.done | apply Leave.drop | apply Leave.dropS)); done) | apply PX.app))
        · have hts : (decide (t.ints ≠ (⟨last.no + 1, ops[i].s.place, ops[i].s.first, ops[i].s.era, ops[i].s.upto⟩ : Sp).ints)) = false := by simpa using hts
          rw [hts]
          refine WP.valG rfl rfl rfl rfl rfl rfl rfl (Yld.move rfl rfl) ?_
          refine WP.passG rfl rfl rfl rfl rfl rfl rfl rfl ?_
          refine WP.passG rfl rfl rfl rfl rfl rfl rfl rfl ?_
          refine WP.passG rfl rfl rfl rfl rfl rfl rfl rfl ?_
          refine WP.passG rfl rfl rfl rfl rfl rfl rfl rfl ?_
          refine WP.passG rfl rfl rfl rfl rfl rfl rfl rfl ?_
          refine WP.passG rfl rfl rfl rfl rfl rfl rfl rfl ?_
          refine WP.passG rfl rfl rfl rfl rfl rfl rfl rfl ?_
          refine WP.passG rfl rfl rfl rfl rfl rfl rfl rfl ?_
          refine WP.passG rfl rfl rfl rfl rfl rfl rfl rfl ?_
          refine WP.passG rfl rfl rfl rfl rfl rfl rfl rfl ?_
          refine WP.passG rfl rfl rfl rfl rfl rfl rfl rfl ?_
          refine WP.passG rfl rfl rfl rfl rfl rfl rfl rfl ?_
          refine WP.valG rfl rfl rfl rfl rfl rfl rfl (Yld.pickF rfl rfl rfl) ?_
          refine WP.val rfl rfl rfl rfl (Yld.pickF rfl rfl rfl) ?_
          refine WP.nil ?_
          refine WP.sub [(0, _), (4, _), (6, _), (7, _), (8, _), (9, _), (10, _), (12, _), (13, _), (33, _), (48, _), (53, _), (60, _), (97, _)] ?_ ⟨rfl, rfl, rfl, rfl, rfl, rfl, rfl, rfl, rfl, rfl, rfl, rfl, rfl, rfl, trivial⟩
          refine WP.next ?_
          refine WP.condF rfl ?_
          refine WP.skip ?_
          refine WP.next ?_
          refine WP.region [0, 1] rfl ?_
          refine WP.val rfl rfl rfl rfl (Yld.loadAll rfl ty_ag_23 rfl (by repeat (first | exact There.h | exact There.i (by assumption) | apply There.t | apply There.s)) rfl) ?_
          refine WP.loud rfl rfl ?_
          refine Op.storeAll rfl rfl ty_sz_23 rfl rfl rfl rfl (by repeat (first | exact Upd.head | apply Upd.tail | apply Upd.tailS)) rfl ?_
          refine WP.nil ?_
          refine WP.sub [(0, _), (4, _), (6, _), (7, _), (8, _), (9, _), (10, _), (12, _), (13, _), (33, _), (48, _), (53, _), (60, _), (97, _)] ?_ ⟨rfl, rfl, rfl, rfl, rfl, rfl, rfl, rfl, rfl, rfl, rfl, rfl, rfl, rfl, trivial⟩
          refine WP.leave ?_
          refine WP.next ?_
          refine WP.region [0, 1, 2] rfl ?_
          refine WP.val rfl rfl rfl rfl (Yld.move rfl rfl) ?_
          refine WP.val rfl rfl rfl rfl (Yld.add64 rfl rfl rfl (by omega)) ?_
          refine WP.val rfl rfl rfl rfl (Yld.assign rfl rfl) ?_
          refine WP.nil ?_
          refine WP.sub [(0, _), (4, _), (6, _), (7, _), (8, _), (9, _), (10, _), (12, _), (13, _), (33, _), (48, _), (53, _), (60, _), (97, _)] ?_ ⟨rfl, rfl, rfl, rfl, rfl, rfl, rfl, rfl, rfl, rfl, rfl, rfl, rfl, rfl, trivial⟩
          exact WP.again ⟨i + 1, (x.write1 (lane (⟨last.no + 1, ops[i].s.place, ops[i].s.first, ops[i].s.era, ops[i].s.upto⟩ : Sp).no) (enc (⟨last.no + 1, ops[i].s.place, ops[i].s.first, ops[i].s.era, ops[i].s.upto⟩ : Sp))).up ops[i].stay, J3, Lu, t⟩ ⟨hi, Imm.le_trans hJ (Imm.le_trans hJ2 hJ3), hd4, hc2⟩ (show ops.length - (i + 1) < ops.length - i by omega) ⟨rfl, rfl, rfl, rfl, trivial⟩ rfl (by (try dsimp only); repeat (first | exact Rm.chunk | exact Rm.here | exact Rm.nil0 | apply Rm.skip | apply Rm.skipS | apply PX.cons | (apply PX.done; (repeat (first | exact Leave.done | apply Leave.drop | apply Leave.dropS)); done) | apply PX.app))
    · have hm : bm = false := by simpa using hm
      rw [hm]
      refine WP.val rfl rfl rfl rfl (Yld.assign rfl rfl) ?_
      refine WP.nil ?_
      refine WP.sub [(0, _), (4, _), (6, _), (7, _), (8, _), (9, _), (33, _)] ?_ ⟨rfl, rfl, rfl, rfl, rfl, rfl, rfl, trivial⟩
      refine WP.next ?_
      refine WP.seq ?_
      refine WP.seq ?_
      refine WP.region [0, 1] rfl ?_
      refine WP.val rfl rfl rfl rfl (Yld.move rfl rfl) ?_
      refine WP.val rfl rfl rfl rfl (Yld.not rfl rfl) ?_
      refine WP.nil ?_
      refine WP.sub [(0, _), (4, _), (6, _), (7, _), (8, _), (9, _), (33, _), (48, _)] ?_ ⟨rfl, rfl, rfl, rfl, rfl, rfl, rfl, rfl, trivial⟩
      refine WP.next ?_
      refine WP.condT rfl ?_
      refine WP.exit ?_
      refine WP.thenE ?_
      refine WP.hit ?_
      refine WP.next ?_
      refine WP.region [0, 1, 2] rfl ?_
      refine WP.val rfl rfl rfl rfl (Yld.move rfl rfl) ?_
      refine WP.val rfl rfl rfl rfl (Yld.add64 rfl rfl rfl (by omega)) ?_
      refine WP.val rfl rfl rfl rfl (Yld.assign rfl rfl) ?_
      refine WP.nil ?_
      refine WP.sub [(0, _), (4, _), (6, _), (7, _), (8, _), (9, _), (33, _), (48, _)] ?_ ⟨rfl, rfl, rfl, rfl, rfl, rfl, rfl, rfl, trivial⟩
      exact WP.again ⟨i + 1, x, J, L, last⟩ ⟨hi, hJ, hd, hcalm⟩ (show ops.length - (i + 1) < ops.length - i by omega) ⟨rfl, rfl, rfl, rfl, trivial⟩ rfl (by (try dsimp only); repeat (first | exact Rm.chunk | exact Rm.here | exact Rm.nil0 | apply Rm.skip | apply Rm.skipS | apply PX.cons | (apply PX.done; (repeat (first | exact Leave.done | apply Leave.drop | apply Leave.dropS)); done) | apply PX.app))
  · refine WP.nil ?_
    refine WP.sub [(0, _), (4, _), (6, _), (7, _), (33, _)] ?_ ⟨rfl, rfl, rfl, rfl, rfl, trivial⟩
    refine WP.next ?_
    refine WP.condF rfl ?_
    refine WP.exit ?_
    refine WP.thenE ?_
    refine WP.thenE ?_
    refine WP.hit ?_
    refine WP.next ?_
    refine WP.seq ?_
    refine WP.region [0] rfl ?_
    refine WP.val rfl rfl rfl rfl (Yld.assign rfl rfl) ?_
    refine WP.nil ?_
    refine WP.next ?_
    refine WP.ret ?_
    refine WP.fin .ret (.inr rfl) (res1 rfl rfl) [] (by repeat (first | exact Take.nil | with_reducible apply Take.cons | apply Take.app | exact Rm.chunk | exact Rm.here | exact Rm.nil0 | apply Rm.skip | apply Rm.skipS | (focus (apply Take.all; (repeat (first | exact Rm.chunk | exact Rm.here | exact Rm.nil0 | apply Rm.skip | apply Rm.skipS)); done)) | apply Take.cons)) (by repeat (first | exact Leave.done | apply Leave.drop | apply Leave.dropS)) hJ ?_
    exact ⟨rfl, rfl⟩


end Go.Hp
