import Derived.Test.YtelkknmnnmmoaaaDiskQ
set_option linter.unusedVariables false
set_option linter.unusedSimpArgs false
namespace Go.Hp
open Go Go.Proofs

structure RU where
  i : Nat
  J : Imm
  ps : List Value
  p : List UInt8
structure RU.ok (I : Imm) (n : Nat) (x : Dk) (ks : List Int) (t : RU) : Prop where
  le : t.i ≤ x.waits.length
  hJ : I.le t.J
  hp : PlatOk t.J n t.ps t.p
  eq : tear t.p (x.waits.drop t.i) (ks.drop t.i) = tear x.plat x.waits ks
theorem sec_torn_same {n : Nat} {p : List UInt8} {e : Nat × List UInt8} {k : Int} (hp : p.length = n * 64) (he : e.1 < n ∧ e.2.length = 64) : sec (torn p e k) e.1 = e.2.take (keepN k) ++ (sec p e.1).drop (keepN k) := by
  have hk := keepN_le k
  have h1 : (p.take (e.1 * 64)).length = e.1 * 64 := by simp; omega
  unfold torn sec
  rw [List.append_assoc, List.drop_append, List.drop_of_length_le (by omega), h1, Nat.sub_self, List.drop_zero, List.nil_append]
  have h2 : (e.2.take (keepN k)).length = keepN k := by rw [List.length_take, he.2]; omega
  rw [List.take_append, List.take_of_length_le (by omega), h2, List.drop_take, List.drop_drop]
theorem ref_Up {I : Imm} {r n : Nat} {x : Dk} {L : Chunks} (hd : IsRef I r n x L) {ks : List Int} {vs : Value} (hks : SlRd (Im I) vs ks.length 1 (ks.map (Value.int .i64))) (hwb : x.waits.length ≤ 1954687338000) : Spec Try.prog 25 [.pointer (some ⟨r, 0, none⟩), vs] I L (fun v' J L' => v' = .tuple #[] ∧ IsRef J r n (x.up ks) L') := by
  cases hd with
  | @mk vp vw ps ws Lp Lw ok fit op hp ow hw =>
  obtain ⟨n1, n2, lp, ln, hww, hl⟩ := id ok
  obtain ⟨Aw, cw, rfl, hcw⟩ := ow.slice
  obtain ⟨bp, cp, sp, rfl, rfl, hqp, hrp⟩ := op.get (by omega)
  have hwl := hw.len
  have hpl := hp.len
  refine Spec.of Try.func25 rfl Try.ntmps25 (Nat.le_of_ble_eq_true rfl) (fun F => ?_)
  try simp only [List.cons_append, List.nil_append, List.append_assoc]
  dsimp only [argsEnv]
  refine WP.seq ?_
  refine WP.seq ?_
  refine WP.region [0] rfl ?_
  refine WP.val rfl rfl rfl rfl (Yld.assign rfl rfl) ?_
  refine WP.nil ?_
  refine WP.next ?_
  refine WP.block ?_
  refine WP.loop (X := RU) (fun t : RU => [(0, .pointer (some ⟨r, 0, none⟩)), (1, vs), (4, .int .i64 (t.i : Int))]) (fun t => t.J) (fun t : RU => (r, row 59 [.slice (some ⟨bp, 0, none⟩) n cp, .slice Aw x.waits.length cw, .int .i64 x.left, .bool x.off, .int .i64 x.writes, .int .i64 x.syncs]) :: (bp, row 24 (t.ps ++ sp)) :: (Lw ++ F)) (fun t => t.ok I n x ks) (fun t => x.waits.length - t.i) ⟨0, I, ps, x.plat⟩ ⟨Nat.zero_le _, Imm.le_refl _, hp, rfl⟩ ⟨rfl, rfl, rfl, trivial⟩ rfl (by (try dsimp only); repeat (first | exact Rm.chunk | exact Rm.here | exact Rm.nil0 | apply Rm.skip | apply Rm.skipS | apply PX.cons | (apply PX.done; (repeat (first | exact Leave.done | apply Leave.drop | apply Leave.dropS)); done) | apply PX.app)) ?_
  rintro ⟨i, J, ps2, p⟩ ⟨hle, hJ, hp2, heq⟩
  try dsimp only
  try simp only [List.cons_append, List.nil_append, List.append_assoc]
  refine WP.seq ?_
  refine WP.seq ?_
  refine WP.region [0, 1, 2, 3, 4, 5, 6] rfl ?_
  refine WP.val rfl rfl rfl rfl (Yld.move rfl rfl) ?_
  refine WP.val rfl rfl rfl rfl (Yld.move rfl rfl) ?_
  refine WP.val rfl rfl rfl rfl (Yld.nilCheck rfl rfl) ?_
  refine WP.val rfl rfl rfl rfl (Yld.fieldAddr rfl ty_fd_59_1 rfl) ?_
  refine WP.val rfl rfl rfl rfl (Yld.load rfl ty_sc_57 rfl (by repeat (first | exact There.h | exact There.i (by assumption) | apply There.t | apply There.s)) rfl) ?_
  refine WP.val rfl rfl rfl rfl (Yld.len rfl ty_sl_57 rfl) ?_
  refine WP.split rfl rfl rfl rfl (Yld.lss rfl rfl rfl) (fun hlt => ?_) (fun hlt => ?_)
  · simp only at hle hJ hp2 heq
    have hi : i < x.waits.length := by first | omega | (simp only at hlt; omega)
    have hiw : i < ws.length := by omega
    obtain ⟨bw, cpw, spw, hvw, rfl, hqw, hrw⟩ := ow.get (by omega)
    injection hvw with hAw _ hcw'
    subst hAw hcw'
    try simp only [List.cons_append, List.nil_append, List.append_assoc]
    obtain ⟨s, hs1, hs2⟩ := hw.at_ i _ (List.getElem?_eq_getElem hiw)
    have hwe := hww _ (List.mem_of_getElem? hs1)
    simp only at hwe
    obtain ⟨A5, c5, hv5, hc5⟩ := hs2.slice
    have hs2 := hs2.mono hJ
    have hks := hks.mono (fun b o h => hJ.2 b o h)
    have hpl2 := hp2.len
    have hnx : tear (torn p (ws[i].1, s) ((ks.drop i).headD 0)) (x.waits.drop (i + 1)) (ks.drop (i + 1)) = tear x.plat x.waits ks := by
      rw [← heq, List.drop_eq_getElem_cons hi, (List.getElem?_eq_some_iff.1 hs1).2, tear, List.tail_drop]
    refine WP.nil ?_
    refine WP.sub [(0, _), (1, _), (4, _), (14, _)] ?_ ⟨rfl, rfl, rfl, rfl, trivial⟩
    refine WP.next ?_
    refine WP.condT rfl ?_
    refine WP.skip ?_
    refine WP.next ?_
    refine WP.seq ?_
    refine WP.block ?_
    refine WP.seq ?_
    refine WP.region [0] rfl ?_
    refine WP.val rfl rfl rfl rfl (Yld.assign rfl rfl) ?_
    refine WP.nil ?_
    refine WP.next ?_
    refine WP.cut (X := Unit) (fun _ => [(0, .pointer (some ⟨r, 0, none⟩)), (1, vs), (4, .int .i64 (i : Int)), (5, .int .i64 ((ks.drop i).headD 0))]) (fun _ => J) (fun _ => (r, row 59 [.slice (some ⟨bp, 0, none⟩) n cp, .slice (some ⟨bw, 0, none⟩) x.waits.length cw, .int .i64 x.left, .bool x.off, .int .i64 x.writes, .int .i64 x.syncs]) :: (bp, row 24 (ps2 ++ sp)) :: ([(bw, row 77 (wv ws ++ spw))] ++ F)) (fun _ => True) ?_ ?_
    · skip
      refine WP.seq ?_
      refine WP.region [0, 1, 2, 3] rfl ?_
      refine WP.val rfl rfl rfl rfl (Yld.move rfl rfl) ?_
      refine WP.val rfl rfl rfl rfl (Yld.move rfl rfl) ?_
      refine WP.val rfl rfl rfl rfl (Yld.lenR hks rfl ty_sl_43 rfl) ?_
      refine WP.split rfl rfl rfl rfl (Yld.lss rfl rfl rfl) (fun hik => ?_) (fun hik => ?_)
      · have hik' : i < ks.length := by omega
        obtain ⟨bk, kk, ck, Tk, frk, arrk, hvk, hck, hbk, hk4⟩ := hks.get (by omega)
        subst hvk
        have ek := take_cells hk4 i (.int .i64 ks[i]) (by simp [hik']) (by simpa using hik')
        rw [Array.getElem?_toList] at ek
        refine WP.nil ?_
        refine WP.sub [(0, _), (1, _), (4, _), (5, _), (14, _), (20, _)] ?_ ⟨rfl, rfl, rfl, rfl, rfl, rfl, trivial⟩
        refine WP.next ?_
        refine WP.condT rfl ?_
        refine WP.region [0, 1, 2, 3, 4] rfl ?_
        refine WP.val rfl rfl rfl rfl (Yld.move rfl rfl) ?_
        refine WP.val rfl rfl rfl rfl (Yld.move rfl rfl) ?_
        refine WP.val rfl rfl rfl rfl (Yld.indexAddr (i := i) rfl ty_sl_43 rfl rfl hik') ?_
        refine WP.val rfl rfl rfl rfl (Yld.loadC rfl ty_sc_75 rfl (There.i hbk) (by rw [Nat.mul_one]; exact ek)) ?_
        refine WP.val rfl rfl rfl rfl (Yld.assign rfl rfl) ?_
        refine WP.nil ?_
        refine WP.sub [(0, _), (1, _), (4, _), (5, _), (14, _), (20, _)] ?_ ⟨rfl, rfl, rfl, rfl, rfl, rfl, trivial⟩
        exact WP.meet () trivial ⟨rfl, rfl, rfl, (congrArg (fun z => some (Value.int .i64 z)) (by rw [List.headD_eq_head?_getD, List.head?_drop]; simp [hik'])), trivial⟩ rfl (by (try dsimp only); repeat (first | exact Rm.chunk | exact Rm.here | exact Rm.nil0 | apply Rm.skip | apply Rm.skipS | apply PX.cons | (apply PX.done; (repeat (first | exact Leave.done | apply Leave.drop | apply Leave.dropS)); done) | apply PX.app))
      · refine WP.nil ?_
        refine WP.sub [(0, _), (1, _), (4, _), (5, _), (14, _), (20, _)] ?_ ⟨rfl, rfl, rfl, rfl, rfl, rfl, trivial⟩
        refine WP.next ?_
        refine WP.condF rfl ?_
        refine WP.skip ?_
        exact WP.meet () trivial ⟨rfl, rfl, rfl, (congrArg (fun z => some (Value.int .i64 z)) (by rw [List.drop_of_length_le (by omega)]; rfl)), trivial⟩ rfl (by (try dsimp only); repeat (first | exact Rm.chunk | exact Rm.here | exact Rm.nil0 | apply Rm.skip | apply Rm.skipS | apply PX.cons | (apply PX.done; (repeat (first | exact Leave.done | apply Leave.drop | apply Leave.dropS)); done) | apply PX.app))
    · intro _ _
      refine WP.cut (X := Unit) (fun _ => [(0, .pointer (some ⟨r, 0, none⟩)), (1, vs), (4, .int .i64 (i : Int)), (5, .int .i64 (if 64 < ((ks.drop i).headD 0) then 64 else ((ks.drop i).headD 0)))]) (fun _ => J) (fun _ => (r, row 59 [.slice (some ⟨bp, 0, none⟩) n cp, .slice (some ⟨bw, 0, none⟩) x.waits.length cw, .int .i64 x.left, .bool x.off, .int .i64 x.writes, .int .i64 x.syncs]) :: (bp, row 24 (ps2 ++ sp)) :: ([(bw, row 77 (wv ws ++ spw))] ++ F)) (fun _ => True) ?_ ?_
      · skip
        refine WP.seq ?_
        refine WP.region [0, 1] rfl ?_
        refine WP.val rfl rfl rfl rfl (Yld.move rfl rfl) ?_
        refine WP.split rfl rfl rfl rfl (Yld.gtr rfl rfl rfl) (fun h64 => ?_) (fun h64 => ?_)
        · refine WP.nil ?_
          refine WP.sub [(0, _), (1, _), (4, _), (5, _), (26, _)] ?_ ⟨rfl, rfl, rfl, rfl, rfl, trivial⟩
          refine WP.next ?_
          refine WP.condT rfl ?_
          refine WP.region [0] rfl ?_
          refine WP.val rfl rfl rfl rfl (Yld.assign rfl rfl) ?_
          refine WP.nil ?_
          exact WP.meet () trivial ⟨rfl, rfl, rfl, (congrArg (fun z => some (Value.int .i64 z)) (by rw [if_pos h64])), trivial⟩ rfl (by (try dsimp only); repeat (first | exact Rm.chunk | exact Rm.here | exact Rm.nil0 | apply Rm.skip | apply Rm.skipS | apply PX.cons | (apply PX.done; (repeat (first | exact Leave.done | apply Leave.drop | apply Leave.dropS)); done) | apply PX.app))
        · refine WP.nil ?_
          refine WP.sub [(0, _), (1, _), (4, _), (5, _), (26, _)] ?_ ⟨rfl, rfl, rfl, rfl, rfl, trivial⟩
          refine WP.next ?_
          refine WP.condF rfl ?_
          refine WP.skip ?_
          exact WP.meet () trivial ⟨rfl, rfl, rfl, (congrArg (fun z => some (Value.int .i64 z)) (by rw [if_neg h64])), trivial⟩ rfl (by (try dsimp only); repeat (first | exact Rm.chunk | exact Rm.here | exact Rm.nil0 | apply Rm.skip | apply Rm.skipS | apply PX.cons | (apply PX.done; (repeat (first | exact Leave.done | apply Leave.drop | apply Leave.dropS)); done) | apply PX.app))
      · intro _ _
        refine WP.cut (X := Unit) (fun _ => [(0, .pointer (some ⟨r, 0, none⟩)), (1, vs), (4, .int .i64 (i : Int)), (5, .int .i64 ((keepN ((ks.drop i).headD 0) : Nat) : Int))]) (fun _ => J) (fun _ => (r, row 59 [.slice (some ⟨bp, 0, none⟩) n cp, .slice (some ⟨bw, 0, none⟩) x.waits.length cw, .int .i64 x.left, .bool x.off, .int .i64 x.writes, .int .i64 x.syncs]) :: (bp, row 24 (ps2 ++ sp)) :: ([(bw, row 77 (wv ws ++ spw))] ++ F)) (fun _ => True) ?_ ?_
        · skip
          refine WP.seq ?_
          refine WP.region [0, 1] rfl ?_
          refine WP.val rfl rfl rfl rfl (Yld.move rfl rfl) ?_
          refine WP.split rfl rfl rfl rfl (Yld.lss rfl rfl rfl) (fun h0 => ?_) (fun h0 => ?_)
          · refine WP.nil ?_
            refine WP.sub [(0, _), (1, _), (4, _), (5, _), (28, _)] ?_ ⟨rfl, rfl, rfl, rfl, rfl, trivial⟩
            refine WP.next ?_
            refine WP.condT rfl ?_
            refine WP.region [0] rfl ?_
            refine WP.val rfl rfl rfl rfl (Yld.assign rfl rfl) ?_
            refine WP.nil ?_
            exact WP.meet () trivial ⟨rfl, rfl, rfl, (congrArg (fun z => some (Value.int .i64 z)) (by unfold keepN; split at h0 <;> (repeat' split) <;> omega)), trivial⟩ rfl (by (try dsimp only); repeat (first | exact Rm.chunk | exact Rm.here | exact Rm.nil0 | apply Rm.skip | apply Rm.skipS | apply PX.cons | (apply PX.done; (repeat (first | exact Leave.done | apply Leave.drop | apply Leave.dropS)); done) | apply PX.app))
          · refine WP.nil ?_
            refine WP.sub [(0, _), (1, _), (4, _), (5, _), (28, _)] ?_ ⟨rfl, rfl, rfl, rfl, rfl, trivial⟩
            refine WP.next ?_
            refine WP.condF rfl ?_
            refine WP.skip ?_
            exact WP.meet () trivial ⟨rfl, rfl, rfl, (congrArg (fun z => some (Value.int .i64 z)) (by unfold keepN; split at h0 <;> (repeat' split) <;> omega)), trivial⟩ rfl (by (try dsimp only); repeat (first | exact Rm.chunk | exact Rm.here | exact Rm.nil0 | apply Rm.skip | apply Rm.skipS | apply PX.cons | (apply PX.done; (repeat (first | exact Leave.done | apply Leave.drop | apply Leave.dropS)); done) | apply PX.app))
        · intro _ _
          refine WP.seq ?_
          refine WP.region [0, 1, 2, 3, 4, 5, 6, 7, 8] rfl ?_
          refine WP.val rfl rfl rfl rfl (Yld.move rfl rfl) ?_
          refine WP.val rfl rfl rfl rfl (Yld.nilCheck rfl rfl) ?_
          refine WP.val rfl rfl rfl rfl (Yld.fieldAddr rfl ty_fd_59_1 rfl) ?_
          refine WP.val rfl rfl rfl rfl (Yld.load rfl ty_sc_57 rfl (by repeat (first | exact There.h | exact There.i (by assumption) | apply There.t | apply There.s)) rfl) ?_
          refine WP.val rfl rfl rfl rfl (Yld.move rfl rfl) ?_
          refine WP.val rfl rfl rfl rfl (Yld.indexAddr (i := i) rfl ty_sl_57 rfl rfl hi) ?_
          refine WP.val rfl rfl rfl rfl (Yld.loadAgg (vs := [.int .i64 (ws[i].1 : Int), ws[i].2]) rfl ty_ag_77 rfl (by repeat (first | exact There.h | exact There.i (by assumption) | apply There.t | apply There.s)) rfl (wv_two hiw spw)) ?_
          refine WP.loud rfl rfl ?_
          refine Op.alloc rfl rfl rfl ty_zr_77 (fun b6 => ?_)
          refine WP.loud rfl rfl ?_
          refine Op.storeAll rfl rfl ty_sz_77 rfl rfl rfl (by rw [hv5]; rfl) (by repeat (first | exact Upd.head | apply Upd.tail | apply Upd.tailS)) rfl ?_
          refine WP.nil ?_
          refine WP.sub [(0, _), (1, _), (4, _), (5, _), (6, _)] ?_ ⟨rfl, rfl, rfl, rfl, rfl, trivial⟩
          refine WP.next ?_
          refine WP.seq ?_
          have hkl := keepN_le ((ks.drop i).headD 0)
          have ssub := hs2.2.sub (l := 0) (h := keepN ((ks.drop i).headD 0)) (Nat.zero_le _) hkl
          rw [Nat.zero_mul, Nat.mul_one, List.drop_zero, bytesV_take, Nat.sub_zero] at ssub
          have hp3 := hp2.at_ ws[i].1 _ (List.getElem?_eq_getElem (by rw [hpl2]; exact hwe.1))
          have psub := hp3.2.sub (l := keepN ((ks.drop i).headD 0)) (h := 64) hkl (Nat.le_refl _)
          rw [Nat.mul_one, Nat.mul_one, bytesV_drop, bytesV_take, List.take_of_length_le (by rw [List.length_drop, hp3.1]; omega)] at psub
          refine WP.region [0, 1, 2, 3, 4, 5] rfl ?_
          refine WP.val rfl rfl rfl rfl (Yld.fieldAddr rfl ty_fd_77_1 rfl) ?_
          refine WP.val rfl rfl rfl rfl (Yld.load rfl ty_sc_24 rfl (by repeat (first | exact There.h | exact There.i (by assumption) | apply There.t | apply There.s)) rfl) ?_
          refine WP.val rfl rfl rfl rfl (Yld.move rfl rfl) ?_
          refine WP.val rfl rfl rfl rfl (Yld.sliceR (l := 0) (h := keepN ((ks.drop i).headD 0)) hs2.2 rfl ty_sl_24 rfl Env.lim0 (Env.limS rfl) (Nat.zero_le _) hkl) ?_
          refine WP.loud rfl rfl ?_
          refine Op.append rfl ty_sl_24 ty_el_24 rfl rfl rfl rfl rfl .none0 (ssub.mono Im.there) (by repeat (first | exact Take.nil | with_reducible apply Take.cons | apply Take.app | exact Rm.chunk | exact Rm.here | exact Rm.nil0 | apply Rm.skip | apply Rm.skipS | (focus (apply Take.all; (repeat (first | exact Rm.chunk | exact Rm.here | exact Rm.nil0 | apply Rm.skip | apply Rm.skipS)); done)) | apply Take.cons)) (bytesV_one _) (by omega) (by omega) (fun vk Lk hk => ?_)
          try simp only [List.cons_append, List.nil_append, List.append_assoc]
          rw [List.nil_append, Nat.zero_add] at hk
          obtain ⟨Ak, ck2, rfl, hck2⟩ := hk.slice
          refine WP.val rfl rfl rfl rfl (Yld.assign rfl rfl) ?_
          refine WP.nil ?_
          refine WP.sub [(0, _), (1, _), (4, _), (5, _), (6, _), (7, _)] ?_ ⟨rfl, rfl, rfl, rfl, rfl, rfl, trivial⟩
          refine WP.next ?_
          refine WD.start Trymixed 19 (There J [(r, row 59 [.slice (some ⟨bp, 0, none⟩) n cp, .slice (some ⟨bw, 0, none⟩) x.waits.length cw, .int .i64 x.left, .bool x.off, .int .i64 x.writes, .int .i64 x.syncs]), (bp, row 24 (ps2 ++ sp)), (b6, row 77 [.int .i64 (ws[i].1 : Int), ws[i].2])]) (fun _ _ => False) (.cons (by repeat (first | exact There.h | exact There.i (by assumption) | apply There.t | apply There.s)) (.cons (by repeat (first | exact There.h | exact There.i (by assumption) | apply There.t | apply There.s)) (.cons (by repeat (first | exact There.h | exact There.i (by assumption) | apply There.t | apply There.s)) .nil))) (fun _ _ h => h.elim) 20 [false, false, false, false, false, false, false, false, false, false, false, false, false, false, false, false, false, false, false, false] rfl rfl ?_
          refine WD.val (i := 0) rfl rfl rfl rfl (by kernel_rfl) rfl (Yld.move rfl rfl) ?_
          refine WD.val (i := 1) rfl rfl rfl rfl (by kernel_rfl) rfl (Yld.nilCheck rfl rfl) ?_
          refine WD.val (i := 2) rfl rfl rfl rfl (by kernel_rfl) rfl (Yld.fieldAddr rfl ty_fd_59_0 rfl) ?_
          refine WD.val1 (i := 3) rfl rfl rfl rfl (by kernel_rfl) rfl (by kernel_rfl) (Yld.load rfl ty_sc_56 rfl (.inl (by repeat (first | exact There.h | exact There.i (by assumption) | apply There.t | apply There.s))) rfl) ?_
          refine WD.val (i := 4) rfl rfl rfl rfl (by kernel_rfl) rfl (Yld.fieldAddr rfl ty_fd_77_0 rfl) ?_
          refine WD.val1 (i := 5) rfl rfl rfl rfl (by kernel_rfl) rfl (by kernel_rfl) (Yld.load rfl ty_sc_3 rfl (.inl (by repeat (first | exact There.h | exact There.i (by assumption) | apply There.t | apply There.s))) rfl) ?_
          refine WD.val (i := 6) rfl rfl rfl rfl (by kernel_rfl) rfl (Yld.move rfl rfl) ?_
          refine WD.val (i := 7) rfl rfl rfl rfl (by kernel_rfl) rfl (Yld.move rfl rfl) ?_
          refine WD.val (i := 8) rfl rfl rfl rfl (by kernel_rfl) rfl (Yld.nilCheck rfl rfl) ?_
          refine WD.val (i := 9) rfl rfl rfl rfl (by kernel_rfl) rfl (Yld.fieldAddr rfl ty_fd_59_0 rfl) ?_
          refine WD.val1 (i := 10) rfl rfl rfl rfl (by kernel_rfl) rfl (by kernel_rfl) (Yld.load rfl ty_sc_56 rfl (.inl (by repeat (first | exact There.h | exact There.i (by assumption) | apply There.t | apply There.s))) rfl) ?_
          refine WD.val (i := 11) rfl rfl rfl rfl (by kernel_rfl) rfl (Yld.fieldAddr rfl ty_fd_77_0 rfl) ?_
          refine WD.val1 (i := 12) rfl rfl rfl rfl (by kernel_rfl) rfl (by kernel_rfl) (Yld.load rfl ty_sc_3 rfl (.inl (by repeat (first | exact There.h | exact There.i (by assumption) | apply There.t | apply There.s))) rfl) ?_
          refine WD.val (i := 13) rfl rfl rfl rfl (by kernel_rfl) rfl (Yld.indexAddr (i := ws[i].1) rfl ty_sl_56 rfl rfl hwe.1) ?_
          refine WD.val1 (i := 14) rfl rfl rfl rfl (by kernel_rfl) rfl (by kernel_rfl) (Yld.load rfl ty_sc_24 rfl (.inl (by repeat (first | exact There.h | exact There.i (by assumption) | apply There.t | apply There.s))) (val_at (by rw [hpl2]; exact hwe.1) sp)) ?_
          refine WD.val (i := 15) rfl rfl rfl rfl (by kernel_rfl) rfl (Yld.move rfl rfl) ?_
          refine WD.val (i := 16) rfl rfl rfl rfl (by kernel_rfl) rfl (Yld.sliceR (l := keepN ((ks.drop i).headD 0)) (h := 64) hp3.2 rfl ty_sl_24 rfl (Env.limS rfl) Env.lim0 hkl (Nat.le_refl _)) ?_
          refine WD.loud (i := 17) (by kernel_rfl) rfl rfl rfl ?_
          refine Op.append rfl ty_sl_24 ty_el_24 rfl rfl rfl rfl rfl hk (psub.mono Im.there) (by repeat (first | exact Take.nil | with_reducible apply Take.cons | apply Take.app | exact Rm.chunk | exact Rm.here | exact Rm.nil0 | apply Rm.skip | apply Rm.skipS | (focus (apply Take.all; (repeat (first | exact Rm.chunk | exact Rm.here | exact Rm.nil0 | apply Rm.skip | apply Rm.skipS)); done)) | apply Take.cons)) (bytesV_one _) (by omega) (by omega) (fun vq Lq hq => ?_)
          try simp only [List.cons_append, List.nil_append, List.append_assoc]
          rw [← bytesV_app, show keepN ((ks.drop i).headD 0) + (64 - keepN ((ks.drop i).headD 0)) = 64 by omega] at hq
          obtain ⟨A9, c9, rfl, hc9⟩ := hq.slice
          refine WD.go (.inr (.cons (by repeat (first | exact There.h | exact There.i (by assumption) | apply There.t | apply There.s)) (.cons (by repeat (first | exact There.h | exact There.i (by assumption) | apply There.t | apply There.s)) (.cons (by repeat (first | exact There.h | exact There.i (by assumption) | apply There.t | apply There.s)) .nil)))) (fun _ _ h => h.elim) ?_
          refine WD.val (i := 18) rfl rfl rfl rfl (by kernel_rfl) rfl (Yld.indexAddr (i := ws[i].1) rfl ty_sl_56 rfl rfl hwe.1) ?_
          refine WD.loud (i := 19) (by kernel_rfl) rfl rfl rfl ?_
          refine Op.store1 rfl rfl ty_sz_24 rfl rfl rfl (by repeat (first | exact Upd.head | apply Upd.tail | apply Upd.tailS)) (set_val (.slice A9 64 c9) sp (by rw [hpl2]; exact hwe.1)) ?_
          refine WD.go (.inl rfl) (fun _ _ h => h.elim) ?_
          refine WD.done (by kernel_rfl) ?_
          refine WP.sub [(0, _), (1, _), (4, _), (5, _), (6, _), (7, _)] ?_ ⟨rfl, rfl, rfl, rfl, rfl, rfl, trivial⟩
          refine WP.shareOwn hq (by repeat (first | exact Take.nil | with_reducible apply Take.cons | apply Take.app | exact Rm.chunk | exact Rm.here | exact Rm.nil0 | apply Rm.skip | apply Rm.skipS | (focus (apply Take.all; (repeat (first | exact Rm.chunk | exact Rm.here | exact Rm.nil0 | apply Rm.skip | apply Rm.skipS)); done)) | apply Take.cons)) (fun J2 hJ2 hv64 => ?_)
          have hv9 : rsec J2 (.slice A9 64 c9) (s.take (keepN ((ks.drop i).headD 0)) ++ (sec p ws[i].1).drop (keepN ((ks.drop i).headD 0))) := ⟨by rw [List.length_append, List.length_take, List.length_drop, hs2.1, hp3.1]; omega, hv64⟩
          try simp only [List.cons_append, List.nil_append, List.append_assoc]
          refine WP.leave ?_
          refine WP.next ?_
          refine WP.region [0, 1, 2] rfl ?_
          refine WP.val rfl rfl rfl rfl (Yld.move rfl rfl) ?_
          refine WP.val rfl rfl rfl rfl (Yld.add64 rfl rfl rfl (by omega)) ?_
          refine WP.val rfl rfl rfl rfl (Yld.assign rfl rfl) ?_
          refine WP.nil ?_
          refine WP.sub [(0, _), (1, _), (4, _), (5, _), (6, _), (7, _)] ?_ ⟨rfl, rfl, rfl, rfl, rfl, rfl, trivial⟩
          exact WP.again ⟨i + 1, J2, ps2.set ws[i].1 (.slice A9 64 c9), torn p (ws[i].1, s) ((ks.drop i).headD 0)⟩ ⟨hi, Imm.le_trans hJ hJ2, (hp2.mono hJ2).put hwe.1 (torn_len hp2.lp hwe) (sec_torn_same hp2.lp hwe) (fun j hj => sec_torn hp2.lp hwe hj) hv9, hnx⟩ (by simp only; omega) ⟨rfl, rfl, rfl, trivial⟩ rfl (by (try dsimp only); repeat (first | exact Rm.chunk | exact Rm.here | exact Rm.nil0 | apply Rm.skip | apply Rm.skipS | apply PX.cons | (apply PX.done; (repeat (first | exact Leave.done | apply Leave.drop | apply Leave.dropS)); done) | apply PX.app))
  · simp only at hle hJ hp2 heq
    obtain rfl : i = x.waits.length := by first | omega | (simp only at hlt; omega)
    rw [List.drop_length] at heq
    have hpe : p = tear x.plat x.waits ks := heq
    have hpl2 := hp2.len
    refine WP.nil ?_
    refine WP.sub [(0, _), (1, _), (4, _), (14, _)] ?_ ⟨rfl, rfl, rfl, rfl, trivial⟩
    refine WP.next ?_
    refine WP.condF rfl ?_
    refine WP.exit ?_
    refine WP.thenE ?_
    refine WP.thenE ?_
    refine WP.hit ?_
    refine WP.next ?_
    refine WP.seq ?_
    refine WP.region [0, 1, 2, 3] rfl ?_
    refine WP.val rfl rfl rfl rfl (Yld.move rfl rfl) ?_
    refine WP.val rfl rfl rfl rfl (Yld.nilCheck rfl rfl) ?_
    refine WP.val rfl rfl rfl rfl (Yld.fieldAddr rfl ty_fd_59_1 rfl) ?_
    refine WP.loud rfl rfl ?_
    refine Op.store1 rfl rfl ty_sz_57 rfl rfl rfl (by repeat (first | exact Upd.head | apply Upd.tail | apply Upd.tailS)) (by repeat (first | exact SetAt.zero | apply SetAt.succ)) ?_
    refine WP.nil ?_
    refine WP.sub [(0, _), (1, _), (4, _), (14, _)] ?_ ⟨rfl, rfl, rfl, rfl, trivial⟩
    refine WP.next ?_
    refine WP.seq ?_
    refine WP.region [0, 1, 2, 3] rfl ?_
    refine WP.val rfl rfl rfl rfl (Yld.move rfl rfl) ?_
    refine WP.val rfl rfl rfl rfl (Yld.nilCheck rfl rfl) ?_
    refine WP.val rfl rfl rfl rfl (Yld.fieldAddr rfl ty_fd_59_2 rfl) ?_
    refine WP.loud rfl rfl ?_
    refine Op.store1 rfl rfl ty_sz_3 rfl rfl rfl (by repeat (first | exact Upd.head | apply Upd.tail | apply Upd.tailS)) (by repeat (first | exact SetAt.zero | apply SetAt.succ)) ?_
    refine WP.nil ?_
    refine WP.sub [(0, _), (1, _), (4, _), (14, _)] ?_ ⟨rfl, rfl, rfl, rfl, trivial⟩
    refine WP.next ?_
    refine WP.region [0, 1, 2, 3] rfl ?_
    refine WP.val rfl rfl rfl rfl (Yld.move rfl rfl) ?_
    refine WP.val rfl rfl rfl rfl (Yld.nilCheck rfl rfl) ?_
    refine WP.val rfl rfl rfl rfl (Yld.fieldAddr rfl ty_fd_59_3 rfl) ?_
    refine WP.loud rfl rfl ?_
    refine Op.store1 rfl rfl ty_sz_4 rfl rfl rfl (by repeat (first | exact Upd.head | apply Upd.tail | apply Upd.tailS)) (by repeat (first | exact SetAt.zero | apply SetAt.succ)) ?_
    refine WP.nil ?_
    refine WP.sub [(0, _), (1, _), (4, _), (14, _)] ?_ ⟨rfl, rfl, rfl, rfl, trivial⟩
    refine WP.fin .normal (.inl rfl) (res0 rfl) ((r, row 59 _) :: ((bp, row 24 _) :: [])) (by repeat (first | exact Take.nil | with_reducible apply Take.cons | apply Take.app | exact Rm.chunk | exact Rm.here | exact Rm.nil0 | apply Rm.skip | apply Rm.skipS | (focus (apply Take.all; (repeat (first | exact Rm.chunk | exact Rm.here | exact Rm.nil0 | apply Rm.skip | apply Rm.skipS)); done)) | apply Take.cons)) (by repeat (first | exact Leave.done | apply Leave.drop | apply Leave.dropS)) hJ ?_
    refine ⟨rfl, ?_⟩
    exact IsRef.mk (J := J) (r := r) (x := x.up ks) (ws := []) (ps := ps2) (Lp := [(bp, row 24 (ps2 ++ sp))]) (Dk.up_ok ok ks) rfl (Own.blk (by omega) (by omega) hrp) (by show PlatOk J n ps2 (tear x.plat x.waits ks); rw [← hpe]; exact hp2) .none0 ⟨rfl, fun j e he => by cases he⟩


end Go.Hp
