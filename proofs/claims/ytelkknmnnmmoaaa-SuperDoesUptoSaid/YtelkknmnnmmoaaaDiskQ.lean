import Derived.Test.YtelkknmnnmmoaaaDiskP
set_option linter.unusedVariables false
set_option linter.unusedSimpArgs false
namespace Go.Hp
open Go Go.Proofs
theorem ref_Sync {I : Imm} {r n : Nat} {x : Dk} {L : Chunks} (hd : IsRef I r n x L) (hwb : x.waits.length ≤ 1954687338000) : Spec Try.prog 24 [.pointer (some ⟨r, 0, none⟩)] I L (fun v' J L' => v' = .int .i64 (if x.off then 4 else 0) ∧ I = J ∧ IsRef I r n x.sync L') := by
  cases hd with
  | @mk vp vw ps ws Lp Lw ok fit op hp ow hw =>
  obtain ⟨n1, n2, lp, ln, hww, hl⟩ := id ok
  obtain ⟨Aw, cw, rfl, hcw⟩ := ow.slice
  obtain ⟨bp, cp, sp, rfl, rfl, hqp, hrp⟩ := op.get (by omega)
  have hwl := hw.len
  have hpl := hp.len
  refine Spec.of Try.func24 rfl Try.ntmps24 (Nat.le_of_ble_eq_true rfl) (fun F => ?_)
  try simp only [List.cons_append, List.nil_append, List.append_assoc]
  dsimp only [argsEnv]
  refine WP.seq ?_
  refine WP.region [0] rfl ?_
  refine WP.val rfl rfl rfl rfl (Yld.assign rfl rfl) ?_
  refine WP.nil ?_
  refine WP.next ?_
  refine WP.seq ?_
  refine WP.seq ?_
  refine WP.region [0, 1, 2, 3] rfl ?_
  refine WP.val rfl rfl rfl rfl (Yld.move rfl rfl) ?_
  refine WP.val rfl rfl rfl rfl (Yld.nilCheck rfl rfl) ?_
  refine WP.val rfl rfl rfl rfl (Yld.fieldAddr rfl ty_fd_59_3 rfl) ?_
  refine WP.splitB rfl rfl rfl rfl (Yld.load rfl ty_sc_4 rfl (by repeat (first | exact There.h | exact There.i (by assumption) | apply There.t | apply There.s)) rfl) (fun hb => ?_) (fun hb => ?_)
  · refine WP.nil ?_
    refine WP.sub [(0, _), (2, _), (7, _)] ?_ ⟨rfl, rfl, rfl, trivial⟩
    refine WP.next ?_
    refine WP.condT rfl ?_
    refine WP.seq ?_
    refine WP.region [0] rfl ?_
    refine WP.val rfl rfl rfl rfl (Yld.assign rfl rfl) ?_
    refine WP.nil ?_
    refine WP.next ?_
    refine WP.ret ?_
    refine WP.fin .ret (.inr rfl) (res1 rfl rfl) ((r, row 59 _) :: ((bp, row 24 _) :: Lw)) (by repeat (first | exact Take.nil | with_reducible apply Take.cons | apply Take.app | exact Rm.chunk | exact Rm.here | exact Rm.nil0 | apply Rm.skip | apply Rm.skipS | (focus (apply Take.all; (repeat (first | exact Rm.chunk | exact Rm.here | exact Rm.nil0 | apply Rm.skip | apply Rm.skipS)); done)) | apply Take.cons)) (by repeat (first | exact Leave.done | apply Leave.drop | apply Leave.dropS)) (Imm.le_refl _) ?_
    exact ⟨by simp [hb], rfl, by have e : x.sync = x := (by simp [Dk.sync, hb]); rw [e]; exact .mk ok fit op hp ow hw⟩
  · refine WP.nil ?_
    refine WP.sub [(0, _), (2, _), (7, _)] ?_ ⟨rfl, rfl, rfl, trivial⟩
    refine WP.next ?_
    refine WP.condF rfl ?_
    refine WP.skip ?_
    refine WP.next ?_
    refine WP.seq ?_
    refine WP.seq ?_
    refine WP.region [0] rfl ?_
    refine WP.val rfl rfl rfl rfl (Yld.assign rfl rfl) ?_
    refine WP.nil ?_
    refine WP.next ?_
    refine WP.block ?_
    refine WP.loop (X := Nat × List Value × List UInt8) (fun t : Nat × List Value × List UInt8 => [(0, .pointer (some ⟨r, 0, none⟩)), (3, .int .i64 (t.1 : Int))]) (fun _ => I) (fun t : Nat × List Value × List UInt8 => (r, row 59 [.slice (some ⟨bp, 0, none⟩) n cp, .slice Aw x.waits.length cw, .int .i64 x.left, .bool x.off, .int .i64 x.writes, .int .i64 x.syncs]) :: (bp, row 24 (t.2.1 ++ sp)) :: (Lw ++ F)) (fun t : Nat × List Value × List UInt8 => t.1 ≤ x.waits.length ∧ PlatOk I n t.2.1 t.2.2 ∧ full t.2.2 (x.waits.drop t.1) = x.now) (fun t => x.waits.length - t.1) ⟨0, ps, x.plat⟩ ⟨Nat.zero_le _, hp, fit.symm⟩ ⟨rfl, rfl, trivial⟩ rfl (by (try dsimp only); repeat (first | exact Rm.chunk | exact Rm.here | exact Rm.nil0 | apply Rm.skip | apply Rm.skipS | apply PX.cons | (apply PX.done; (repeat (first | exact Leave.done | apply Leave.drop | apply Leave.dropS)); done) | apply PX.app)) ?_
    rintro ⟨i, ps2, p⟩ ⟨hle, hp2, heq⟩
    try dsimp only
    try simp only [List.cons_append, List.nil_append, List.append_assoc]
    refine WP.seq ?_
    refine WP.seq ?_
    refine WP.region [0, 1, 2, 3, 4, 5, 6] rfl ?_
    refine WP.val rfl rfl rfl rfl (Yld.move rfl rfl) ?_
    refine WP.val rfl rfl rfl rfl (Yld.move rfl rfl) ?_
    refine WP.val rfl rfl rfl rfl (Yld.nilCheck rfl rfl) ?_
    refine WP.val rfl rfl rfl rfl (Yld.fieldAddr rfl ty_fd_59_1 rfl) ?_
    refine WP.val rfl rfl rfl rfl (Yld.load rfl ty_sc_57 rfl (by repeat (first | exact There.h | exact There.i (by assumption) | apply There.t | apply There.s)) rfl) ?_
    refine WP.val rfl rfl rfl rfl (Yld.len rfl ty_sl_57 rfl) ?_
    refine WP.split rfl rfl rfl rfl (Yld.lss rfl rfl rfl) (fun hlt => ?_) (fun hlt => ?_)
    · simp only at hle hp2 heq
      have hi : i < x.waits.length := by first | omega | (simp only at hlt; omega)
      have hiw : i < ws.length := by omega
      obtain ⟨bw, cpw, spw, hvw, rfl, hqw, hrw⟩ := ow.get (by omega)
      injection hvw with hAw _ hcw'
      subst hAw hcw'
      try simp only [List.cons_append, List.nil_append, List.append_assoc]
      obtain ⟨s, hs1, hs2⟩ := hw.at_ i _ (List.getElem?_eq_getElem hiw)
      have hwe := hww _ (List.mem_of_getElem? hs1)
      simp only at hwe
      obtain ⟨A5, c5, hv5, hc5⟩ := hs2.slice
      have hpl2 := hp2.len
      have hnx : full (putS p (ws[i].1, s)) (x.waits.drop (i + 1)) = x.now := by
        rw [← heq, List.drop_eq_getElem_cons hi, (List.getElem?_eq_some_iff.1 hs1).2]; rfl
      refine WP.nil ?_
      refine WP.sub [(0, _), (3, _), (14, _)] ?_ ⟨rfl, rfl, rfl, trivial⟩
      refine WP.next ?_
      refine WP.condT rfl ?_
      refine WP.skip ?_
      refine WP.next ?_
      refine WP.seq ?_
      refine WP.block ?_
      refine WQ.start Trymixed 21 (by kernel_rfl) _ rfl [21] rfl ?_
      refine WQ.val rfl rfl rfl (Yld.move rfl rfl) ?_
      refine WQ.val rfl rfl rfl (Yld.nilCheck rfl rfl) ?_
      refine WQ.val rfl rfl rfl (Yld.fieldAddr rfl ty_fd_59_0 rfl) ?_
      refine WQ.val rfl rfl rfl (Yld.load rfl ty_sc_56 rfl (by repeat (first | exact There.h | exact There.i (by assumption) | apply There.t | apply There.s)) rfl) ?_
      refine WQ.val rfl rfl rfl (Yld.move rfl rfl) ?_
      refine WQ.val rfl rfl rfl (Yld.nilCheck rfl rfl) ?_
      refine WQ.val rfl rfl rfl (Yld.fieldAddr rfl ty_fd_59_1 rfl) ?_
      refine WQ.val rfl rfl rfl (Yld.load rfl ty_sc_57 rfl (by repeat (first | exact There.h | exact There.i (by assumption) | apply There.t | apply There.s)) rfl) ?_
      refine WQ.val rfl rfl rfl (Yld.move rfl rfl) ?_
      refine WQ.val rfl rfl rfl (Yld.indexAddr (i := i) rfl ty_sl_57 rfl rfl hi) ?_
      refine WQ.val rfl rfl rfl (Yld.fieldAddr rfl ty_fd_77_0 rfl) ?_
      refine WQ.val rfl rfl rfl (Yld.load rfl ty_sc_3 rfl (by repeat (first | exact There.h | exact There.i (by assumption) | apply There.t | apply There.s)) (wv_at0 hiw spw)) ?_
      refine WQ.val rfl rfl rfl (Yld.move rfl rfl) ?_
      refine WQ.val rfl rfl rfl (Yld.nilCheck rfl rfl) ?_
      refine WQ.val rfl rfl rfl (Yld.fieldAddr rfl ty_fd_59_1 rfl) ?_
      refine WQ.val rfl rfl rfl (Yld.load rfl ty_sc_57 rfl (by repeat (first | exact There.h | exact There.i (by assumption) | apply There.t | apply There.s)) rfl) ?_
      refine WQ.val rfl rfl rfl (Yld.move rfl rfl) ?_
      refine WQ.val rfl rfl rfl (Yld.indexAddr (i := i) rfl ty_sl_57 rfl rfl hi) ?_
      refine WQ.val rfl rfl rfl (Yld.fieldAddr rfl ty_fd_77_1 rfl) ?_
      refine WQ.val rfl rfl rfl (Yld.load rfl ty_sc_24 rfl (by repeat (first | exact There.h | exact There.i (by assumption) | apply There.t | apply There.s)) (wv_at1 hiw spw)) ?_
      refine WQ.val rfl rfl rfl (Yld.indexAddr (i := ws[i].1) rfl ty_sl_56 rfl rfl hwe.1) ?_
      refine WQ.nil ?_
      refine WP.loud rfl rfl ?_
      refine Op.store1 rfl rfl ty_sz_24 rfl rfl (by rw [hv5]; rfl) (by repeat (first | exact Upd.head | apply Upd.tail | apply Upd.tailS)) (set_val ws[i].2 sp (by rw [hpl2]; exact hwe.1)) ?_
      refine WP.nil ?_
      refine WP.sub [(0, _), (3, _), (14, _)] ?_ ⟨rfl, rfl, rfl, trivial⟩
      refine WP.leave ?_
      refine WP.next ?_
      refine WP.region [0, 1, 2] rfl ?_
      refine WP.val rfl rfl rfl rfl (Yld.move rfl rfl) ?_
      refine WP.val rfl rfl rfl rfl (Yld.add64 rfl rfl rfl (by omega)) ?_
      refine WP.val rfl rfl rfl rfl (Yld.assign rfl rfl) ?_
      refine WP.nil ?_
      refine WP.sub [(0, _), (3, _), (14, _)] ?_ ⟨rfl, rfl, rfl, trivial⟩
      exact WP.again ⟨i + 1, ps2.set ws[i].1 ws[i].2, putS p (ws[i].1, s)⟩ ⟨hi, hp2.put hwe.1 (putS_len hp2.lp hwe) (by rw [sec_put hp2.lp hwe, if_pos rfl]) (fun j hj => by rw [sec_put hp2.lp hwe, if_neg hj]) hs2, hnx⟩ (by simp only; omega) ⟨rfl, rfl, trivial⟩ rfl (by (try dsimp only); repeat (first | exact Rm.chunk | exact Rm.here | exact Rm.nil0 | apply Rm.skip | apply Rm.skipS | apply PX.cons | (apply PX.done; (repeat (first | exact Leave.done | apply Leave.drop | apply Leave.dropS)); done) | apply PX.app))
    · simp only at hle hp2 heq
      obtain rfl : i = x.waits.length := by first | omega | (simp only at hlt; omega)
      rw [List.drop_length] at heq
      have hpe : p = x.now := heq
      have hpl2 := hp2.len
      refine WP.nil ?_
      refine WP.sub [(0, _), (3, _), (14, _)] ?_ ⟨rfl, rfl, rfl, trivial⟩
      refine WP.next ?_
      refine WP.condF rfl ?_
      refine WP.exit ?_
      refine WP.thenE ?_
      refine WP.thenE ?_
      refine WP.hit ?_
      refine WP.next ?_
      refine WP.seq ?_
      refine WP.region [0, 1, 2, 3] rfl ?_
      refine WP.val rfl rfl rfl rfl (Yld.move rfl rfl) ?_
      refine WP.val rfl rfl rfl rfl (Yld.nilCheck rfl rfl) ?_
      refine WP.val rfl rfl rfl rfl (Yld.fieldAddr rfl ty_fd_59_1 rfl) ?_
      refine WP.loud rfl rfl ?_
      refine Op.store1 rfl rfl ty_sz_57 rfl rfl rfl (by repeat (first | exact Upd.head | apply Upd.tail | apply Upd.tailS)) (by repeat (first | exact SetAt.zero | apply SetAt.succ)) ?_
      refine WP.nil ?_
      refine WP.sub [(0, _), (3, _), (14, _)] ?_ ⟨rfl, rfl, rfl, trivial⟩
      refine WP.next ?_
      refine WP.seq ?_
      refine WP.region [0, 1, 2, 3, 4, 5, 6, 7] rfl ?_
      refine WP.val rfl rfl rfl rfl (Yld.move rfl rfl) ?_
      refine WP.val rfl rfl rfl rfl (Yld.nilCheck rfl rfl) ?_
      refine WP.val rfl rfl rfl rfl (Yld.fieldAddr rfl ty_fd_59_5 rfl) ?_
      refine WP.val rfl rfl rfl rfl (Yld.load rfl ty_sc_3 rfl (by repeat (first | exact There.h | exact There.i (by assumption) | apply There.t | apply There.s)) rfl) ?_
      refine WP.val rfl rfl rfl rfl (Yld.add rfl rfl rfl) ?_
      refine WP.val rfl rfl rfl rfl (Yld.nilCheck rfl rfl) ?_
      refine WP.val rfl rfl rfl rfl (Yld.fieldAddr rfl ty_fd_59_5 rfl) ?_
      refine WP.loud rfl rfl ?_
      refine Op.store1 rfl rfl ty_sz_3 rfl rfl rfl (by repeat (first | exact Upd.head | apply Upd.tail | apply Upd.tailS)) (by repeat (first | exact SetAt.zero | apply SetAt.succ)) ?_
      refine WP.nil ?_
      refine WP.sub [(0, _), (3, _), (14, _)] ?_ ⟨rfl, rfl, rfl, trivial⟩
      refine WP.next ?_
      refine WP.seq ?_
      refine WP.region [0] rfl ?_
      refine WP.val rfl rfl rfl rfl (Yld.assign rfl rfl) ?_
      refine WP.nil ?_
      refine WP.next ?_
      refine WP.ret ?_
      refine WP.fin .ret (.inr rfl) (res1 rfl rfl) ((r, row 59 _) :: ((bp, row 24 _) :: [])) (by repeat (first | exact Take.nil | with_reducible apply Take.cons | apply Take.app | exact Rm.chunk | exact Rm.here | exact Rm.nil0 | apply Rm.skip | apply Rm.skipS | (focus (apply Take.all; (repeat (first | exact Rm.chunk | exact Rm.here | exact Rm.nil0 | apply Rm.skip | apply Rm.skipS)); done)) | apply Take.cons)) (by repeat (first | exact Leave.done | apply Leave.drop | apply Leave.dropS)) (Imm.le_refl _) ?_
      have e : x.sync = { x with plat := x.now, waits := [], syncs := IntKind.i64.wrap (x.syncs + 1) } := by simp [Dk.sync, hb]
      refine ⟨by simp [hb], rfl, ?_⟩
      have ok2 := Dk.sync_ok ok
      rw [e] at ok2 ⊢
      exact IsRef.mk (J := I) (r := r) (x := { x with plat := x.now, waits := [], syncs := IntKind.i64.wrap (x.syncs + 1) }) (ws := []) (ps := ps2) (Lp := [(bp, row 24 (ps2 ++ sp))]) ok2 rfl (Own.blk (by omega) (by omega) hrp) (hpe ▸ hp2) .none0 ⟨rfl, fun j e he => by cases he⟩


end Go.Hp
