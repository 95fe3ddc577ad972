import Derived.Test.YtdobkjbpehdokaaTabF
set_option linter.unusedVariables false
set_option linter.unusedSimpArgs false
namespace Go.Hp
open Go Go.Proofs
theorem tab_use {I : Imm} {t q : Nat} {x : Tb} {L : Chunks} (hd : IsTab I t q x L) {e : Ent} {cs : List Value} {p : Int} (he : REnt I e cs) (hsz : e.sized) (htk : x.tok + 1 < 18446744073709551616) (hp0 : 1 ≤ p ∧ p ≤ 512) : Spec Try.prog 46 [.pointer (some ⟨t, 0, none⟩), .int .i64 p, .agg cs.toArray] I L (fun v J L' => ∃ x', v = .tuple #[] ∧ x.Used x' p e ∧ IsTab J t q x' L') := by
  cases hd with | mk ok ow =>
  obtain ⟨bv, cv, spv, rfl, rfl, hcv, hnv⟩ := ow.get (by have := ok.n1; omega)
  have hn1 := ok.n1
  have hn2 := ok.n2
  have he0 := he
  obtain ⟨vn, vw, nv, rfl, hn, hno, hw⟩ := he.ex
  obtain ⟨An, cn, rfl, hcn⟩ := hn.slice'
  obtain ⟨Aw, cw, rfl, hcw⟩ := hw.slice'
  refine Spec.of Try.func46 rfl Try.ntmps46 (Nat.le_of_ble_eq_true rfl) (fun F => ?_)
  try simp only [List.cons_append, List.nil_append, List.append_assoc]
  dsimp only [argsEnv]
  refine WP.seq ?_
  refine WP.region [0] rfl ?_
  refine WP.loud rfl rfl ?_
  refine Op.box rfl rfl rfl rfl rfl (fun b5 => ?_)
  refine WP.nil ?_
  refine WP.next ?_
  refine WP.seq ?_
  refine WP.block ?_
  refine WP.loop (X := TX) (fun s : TX => [(0, .pointer (some ⟨t, 0, none⟩)), (1, .int .i64 p), (5, .pointer (some ⟨b5, 0, none⟩))]) (fun _ => I) (fun s : TX => s.L ++ ((b5, row 63 (entV e (.slice An e.nodes.length cn) (.slice Aw e.with_.length cw))) :: F)) (fun s : TX => IsTab I t q s.x s.L ∧ s.x.tok = x.tok ∧ s.x.next = x.next ∧ (∀ k, s.x.get k = x.get k) ∧ x.size ≤ s.x.size ∧ (s.x.size = x.size ∨ (x.size < p ∧ s.x.size < p + 16))) (fun s : TX => (513 - s.x.size).toNat) ⟨x, ((t, row 113 [.pointer (some ⟨q, 0, none⟩), .int .u64 (x.tok : Int), .slice (some ⟨bv, 0, none⟩) x.cks.length cv, .int .i64 x.next]) :: ((bv, row 103 (ckps x.cks ++ spv)) :: x.cks.flatMap ckCh))⟩ ⟨IsTab.mk ok ow, rfl, rfl, fun _ => rfl, Int.le_refl _, .inl rfl⟩ ⟨rfl, rfl, rfl, trivial⟩ rfl (by (try dsimp only); repeat (first | exact Rm.chunk | exact Rm.here | exact Rm.nil0 | apply Rm.skip | apply Rm.skipS | apply PX.cons | (apply PX.done; (repeat (first | exact Leave.done | apply Leave.drop | apply Leave.dropS)); done) | apply PX.app)) ?_
  rintro ⟨y, L2⟩ ⟨hy, htk2, hnx2, hget2, hs1, hs2⟩; dsimp only at hy htk2 hnx2 hget2 hs1 hs2; clear ok ow hn1 hn2 hnv hcv; cases hy with | mk ok ow => _; obtain ⟨bv, cv, spv, rfl, rfl, hcv, hnv⟩ := ow.get (by have := ok.n1; omega); have hn1 := ok.n1; have hn2 := ok.n2
  try dsimp only
  try simp only [List.cons_append, List.nil_append, List.append_assoc]
  refine WP.seq ?_
  refine WP.seq ?_
  refine WP.region [0, 1, 2, 3] rfl ?_
  refine WP.val rfl rfl rfl rfl (Yld.move rfl rfl) ?_
  refine WP.loud rfl rfl ?_
  refine Op.call (tab_Size (IsTab.mk ok ow)) rfl Try.func35 rfl rfl rfl rfl (by repeat (first | exact Take.nil | with_reducible apply Take.cons | apply Take.app | exact Rm.chunk | exact Rm.here | exact Rm.nil0 | apply Rm.skip | apply Rm.skipS | (focus (apply Take.all; (repeat (first | exact Rm.chunk | exact Rm.here | exact Rm.nil0 | apply Rm.skip | apply Rm.skipS)); done)) | apply Take.cons)) ?_
  rintro v J L1 hJ ⟨rfl, rfl, rfl⟩
  clear hJ; try simp only [List.cons_append, List.nil_append, List.append_assoc]
  refine WP.val rfl rfl rfl rfl (Yld.move rfl rfl) ?_
  refine WP.split rfl rfl rfl rfl (Yld.lss rfl rfl rfl) (fun hlt => ?_) (fun hlt => ?_)
  · have hlt2 : y.size < 512 := by omega
    refine WP.nil ?_
    refine WP.sub [(0, _), (1, _), (5, _), (9, _)] ?_ ⟨rfl, rfl, rfl, rfl, trivial⟩
    refine WP.next ?_
    refine WP.condT rfl ?_
    refine WP.skip ?_
    refine WP.next ?_
    refine WP.block ?_
    refine WP.region [0, 1, 2, 3, 4, 5, 6, 7, 8, 9, 10, 11] rfl ?_
    refine WP.val rfl rfl rfl rfl (Yld.move rfl rfl) ?_
    refine WP.val rfl rfl rfl rfl (Yld.move rfl rfl) ?_
    refine WP.val rfl rfl rfl rfl (Yld.nilCheck rfl rfl) ?_
    refine WP.val rfl rfl rfl rfl (Yld.fieldAddr rfl ty_fd_113_2 rfl) ?_
    refine WP.val rfl rfl rfl rfl (Yld.load rfl ty_sc_111 rfl (by repeat (first | exact There.h | exact There.i (by assumption) | apply There.t | apply There.s)) rfl) ?_
    refine WP.val rfl rfl rfl rfl (Yld.buildS (pl := []) rfl ty_zr_110 ty_zd_110 (by kernel_rfl) rfl (vs := []) rfl (segs := []) rfl rfl (by repeat (first | exact SetSeg.nil | apply SetSeg.one | exact SetAt.zero | apply SetAt.succ))) ?_
    refine WP.loud rfl rfl ?_
    refine Op.box rfl rfl rfl rfl rfl (fun b16 => ?_)
    refine WP.loud rfl rfl ?_
    refine Op.buildSlice rfl ty_sl_111 ty_el2_111 rfl rfl rfl rfl (vs := [_]) rfl (segs := [(0, [_])]) (cs := [_]) rfl rfl (by repeat (first | exact SetSeg.nil | apply SetSeg.one | exact SetAt.zero | apply SetAt.succ)) (fun bl => ?_)
    refine WP.loud rfl rfl ?_
    refine Op.append rfl ty_sl_111 ty_el_111 rfl rfl rfl rfl rfl ow (SlRd.lit (by repeat (first | exact There.h | exact There.i (by assumption) | apply There.t | apply There.s)) rfl (Nat.le_refl _)) (by repeat (first | exact Take.nil | with_reducible apply Take.cons | apply Take.app | exact Rm.chunk | exact Rm.here | exact Rm.nil0 | apply Rm.skip | apply Rm.skipS | (focus (apply Take.all; (repeat (first | exact Rm.chunk | exact Rm.here | exact Rm.nil0 | apply Rm.skip | apply Rm.skipS)); done)) | apply Take.cons)) rfl (by omega) (by omega) (fun vq Lq hq => ?_)
    obtain ⟨Aq, cq, rfl, hcq⟩ := hq.slice
    refine WP.val rfl rfl rfl rfl (Yld.nilCheck rfl rfl) ?_
    refine WP.val rfl rfl rfl rfl (Yld.fieldAddr rfl ty_fd_113_2 rfl) ?_
    refine WP.loud rfl rfl ?_
    refine Op.store1 rfl rfl ty_sz_111 rfl rfl rfl (by repeat (first | exact Upd.head | apply Upd.tail | apply Upd.tailS)) (by repeat (first | exact SetAt.zero | apply SetAt.succ)) ?_
    refine WP.nil ?_
    refine WP.sub [(0, _), (1, _), (5, _), (9, _)] ?_ ⟨rfl, rfl, rfl, rfl, trivial⟩
    refine WP.pushL (f := ckCh) (l := y.cks) (b16, fun _ => none) (by repeat (first | exact Take.nil | with_reducible apply Take.cons | apply Take.app | exact Rm.chunk | exact Rm.here | exact Rm.nil0 | apply Rm.skip | apply Rm.skipS | (focus (apply Take.all; (repeat (first | exact Rm.chunk | exact Rm.here | exact Rm.nil0 | apply Rm.skip | apply Rm.skipS)); done)) | apply Take.cons)) (by repeat (first | exact Rm.chunk | exact Rm.here | exact Rm.nil0 | apply Rm.skip | apply Rm.skipS)) ?_
    refine WP.leave ?_
    exact WP.again ⟨y.grow b16, (t, row 113 [.pointer (some ⟨q, 0, none⟩), .int .u64 (y.tok : Int), .slice Aq (y.cks.length + 1) cq, .int .i64 y.next]) :: (Lq ++ (y.cks ++ [(b16, fun _ => none)]).flatMap ckCh)⟩ ⟨IsTab.mk (x := y.grow b16) (Tb.grow_ok ok b16 hlt2) (by simpa [Tb.grow, ckps] using hq), htk2, hnx2, fun k => (Tb.grow_get y b16 k).trans (hget2 k), by rw [Tb.grow_size]; omega, .inr ⟨by omega, by rw [Tb.grow_size]; omega⟩⟩ (show (513 - (y.grow b16).size).toNat < (513 - y.size).toNat by rw [Tb.grow_size]; omega) ⟨rfl, rfl, rfl, trivial⟩ rfl (by (try simp only [List.append_eq, List.cons_append, List.nil_append, List.append_assoc]); repeat (first | exact Rm.chunk | exact Rm.here | exact Rm.nil0 | apply Rm.skip | apply Rm.skipS | apply PX.cons | (apply PX.done; (repeat (first | exact Leave.done | apply Leave.drop | apply Leave.dropS)); done) | apply PX.app))
  · obtain ⟨i, j, hp1, hj, hi⟩ := Tb.split (x := y) (p := p) ⟨by omega, by omega⟩
    refine WP.nil ?_
    refine WP.sub [(0, _), (1, _), (5, _), (9, _)] ?_ ⟨rfl, rfl, rfl, rfl, trivial⟩
    refine WP.next ?_
    refine WP.condF rfl ?_
    refine WP.exit ?_
    refine WP.thenE ?_
    refine WP.thenE ?_
    refine WP.hit ?_
    refine WP.next ?_
    refine WP.seq ?_
    refine WP.region [0, 1, 2, 3, 4, 5, 6, 7, 8, 9, 10] rfl ?_
    refine WP.val rfl rfl rfl rfl (Yld.move rfl rfl) ?_
    refine WP.val rfl rfl rfl rfl (Yld.move rfl rfl) ?_
    refine WP.val rfl rfl rfl rfl (Yld.nilCheck rfl rfl) ?_
    refine WP.val rfl rfl rfl rfl (Yld.fieldAddr rfl ty_fd_113_3 rfl) ?_
    refine WP.val rfl rfl rfl rfl (Yld.load rfl ty_sc_3 rfl (by repeat (first | exact There.h | exact There.i (by assumption) | apply There.t | apply There.s)) rfl) ?_
    refine WP.val rfl rfl rfl rfl (Yld.move rfl rfl) ?_
    refine WP.val rfl rfl rfl rfl (Yld.add64 rfl rfl rfl (by omega)) ?_
    refine WP.val rfl rfl rfl rfl (Yld.max2 rfl rfl rfl _ rfl) ?_
    refine WP.val rfl rfl rfl rfl (Yld.nilCheck rfl rfl) ?_
    refine WP.val rfl rfl rfl rfl (Yld.fieldAddr rfl ty_fd_113_3 rfl) ?_
    refine WP.loud rfl rfl ?_
    refine Op.store1 rfl rfl ty_sz_3 rfl rfl rfl (by repeat (first | exact Upd.head | apply Upd.tail | apply Upd.tailS)) (by repeat (first | exact SetAt.zero | apply SetAt.succ)) ?_
    refine WP.nil ?_
    refine WP.sub [(0, _), (1, _), (5, _), (9, _)] ?_ ⟨rfl, rfl, rfl, rfl, trivial⟩
    refine WP.next ?_
    have hok3 : Tb.ok I ({ y with next := (if y.next < p + 1 then p + 1 else y.next) } : Tb) := ⟨ok.n1, ok.n2, ok.ent, by dsimp only; have := ok.nx; split <;> omega⟩
    have ow3 : Own 103 1 _ (ckps ({ y with next := (if y.next < p + 1 then p + 1 else y.next) } : Tb).cks) ({ y with next := (if y.next < p + 1 then p + 1 else y.next) } : Tb).cks.length _ := ow
    have hy3 := IsTab.mk (q := q) (t := t) hok3 ow3
    dsimp only at hy3
    refine WQ.start Trymixed 5 (by kernel_rfl) _ rfl [5, 6] rfl ?_
    refine WQ.val rfl rfl rfl (Yld.move rfl rfl) ?_
    refine WQ.val rfl rfl rfl (Yld.move rfl rfl) ?_
    refine WQ.call (tab_at1 hy3 hp1 hj hi) (by rintro v' J L1 ⟨rfl, rfl, rfl⟩; exact ⟨rfl, rfl, rfl⟩) rfl Try.func49 rfl rfl rfl rfl rfl (by repeat (first | exact Take.nil | with_reducible apply Take.cons | apply Take.app | exact Rm.chunk | exact Rm.here | exact Rm.nil0 | apply Rm.skip | apply Rm.skipS | (focus (apply Take.all; (repeat (first | exact Rm.chunk | exact Rm.here | exact Rm.nil0 | apply Rm.skip | apply Rm.skipS)); done)) | apply Take.cons)) ?_
    refine WQ.val rfl rfl rfl (Yld.move rfl rfl) ?_
    refine WQ.val rfl rfl rfl (Yld.loadAll rfl ty_ag_63 rfl (by repeat (first | exact There.h | exact There.i (by assumption) | apply There.t | apply There.s)) rfl) ?_
    refine WQ.nil ?_
    refine WP.loud rfl rfl ?_
    refine Op.call (tab_fresh hy3 he0 hsz (by dsimp only; omega)) rfl Try.func51 rfl rfl rfl rfl (by repeat (first | exact Take.nil | with_reducible apply Take.cons | apply Take.app | exact Rm.chunk | exact Rm.here | exact Rm.nil0 | apply Rm.skip | apply Rm.skipS | (focus (apply Take.all; (repeat (first | exact Rm.chunk | exact Rm.here | exact Rm.nil0 | apply Rm.skip | apply Rm.skipS)); done)) | apply Take.cons)) ?_
    rintro v J2 L9 hJ2 ⟨b9, rfl, hb9, hy4⟩
    try simp only [List.cons_append, List.nil_append, List.append_assoc]
    generalize hz : ({ ({ y with next := (if y.next < p + 1 then p + 1 else y.next) } : Tb) with tok := ({ y with next := (if y.next < p + 1 then p + 1 else y.next) } : Tb).tok + 1 } : Tb) = z at hy4
    have hzc : z.cks = y.cks := by rw [← hz]
    have hzt : z.tok = x.tok + 1 := by rw [← hz]; simp only [htk2]
    have hzn : z.next = if x.next < p + 1 then p + 1 else x.next := by rw [← hz]; simp only [hnx2]
    have hiz : i < z.cks.length := by rw [hzc]; exact hi
    have hzi : z.cks[i].1 = y.cks[i].1 := by simp only [hzc]
    have hzg : ∀ k, z.get k = y.get k := fun k => by simp only [Tb.get, hzc]
    have hzs : z.size = y.size := by simp only [Tb.size, hzc]
    dsimp only at hb9
    rw [← hzi]
    cases hy4 with | mk ok4 ow4 => _
    obtain ⟨bv4, cv4, spv4, rfl, rfl, hcv4, hnv4⟩ := ow4.get (by have := ok4.n1; omega)
    simp only [List.cons_append, List.nil_append, List.append_assoc]
    refine WP.outL (f := ckCh) (l := z.cks) i hiz (by repeat (first | exact Rm.chunk | exact Rm.here | exact Rm.nil0 | apply Rm.skip | apply Rm.skipS)) ?_
    simp only [ckCh, List.cons_append, List.nil_append]
    refine WP.loud rfl rfl ?_
    refine Op.call (slot_Store (o := some (b9, { e with tok := x.tok + 1 })) (fun e' he' => by cases he'; rw [← htk2]; exact hb9) (by simpa using ckV_set (f := z.cks[i].2) hj (some (b9, { e with tok := x.tok + 1 })))) rfl Try.func52 rfl rfl rfl rfl (by repeat (first | exact Take.nil | with_reducible apply Take.cons | apply Take.app | exact Rm.chunk | exact Rm.here | exact Rm.nil0 | apply Rm.skip | apply Rm.skipS | (focus (apply Take.all; (repeat (first | exact Rm.chunk | exact Rm.here | exact Rm.nil0 | apply Rm.skip | apply Rm.skipS)); done)) | apply Take.cons)) ?_
    rintro v J L1 hJ ⟨rfl, rfl, rfl⟩
    clear hJ; try simp only [List.cons_append, List.nil_append, List.append_assoc]
    refine WP.nil ?_
    refine WP.sub [(0, _), (1, _), (5, _), (9, _)] ?_ ⟨rfl, rfl, rfl, rfl, trivial⟩
    refine WP.backL (f := ckCh) (l := z.cks) i hiz (z.cks[i].1, putSl z.cks[i].2 j (some (b9, { e with tok := x.tok + 1 }))) (by repeat (first | exact Take.nil | with_reducible apply Take.cons | apply Take.app | exact Rm.chunk | exact Rm.here | exact Rm.nil0 | apply Rm.skip | apply Rm.skipS | (focus (apply Take.all; (repeat (first | exact Rm.chunk | exact Rm.here | exact Rm.nil0 | apply Rm.skip | apply Rm.skipS)); done)) | apply Take.cons)) (by repeat (first | exact Rm.chunk | exact Rm.here | exact Rm.nil0 | apply Rm.skip | apply Rm.skipS)) ?_
    refine WP.fin .normal (.inl rfl) (res0 rfl) ((t, row 113 [.pointer (some ⟨q, 0, none⟩), .int .u64 (z.tok : Int), .slice (some ⟨bv4, 0, none⟩) z.cks.length cv4, .int .i64 z.next]) :: ((bv4, row 103 (ckps z.cks ++ spv4)) :: (z.cks.set i (z.cks[i].1, putSl z.cks[i].2 j (some (b9, { e with tok := x.tok + 1 })))).flatMap ckCh)) (by repeat (first | exact Take.nil | with_reducible apply Take.cons | apply Take.app | exact Rm.chunk | exact Rm.here | exact Rm.nil0 | apply Rm.skip | apply Rm.skipS | (focus (apply Take.all; (repeat (first | exact Rm.chunk | exact Rm.here | exact Rm.nil0 | apply Rm.skip | apply Rm.skipS)); done)) | apply Take.cons)) (by repeat (first | exact Leave.done | apply Leave.drop | apply Leave.dropS)) hJ2 ?_
    refine ⟨z.setAt i j hiz (some (b9, { e with tok := x.tok + 1 })), rfl, ⟨hzt, hzn, ?_, ?_, ?_, b9, fun k => ?_⟩, ?_⟩
    · simp only [Tb.size, Tb.setAt, List.length_set] at *; omega
    · simp only [Tb.size, Tb.setAt, List.length_set] at *; omega
    · simp only [Tb.size, Tb.setAt, List.length_set] at *; omega
    · rw [Tb.setAt_get hiz hp1 hj, hzg, hget2]
    · exact IsTab.setAt ok4 ow4 hiz (o := some (b9, { e with tok := x.tok + 1 })) (fun e' he' => by cases he'; rw [← htk2]; exact hb9)


end Go.Hp
