import Derived.Test.YtbgkfndnbngnmaaSegU
set_option linter.unusedVariables false
set_option linter.unusedSimpArgs false
namespace Go.Hp
open Go Go.Proofs

theorem at_next {bs : List UInt8} {l k j : Nat} (hl : l + k ≤ bs.length) (hj : j < k) : leN ((cut bs l (l + k)).drop j) = 256 * leN ((cut bs l (l + k)).drop (j + 1)) + (bs[l + j]'(by omega)).toNat := by
  have hlen : (cut bs l (l + k)).length = k := by rw [cut_len hl]; omega
  rw [List.drop_eq_getElem_cons (i := j) (by omega), leN]
  have : (cut bs l (l + k))[j]'(by omega) = bs[l + j]'(by omega) := by simp [cut]
  rw [this]; omega
theorem at_small {bs : List UInt8} {l k j : Nat} (hl : l + k ≤ bs.length) (hk : k ≤ 6) : leN ((cut bs l (l + k)).drop j) < 281474976710656 := by
  have h1 := leN_lt ((cut bs l (l + k)).drop j)
  have hlen : ((cut bs l (l + k)).drop j).length ≤ 6 := by rw [List.length_drop, cut_len hl]; omega
  exact Nat.lt_of_lt_of_le h1 (Nat.le_trans (Nat.pow_le_pow_right (by decide) (show 8 * ((cut bs l (l + k)).drop j).length ≤ 48 by omega)) (by decide))

theorem ref_at {I : Imm} {bs : List UInt8} {vb : Value} {l k : Nat} (hb : SlRd (fun b o => I.blk b = some o) vb bs.length 1 (bytesV bs)) (hl : l + k ≤ bs.length) (hk : k ≤ 6) (hlk : l + k ≤ 1000) : Spec Try.prog 42 [vb, .int .i64 (l : Int), .int .i64 (k : Int)] I [] (fun v J L => v = .int .i64 (leN (cut bs l (l + k)) : Int) ∧ I = J ∧ L = []) := by
  refine Spec.of Try.func42 rfl Try.ntmps42 (Nat.le_of_ble_eq_true rfl) (fun F => ?_)
  try simp only [List.cons_append, List.nil_append, List.append_assoc]
  dsimp only [argsEnv]
  refine WP.seq ?_
  refine WP.region [0] rfl ?_
  refine WP.val rfl rfl rfl rfl (Yld.assign rfl rfl) ?_
  refine WP.nil ?_
  refine WP.next ?_
  refine WP.seq ?_
  refine WP.region [0] rfl ?_
  refine WP.val rfl rfl rfl rfl (Yld.assign rfl rfl) ?_
  refine WP.nil ?_
  refine WP.next ?_
  refine WP.seq ?_
  refine WP.seq ?_
  refine WP.region [0, 1, 2] rfl ?_
  refine WP.val rfl rfl rfl rfl (Yld.move rfl rfl) ?_
  refine WP.val rfl rfl rfl rfl (Yld.sub64 rfl rfl rfl (by omega)) ?_
  refine WP.val rfl rfl rfl rfl (Yld.assign rfl rfl) ?_
  refine WP.nil ?_
  refine WP.sub [(0, _), (1, _), (2, _), (6, _), (7, _), (8, _)] ?_ ⟨rfl, rfl, rfl, rfl, rfl, rfl, trivial⟩
  refine WP.next ?_
  refine WP.block ?_
  refine WP.loop (X := Nat) (fun j : Nat => [(0, vb), (1, .int .i64 (l : Int)), (7, .int .i64 (leN ((cut bs l (l + k)).drop j) : Int)), (8, .int .i64 ((j : Int) - 1))]) (fun _ => I) (fun _ => F) (fun j => j ≤ k) (fun j => j) k (Nat.le_refl _) ⟨rfl, rfl, (by rw [List.drop_of_length_le (by rw [cut_len hl]; omega)]; rfl), rfl, trivial⟩ rfl (by (try dsimp only); repeat (first | exact Rm.chunk | exact Rm.here | exact Rm.nil0 | apply Rm.skip | apply Rm.skipS | apply PX.cons | (apply PX.done; (repeat (first | exact Leave.done | apply Leave.drop | apply Leave.dropS)); done) | apply PX.app)) ?_
  intro j hj0; have hj0 : j ≤ k := hj0
  try dsimp only
  try simp only [List.cons_append, List.nil_append, List.append_assoc]
  refine WP.seq ?_
  refine WP.seq ?_
  refine WP.region [0, 1] rfl ?_
  refine WP.val rfl rfl rfl rfl (Yld.move rfl rfl) ?_
  refine WP.split rfl rfl rfl rfl (Yld.geq rfl rfl rfl) (fun hge => ?_) (fun hge => ?_)
  · obtain ⟨j, rfl⟩ : ∃ j', j = j' + 1 := ⟨j - 1, by omega⟩
    have hi : l + j < bs.length := by omega
    have hsm := at_small (j := j + 1) hl hk
    obtain ⟨bb, kb, cb, Tb, frb, arrb, rfl, hcb, hbb, hb4⟩ := hb.get (by omega)
    have eb := take_cells hb4 (l + j) (byteV bs[l + j]) (by simp [bytesV, hi]) (by rw [bytesV_len]; exact hi)
    rw [Array.getElem?_toList] at eb
    have hbt := bs[l + j].toNat_lt
    refine WP.nil ?_
    refine WP.sub [(0, _), (1, _), (7, _), (8, _), (12, _)] ?_ ⟨rfl, rfl, rfl, rfl, rfl, trivial⟩
    refine WP.next ?_
    refine WP.condT rfl ?_
    refine WP.skip ?_
    refine WP.next ?_
    refine WP.seq ?_
    refine WP.block ?_
    refine WP.region [0, 1, 2, 3, 4, 5, 6, 7, 8, 9, 10] rfl ?_
    refine WP.val rfl rfl rfl rfl (Yld.move rfl rfl) ?_
    refine WP.val rfl rfl rfl rfl (Yld.mul64 rfl rfl rfl (by omega)) ?_
    refine WP.val rfl rfl rfl rfl (Yld.move rfl rfl) ?_
    refine WP.val rfl rfl rfl rfl (Yld.move rfl rfl) ?_
    refine WP.val rfl rfl rfl rfl (Yld.move rfl rfl) ?_
    refine WP.val rfl rfl rfl rfl (Yld.add64 rfl rfl rfl (by omega)) ?_
    refine WP.val rfl rfl rfl rfl (Yld.indexAddr (i := l + j) rfl ty_sl_22 rfl (congrArg (fun z : Int => some (Value.int .i64 z)) (by omega)) hi) ?_
    refine WP.val rfl rfl rfl rfl (Yld.loadC rfl ty_sc_5 rfl (There.i hbb) (by rw [Nat.mul_one]; exact eb)) ?_
    refine WP.val rfl rfl rfl rfl (Yld.conv64 rfl ty_un_5 ty_ik_3 rfl (by omega)) ?_
    refine WP.val rfl rfl rfl rfl (Yld.add64 rfl rfl rfl (by omega)) ?_
    refine WP.val rfl rfl rfl rfl (Yld.assign rfl rfl) ?_
    refine WP.nil ?_
    refine WP.sub [(0, _), (1, _), (7, _), (8, _), (12, _)] ?_ ⟨rfl, rfl, rfl, rfl, rfl, trivial⟩
    refine WP.leave ?_
    refine WP.next ?_
    refine WP.region [0, 1, 2] rfl ?_
    refine WP.val rfl rfl rfl rfl (Yld.move rfl rfl) ?_
    refine WP.val rfl rfl rfl rfl (Yld.sub64 rfl rfl rfl (by omega)) ?_
    refine WP.val rfl rfl rfl rfl (Yld.assign rfl rfl) ?_
    refine WP.nil ?_
    refine WP.sub [(0, _), (1, _), (7, _), (8, _), (12, _)] ?_ ⟨rfl, rfl, rfl, rfl, rfl, trivial⟩
    exact WP.again j (show j ≤ k by omega) (show j < j + 1 by omega) ⟨rfl, rfl, (congrArg (fun z : Int => some (Value.int .i64 z)) (by have q := at_next hl (show j < k by omega); omega)), (congrArg (fun z : Int => some (Value.int .i64 z)) (by omega)), trivial⟩ rfl (by (try dsimp only); repeat (first | exact Rm.chunk | exact Rm.here | exact Rm.nil0 | apply Rm.skip | apply Rm.skipS | apply PX.cons | (apply PX.done; (repeat (first | exact Leave.done | apply Leave.drop | apply Leave.dropS)); done) | apply PX.app))
  · obtain rfl : j = 0 := by omega
    rw [List.drop_zero]
    refine WP.nil ?_
    refine WP.sub [(0, _), (1, _), (7, _), (8, _), (12, _)] ?_ ⟨rfl, rfl, rfl, rfl, rfl, trivial⟩
    refine WP.next ?_
    refine WP.condF rfl ?_
    refine WP.exit ?_
    refine WP.thenE ?_
    refine WP.thenE ?_
    refine WP.hit ?_
    refine WP.next ?_
    refine WP.seq ?_
    refine WP.region [0, 1] rfl ?_
    refine WP.val rfl rfl rfl rfl (Yld.move rfl rfl) ?_
    refine WP.val rfl rfl rfl rfl (Yld.assign rfl rfl) ?_
    refine WP.nil ?_
    refine WP.sub [(0, _), (1, _), (6, _), (7, _), (8, _), (12, _)] ?_ ⟨rfl, rfl, rfl, rfl, rfl, rfl, trivial⟩
    refine WP.next ?_
    refine WP.ret ?_
    refine WP.fin .ret (.inr rfl) (res1 rfl rfl) [] (by repeat (first | exact Take.nil | with_reducible apply Take.cons | apply Take.app | exact Rm.chunk | exact Rm.here | exact Rm.nil0 | apply Rm.skip | apply Rm.skipS | (focus (apply Take.all; (repeat (first | exact Rm.chunk | exact Rm.here | exact Rm.nil0 | apply Rm.skip | apply Rm.skipS)); done)) | apply Take.cons)) (by repeat (first | exact Leave.done | apply Leave.drop | apply Leave.dropS)) (Imm.le_refl _) ?_
    exact ⟨rfl, rfl, rfl⟩

set_option maxHeartbeats 2000000 in
theorem ref_Decode_ok {I : Imm} {bs : List UInt8} {vb : Value} (hb : SlRd (fun b o => I.blk b = some o) vb bs.length 1 (bytesV bs)) (hbl : bs.length ≤ 140737488351232) (hm : (decP (strip bs 4)).may) : Spec Try.prog 19 [vb] I [] (fun v J L => ∃ cs, v = .tuple #[.agg cs.toArray, .int .i64 (perr (pdec bs))] ∧ RPt J ((pdec bs).getD ptZ) cs ∧ L = []) := by
  obtain ⟨Ab, cb, rfl, hcb0, _, _⟩ := id hb
  refine Spec.of Try.func19 rfl Try.ntmps19 (Nat.le_of_ble_eq_true rfl) (fun F => ?_)
  try simp only [List.cons_append, List.nil_append, List.append_assoc]
  dsimp only [argsEnv]
  refine WP.seq ?_
  refine WP.region [0, 1] rfl ?_
  refine WP.loud rfl rfl ?_
  refine Op.alloc rfl rfl rfl ty_zr_35 (fun b2 => ?_)
  refine WP.val rfl rfl rfl rfl (Yld.assign rfl rfl) ?_
  refine WP.nil ?_
  refine WP.next ?_
  refine WP.seq ?_
  refine WP.seq ?_
  refine WP.region [0, 1, 2] rfl ?_
  refine WP.val rfl rfl rfl rfl (Yld.move rfl rfl) ?_
  refine WP.val rfl rfl rfl rfl (Yld.lenR hb rfl ty_sl_22 rfl) ?_
  refine WP.split rfl rfl rfl rfl (Yld.neq rfl rfl rfl) (fun hl => ?_) (fun hl => ?_)
  · refine WP.nil ?_
    refine WP.sub [(0, _), (2, _), (3, _), (12, _)] ?_ ⟨rfl, rfl, rfl, rfl, trivial⟩
    refine WP.next ?_
    refine WP.condT rfl ?_
    refine WP.seq ?_
    refine WP.region [0, 1, 2] rfl ?_
    refine WP.val rfl rfl rfl rfl (Yld.buildS (pl := []) rfl ty_zr_35 ty_zd_35 (by kernel_rfl) rfl (vs := []) rfl (segs := []) rfl rfl (by repeat (first | exact SetSeg.nil | apply SetSeg.one | exact SetAt.zero | apply SetAt.succ))) ?_
    refine WP.loud rfl rfl ?_
    refine Op.storeAll rfl rfl ty_sz_35 rfl rfl rfl rfl (by repeat (first | exact Upd.head | apply Upd.tail | apply Upd.tailS)) rfl ?_
    refine WP.val rfl rfl rfl rfl (Yld.assign rfl rfl) ?_
    refine WP.nil ?_
    refine WP.sub [(0, _), (2, _), (3, _), (12, _)] ?_ ⟨rfl, rfl, rfl, rfl, trivial⟩
    refine WP.next ?_
    refine WP.ret ?_
    refine WP.fin .ret (.inr rfl) (resT (rs := [.cell 2 35, .tmp 3]) (vs := [_, _]) rfl ⟨⟨_, _, _, _, rfl, (by repeat (first | exact There.h | exact There.i (by assumption) | apply There.t | apply There.s)), .inl ⟨ty_ag_35, by rfl, rfl⟩⟩, rfl, trivial⟩ rfl) [] (by repeat (first | exact Take.nil | with_reducible apply Take.cons | apply Take.app | exact Rm.chunk | exact Rm.here | exact Rm.nil0 | apply Rm.skip | apply Rm.skipS | (focus (apply Take.all; (repeat (first | exact Rm.chunk | exact Rm.here | exact Rm.nil0 | apply Rm.skip | apply Rm.skipS)); done)) | apply Take.cons)) (by repeat (first | exact Leave.done | apply Leave.drop | apply Leave.dropS)) (Imm.le_refl _) ?_
    have hn : pdec bs = none := pdec_none (fun h => (by have := h.1; omega))
    rw [hn]; exact ⟨_, rfl, RPt.zero _, rfl⟩
  · have hl : bs.length = 256 := by omega
    refine WP.nil ?_
    refine WP.sub [(0, _), (2, _), (3, _), (12, _)] ?_ ⟨rfl, rfl, rfl, rfl, trivial⟩
    refine WP.next ?_
    refine WP.condF rfl ?_
    refine WP.skip ?_
    refine WP.next ?_
    refine WP.seq ?_
    refine WP.region [0] rfl ?_
    refine WP.val rfl rfl rfl rfl (Yld.assign rfl rfl) ?_
    refine WP.nil ?_
    refine WP.next ?_
    refine WP.seq ?_
    refine WP.seq ?_
    refine WP.region [0] rfl ?_
    refine WP.val rfl rfl rfl rfl (Yld.assign rfl rfl) ?_
    refine WP.nil ?_
    refine WP.next ?_
    refine WP.block ?_
    refine WP.loop (X := Nat × Value × Chunks) (fun u : Nat × Value × Chunks => [(0, .slice Ab bs.length cb), (2, .pointer (some ⟨b2, 0, none⟩)), (4, u.2.1), (5, .int .i64 (u.1 : Int))]) (fun _ => I) (fun u : Nat × Value × Chunks => (b2, row 35 (ptV ptZ (.slice none 0 0))) :: (u.2.2 ++ F)) (fun u : Nat × Value × Chunks => u.1 ≤ 4 ∧ Own 5 1 u.2.1 (bytesV (strip bs u.1)) (strip bs u.1).length u.2.2) (fun u : Nat × Value × Chunks => 4 - u.1) (0, .slice none 0 0, []) ⟨Nat.zero_le _, .none0⟩ ⟨rfl, rfl, rfl, rfl, trivial⟩ rfl (by (try dsimp only); repeat (first | exact Rm.chunk | exact Rm.here | exact Rm.nil0 | apply Rm.skip | apply Rm.skipS | apply PX.cons | (apply PX.done; (repeat (first | exact Leave.done | apply Leave.drop | apply Leave.dropS)); done) | apply PX.app)) ?_
    rintro ⟨i, vo, Lo⟩ ⟨hi4, hout⟩; dsimp only at hi4 hout
    try dsimp only
    try simp only [List.cons_append, List.nil_append, List.append_assoc]
    refine WP.seq ?_
    refine WP.seq ?_
    refine WP.region [0, 1] rfl ?_
    refine WP.val rfl rfl rfl rfl (Yld.move rfl rfl) ?_
    refine WP.split rfl rfl rfl rfl (Yld.lss rfl rfl rfl) (fun hlt => ?_) (fun hlt => ?_)
    · have hi : i < 4 := by omega
      have hsl := strip_len hl i (by omega)
      have hsub := sub_rd hb (l := i * 64) (k := i * 64 + 56) (by omega) (by omega)
      have hcut : cut bs (i * 64) (i * 64 + 56) = (cut bs (i * 64) ((i + 1) * 64)).take 56 := by unfold cut; rw [List.take_take]; congr 1; omega
      have hc64 : (cut bs (i * 64) ((i + 1) * 64)).length = 64 := by rw [cut_len (by omega)]; omega
      rw [hcut] at hsub
      refine WP.nil ?_
      refine WP.sub [(0, _), (2, _), (4, _), (5, _), (15, _)] ?_ ⟨rfl, rfl, rfl, rfl, rfl, trivial⟩
      refine WP.next ?_
      refine WP.condT rfl ?_
      refine WP.skip ?_
      refine WP.next ?_
      refine WP.seq ?_
      refine WP.block ?_
      refine WP.region [0, 1, 2, 3, 4, 5, 6, 7, 8, 9] rfl ?_
      refine WP.val rfl rfl rfl rfl (Yld.move rfl rfl) ?_
      refine WP.val rfl rfl rfl rfl (Yld.move rfl rfl) ?_
      refine WP.val rfl rfl rfl rfl (Yld.move rfl rfl) ?_
      refine WP.val rfl rfl rfl rfl (Yld.mul64 rfl rfl rfl (by omega)) ?_
      refine WP.val rfl rfl rfl rfl (Yld.move rfl rfl) ?_
      refine WP.val rfl rfl rfl rfl (Yld.mul64 rfl rfl rfl (by omega)) ?_
      refine WP.val rfl rfl rfl rfl (Yld.add64 rfl rfl rfl (by omega)) ?_
      refine WP.val rfl rfl rfl rfl (Yld.sliceR (l := i * 64) (h := i * 64 + 56) hb rfl ty_sl_22 rfl (Env.limS (n := i * 64) (congrArg (fun z : Int => some (Value.int .i64 z)) (by omega))) (Env.limS (n := i * 64 + 56) (congrArg (fun z : Int => some (Value.int .i64 z)) (by omega))) (by omega) (by omega)) ?_
      refine WP.loud rfl rfl ?_
      refine Op.append (m := i * 64 + 56 - i * 64) rfl ty_sl_22 ty_el_22 rfl rfl rfl rfl rfl hout (hsub.mono (fun b o h => There.i h)) (by repeat (first | exact Take.nil | with_reducible apply Take.cons | apply Take.app | exact Rm.chunk | exact Rm.here | exact Rm.nil0 | apply Rm.skip | apply Rm.skipS | (focus (apply Take.all; (repeat (first | exact Rm.chunk | exact Rm.here | exact Rm.nil0 | apply Rm.skip | apply Rm.skipS)); done)) | apply Take.cons)) (bytesV_one _) (by omega) (by omega) (fun vn Ln hn => ?_)
      try simp only [List.cons_append, List.nil_append, List.append_assoc]
      have hnew : Own 5 1 vn (bytesV (strip bs (i + 1))) (strip bs (i + 1)).length Ln := by have e : (strip bs (i + 1)).length = (strip bs i).length + (i * 64 + 56 - i * 64) := (by rw [strip, List.length_append, List.length_take, hc64, show i * 64 + 56 - i * 64 = 56 by omega]; rfl); rw [e, strip, bytesV_app]; exact hn
      refine WP.val rfl rfl rfl rfl (Yld.assign rfl rfl) ?_
      refine WP.nil ?_
      refine WP.sub [(0, _), (2, _), (4, _), (5, _), (15, _)] ?_ ⟨rfl, rfl, rfl, rfl, rfl, trivial⟩
      refine WP.leave ?_
      refine WP.next ?_
      refine WP.region [0, 1, 2] rfl ?_
      refine WP.val rfl rfl rfl rfl (Yld.move rfl rfl) ?_
      refine WP.val rfl rfl rfl rfl (Yld.add64 rfl rfl rfl (by omega)) ?_
      refine WP.val rfl rfl rfl rfl (Yld.assign rfl rfl) ?_
      refine WP.nil ?_
      refine WP.sub [(0, _), (2, _), (4, _), (5, _), (15, _)] ?_ ⟨rfl, rfl, rfl, rfl, rfl, trivial⟩
      exact WP.again (i + 1, vn, Ln) ⟨(show i + 1 ≤ 4 by omega), hnew⟩ (show 4 - (i + 1) < 4 - i by omega) ⟨rfl, rfl, rfl, rfl, trivial⟩ rfl (by (try dsimp only); repeat (first | exact Rm.chunk | exact Rm.here | exact Rm.nil0 | apply Rm.skip | apply Rm.skipS | apply PX.cons | (apply PX.done; (repeat (first | exact Leave.done | apply Leave.drop | apply Leave.dropS)); done) | apply PX.app))
    · obtain rfl : i = 4 := by omega
      refine WP.nil ?_
      refine WP.sub [(0, _), (2, _), (4, _), (5, _), (15, _)] ?_ ⟨rfl, rfl, rfl, rfl, rfl, trivial⟩
      refine WP.next ?_
      refine WP.condF rfl ?_
      refine WP.exit ?_
      refine WP.thenE ?_
      refine WP.thenE ?_
      refine WP.hit ?_
      refine WP.next ?_
      refine WP.seq ?_
      have hcl := strip_len hl 4 (by omega)
      refine WP.shareOwn hout (by repeat (first | exact Take.nil | with_reducible apply Take.cons | apply Take.app | exact Rm.chunk | exact Rm.here | exact Rm.nil0 | apply Rm.skip | apply Rm.skipS | (focus (apply Take.all; (repeat (first | exact Rm.chunk | exact Rm.here | exact Rm.nil0 | apply Rm.skip | apply Rm.skipS)); done)) | apply Take.cons)) (fun J1 hJ1 hc => ?_)
      have hb := hb.mono (fun b o h => hJ1.2 b o h)
      refine WP.region [0, 1, 2] rfl ?_
      refine WP.val rfl rfl rfl rfl (Yld.move rfl rfl) ?_
      refine WP.loud rfl rfl ?_
      refine Op.call (ref_at (l := 4) (k := 2) hc (by omega) (by decide) (by decide)) rfl Try.func42 rfl rfl rfl rfl (by repeat (first | exact Take.nil | with_reducible apply Take.cons | apply Take.app | exact Rm.chunk | exact Rm.here | exact Rm.nil0 | apply Rm.skip | apply Rm.skipS | (focus (apply Take.all; (repeat (first | exact Rm.chunk | exact Rm.here | exact Rm.nil0 | apply Rm.skip | apply Rm.skipS)); done)) | apply Take.cons)) ?_
      rintro v J L1 hJ ⟨rfl, rfl, rfl⟩
      clear hJ; try simp only [List.cons_append, List.nil_append, List.append_assoc]
      rw [show leN (cut (strip bs 4) 4 (4 + 2)) = pmany (strip bs 4) from rfl]
      refine WP.val rfl rfl rfl rfl (Yld.assign rfl rfl) ?_
      refine WP.nil ?_
      refine WP.sub [(0, _), (2, _), (4, _), (5, _), (6, _), (15, _)] ?_ ⟨rfl, rfl, rfl, rfl, rfl, rfl, trivial⟩
      refine WP.next ?_
      refine WP.seq ?_
      refine WP.seq ?_
      refine WP.region [0, 1] rfl ?_
      refine WP.val rfl rfl rfl rfl (Yld.move rfl rfl) ?_
      refine WP.split rfl rfl rfl rfl (Yld.gtr rfl rfl rfl) (fun hmany => ?_) (fun hmany => ?_)
      · refine WP.nil ?_
        refine WP.sub [(0, _), (2, _), (4, _), (5, _), (6, _), (15, _), (30, _)] ?_ ⟨rfl, rfl, rfl, rfl, rfl, rfl, rfl, trivial⟩
        refine WP.next ?_
        refine WP.condT rfl ?_
        refine WP.seq ?_
        refine WP.region [0, 1, 2] rfl ?_
        refine WP.val rfl rfl rfl rfl (Yld.buildS (pl := []) rfl ty_zr_35 ty_zd_35 (by kernel_rfl) rfl (vs := []) rfl (segs := []) rfl rfl (by repeat (first | exact SetSeg.nil | apply SetSeg.one | exact SetAt.zero | apply SetAt.succ))) ?_
        refine WP.loud rfl rfl ?_
        refine Op.storeAll rfl rfl ty_sz_35 rfl rfl rfl rfl (by repeat (first | exact Upd.head | apply Upd.tail | apply Upd.tailS)) rfl ?_
        refine WP.val rfl rfl rfl rfl (Yld.assign rfl rfl) ?_
        refine WP.nil ?_
        refine WP.sub [(0, _), (2, _), (3, _), (4, _), (5, _), (6, _), (15, _), (30, _)] ?_ ⟨rfl, rfl, rfl, rfl, rfl, rfl, rfl, rfl, trivial⟩
        refine WP.next ?_
        refine WP.ret ?_
        refine WP.fin .ret (.inr rfl) (resT (rs := [.cell 2 35, .tmp 3]) (vs := [_, _]) rfl ⟨⟨_, _, _, _, rfl, (by repeat (first | exact There.h | exact There.i (by assumption) | apply There.t | apply There.s)), .inl ⟨ty_ag_35, by rfl, rfl⟩⟩, rfl, trivial⟩ rfl) [] (by repeat (first | exact Take.nil | with_reducible apply Take.cons | apply Take.app | exact Rm.chunk | exact Rm.here | exact Rm.nil0 | apply Rm.skip | apply Rm.skipS | (focus (apply Take.all; (repeat (first | exact Rm.chunk | exact Rm.here | exact Rm.nil0 | apply Rm.skip | apply Rm.skipS)); done)) | apply Take.cons)) (by repeat (first | exact Leave.done | apply Leave.drop | apply Leave.dropS)) hJ1 ?_
        have hn : pdec bs = none := pdec_none (fun h => (by have := h.2.1; omega))
        rw [hn]; exact ⟨_, rfl, RPt.zero _, rfl⟩
      · have hmany : pmany (strip bs 4) ≤ 198 := by omega
        obtain ⟨bc, kc, cc, Tc, frc, arrc, rfl, hcc, hcb, hcd⟩ := hc.get (by omega)
        have e2 := take_cells hcd 2 (byteV (strip bs 4)[2]) (by simp [bytesV, hcl]) (by rw [bytesV_len]; omega)
        have e3 := take_cells hcd 3 (byteV (strip bs 4)[3]) (by simp [bytesV, hcl]) (by rw [bytesV_len]; omega)
        rw [Array.getElem?_toList] at e2 e3
        have hd : SlRd (fun b o => J1.blk b = some o) (subSl 1 22 (22 + pmany (strip bs 4)) (.slice (some ⟨bc, kc, none⟩) (strip bs 4).length cc)) (decP (strip bs 4)).data.length 1 (bytesV (decP (strip bs 4)).data) := by show SlRd _ _ (cut (strip bs 4) 22 (22 + pmany (strip bs 4))).length 1 (bytesV (cut (strip bs 4) 22 (22 + pmany (strip bs 4)))); rw [cut_len (by omega)]; exact sub_rd hc (by omega) (by omega)
        refine WP.nil ?_
        refine WP.sub [(0, _), (2, _), (4, _), (5, _), (6, _), (15, _), (30, _)] ?_ ⟨rfl, rfl, rfl, rfl, rfl, rfl, rfl, trivial⟩
        refine WP.next ?_
        refine WP.condF rfl ?_
        refine WP.skip ?_
        refine WP.next ?_
        refine WP.seq ?_
        refine WD.start Trymixed 20 (fun b o => J1.blk b = some o) (fun _ _ => False) (fun b o h => There.i h) (fun _ _ h => h.elim) 21 [false, false, false, false, false, false, false, false, false, false, false, false, false, false, false, false, false, false, false, false, false] rfl rfl ?_
        refine WD.val (i := 0) rfl rfl rfl rfl (by kernel_rfl) rfl (Yld.move rfl rfl) ?_
        refine WD.val (i := 1) rfl rfl rfl rfl (by kernel_rfl) rfl (Yld.indexAddr (i := 2) rfl ty_sl_22 rfl rfl (by omega)) ?_
        refine WD.val1 (i := 2) rfl rfl rfl rfl (by kernel_rfl) rfl (by kernel_rfl) (Yld.loadC rfl ty_sc_5 rfl (.inl hcb) e2) ?_
        refine WD.val (i := 3) rfl rfl rfl rfl (by kernel_rfl) rfl (Yld.conv64 rfl ty_un_5 ty_ik_3 rfl (by have := ((strip bs 4)[2]).toNat_lt; omega)) ?_
        rw [byteN_at (c := (strip bs 4)) (i := 2) (by omega)]
        refine WD.val (i := 4) rfl rfl rfl rfl (by kernel_rfl) rfl (Yld.move rfl rfl) ?_
        refine WD.val (i := 5) rfl rfl rfl rfl (by kernel_rfl) rfl (Yld.indexAddr (i := 3) rfl ty_sl_22 rfl rfl (by omega)) ?_
        refine WD.val1 (i := 6) rfl rfl rfl rfl (by kernel_rfl) rfl (by kernel_rfl) (Yld.loadC rfl ty_sc_5 rfl (.inl hcb) e3) ?_
        refine WD.val (i := 7) rfl rfl rfl rfl (by kernel_rfl) rfl (Yld.conv64 rfl ty_un_5 ty_ik_3 rfl (by have := ((strip bs 4)[3]).toNat_lt; omega)) ?_
        rw [byteN_at (c := (strip bs 4)) (i := 3) (by omega)]
        refine WD.val (i := 8) rfl rfl rfl rfl (by kernel_rfl) rfl (Yld.move rfl rfl) ?_
        refine WD.val (i := 10) rfl rfl rfl rfl (by kernel_rfl) rfl (Yld.move rfl rfl) ?_
        refine WD.val (i := 12) rfl rfl rfl rfl (by kernel_rfl) rfl (Yld.move rfl rfl) ?_
        refine WD.val (i := 14) rfl rfl rfl rfl (by kernel_rfl) rfl (Yld.move rfl rfl) ?_
        refine WD.val (i := 15) rfl rfl rfl rfl (by kernel_rfl) rfl (Yld.move rfl rfl) ?_
        refine WD.val (i := 16) rfl rfl rfl rfl (by kernel_rfl) rfl (Yld.add64 rfl rfl rfl (by omega)) ?_
        refine WD.val (i := 17) rfl rfl rfl rfl (by kernel_rfl) rfl (Yld.sliceR (l := 22) (h := 22 + pmany (strip bs 4)) hc rfl ty_sl_22 rfl (Env.limS (n := 22) rfl) (Env.limS (n := 22 + pmany (strip bs 4)) (congrArg (fun z : Int => some (Value.int .i64 z)) (by omega))) (by omega) (by omega)) ?_
        refine WD.both (i := 9) (j := 19) (by kernel_rfl) rfl rfl ?_ ?_
        · refine WP.oper rfl rfl ?_
          refine Op.call (ref_at (l := 6) (k := 6) hc (by omega) (by decide) (by decide)) rfl Try.func42 rfl rfl rfl rfl (by repeat (first | exact Take.nil | with_reducible apply Take.cons | apply Take.app | exact Rm.chunk | exact Rm.here | exact Rm.nil0 | apply Rm.skip | apply Rm.skipS | (focus (apply Take.all; (repeat (first | exact Rm.chunk | exact Rm.here | exact Rm.nil0 | apply Rm.skip | apply Rm.skipS)); done)) | apply Take.cons)) ?_
          rintro v J L1 hJ ⟨rfl, rfl, rfl⟩
          clear hJ; try simp only [List.cons_append, List.nil_append, List.append_assoc]
          refine WD.go (.inr (fun b o h => There.i h)) (fun _ _ h => h.elim) ?_
          refine WD.both (i := 11) (j := 19) (by kernel_rfl) rfl rfl ?_ ?_
          · refine WP.oper rfl rfl ?_
            refine Op.call (ref_at (l := 12) (k := 6) hc (by omega) (by decide) (by decide)) rfl Try.func42 rfl rfl rfl rfl (by repeat (first | exact Take.nil | with_reducible apply Take.cons | apply Take.app | exact Rm.chunk | exact Rm.here | exact Rm.nil0 | apply Rm.skip | apply Rm.skipS | (focus (apply Take.all; (repeat (first | exact Rm.chunk | exact Rm.here | exact Rm.nil0 | apply Rm.skip | apply Rm.skipS)); done)) | apply Take.cons)) ?_
            rintro v J L1 hJ ⟨rfl, rfl, rfl⟩
            clear hJ; try simp only [List.cons_append, List.nil_append, List.append_assoc]
            refine WD.go (.inr (fun b o h => There.i h)) (fun _ _ h => h.elim) ?_
            refine WD.both (i := 13) (j := 19) (by kernel_rfl) rfl rfl ?_ ?_
            · refine WP.oper rfl rfl ?_
              refine Op.call (ref_at (l := 18) (k := 4) hc (by omega) (by decide) (by decide)) rfl Try.func42 rfl rfl rfl rfl (by repeat (first | exact Take.nil | with_reducible apply Take.cons | apply Take.app | exact Rm.chunk | exact Rm.here | exact Rm.nil0 | apply Rm.skip | apply Rm.skipS | (focus (apply Take.all; (repeat (first | exact Rm.chunk | exact Rm.here | exact Rm.nil0 | apply Rm.skip | apply Rm.skipS)); done)) | apply Take.cons)) ?_
              rintro v J L1 hJ ⟨rfl, rfl, rfl⟩
              clear hJ; try simp only [List.cons_append, List.nil_append, List.append_assoc]
              refine WD.go (.inr (fun b o h => There.i h)) (fun _ _ h => h.elim) ?_
              refine WD.val (i := 18) rfl rfl rfl rfl (by kernel_rfl) rfl (Yld.buildS (pl := [(4, 4, 1), (2, 2, 1), (1, 1, 1), (0, 0, 1), (3, 3, 1), (5, 5, 1)]) rfl ty_zr_35 ty_zd_35 (by kernel_rfl) rfl (vs := [_, _, _, _, _, _]) rfl (segs := [(4, [_]), (2, [_]), (1, [_]), (0, [_]), (3, [_]), (5, [_])]) rfl rfl (by repeat (first | exact SetSeg.nil | apply SetSeg.one | exact SetAt.zero | apply SetAt.succ))) ?_
              refine WD.loud (i := 19) (by kernel_rfl) rfl rfl rfl ?_
              refine Op.alloc rfl rfl rfl ty_zr_35 (fun b8 => ?_)
              refine WD.go (.inr (fun b o h => There.i h)) (fun _ _ h => h.elim) ?_
              refine WD.loud (i := 20) (by kernel_rfl) rfl rfl rfl ?_
              refine Op.storeAll rfl rfl ty_sz_35 rfl rfl rfl rfl (by repeat (first | exact Upd.head | apply Upd.tail | apply Upd.tailS)) rfl ?_
              refine WD.go (.inl rfl) (fun _ _ h => h.elim) ?_
              refine WD.done (by kernel_rfl) ?_
              refine WP.sub [(0, _), (2, _), (4, _), (5, _), (6, _), (7, _), (15, _), (30, _)] ?_ ⟨rfl, rfl, rfl, rfl, rfl, rfl, rfl, rfl, trivial⟩
              refine WP.next ?_
              refine WP.seq ?_
              refine WP.region [0, 1, 2, 3, 4, 5, 6] rfl ?_
              refine WP.val rfl rfl rfl rfl (Yld.loadAll rfl ty_ag_35 rfl (by repeat (first | exact There.h | exact There.i (by assumption) | apply There.t | apply There.s)) rfl) ?_
              refine WP.loud rfl rfl ?_
              refine Op.call (ref_Encode_ok (p := (decP (strip bs 4))) hd hm) rfl Try.func17 rfl rfl rfl rfl (by repeat (first | exact Take.nil | with_reducible apply Take.cons | apply Take.app | exact Rm.chunk | exact Rm.here | exact Rm.nil0 | apply Rm.skip | apply Rm.skipS | (focus (apply Take.all; (repeat (first | exact Rm.chunk | exact Rm.here | exact Rm.nil0 | apply Rm.skip | apply Rm.skipS)); done)) | apply Take.cons)) ?_
              rintro v J3 Lo2 hJ3 ⟨va, rfl, ho⟩
              try simp only [List.cons_append, List.nil_append, List.append_assoc]
              have hb := hb.mono (fun b o h => hJ3.2 b o h)
              have hd := hd.mono (fun b o h => hJ3.2 b o h)
              refine WP.val rfl rfl rfl rfl (Yld.move rfl rfl) ?_
              refine WP.val rfl rfl rfl rfl (Yld.extract rfl rfl rfl) ?_
              refine WP.val rfl rfl rfl rfl (Yld.extract rfl rfl rfl) ?_
              refine WP.val rfl rfl rfl rfl (Yld.assign rfl rfl) ?_
              refine WP.val rfl rfl rfl rfl (Yld.assign rfl rfl) ?_
              refine WP.nil ?_
              refine WP.sub [(0, _), (2, _), (4, _), (5, _), (6, _), (7, _), (8, _), (9, _), (15, _), (30, _)] ?_ ⟨rfl, rfl, rfl, rfl, rfl, rfl, rfl, rfl, rfl, rfl, trivial⟩
              refine WP.next ?_
              refine WP.seq ?_
              refine WP.seq ?_
              refine WP.region [0, 1, 2, 3, 4, 5, 6, 7, 8] rfl ?_
              refine WP.val rfl rfl rfl rfl (Yld.move rfl rfl) ?_
              refine WP.val rfl rfl rfl rfl (Yld.neq rfl rfl rfl false (decide_eq_false (by omega))) ?_
              refine WP.val rfl rfl rfl rfl (Yld.move rfl rfl) ?_
              refine WP.valG rfl rfl rfl rfl rfl rfl rfl (Yld.move rfl rfl) ?_
              refine WP.valG rfl rfl rfl rfl rfl rfl rfl (Yld.str (e := 5) rfl (by kernel_rfl) (by kernel_rfl) (by kernel_rfl) rfl (ho.rd (by intro p hp; simp [hp]))) ?_
              refine WP.valG rfl rfl rfl rfl rfl rfl rfl (Yld.move rfl rfl) ?_
              refine WP.valG rfl rfl rfl rfl rfl rfl rfl (Yld.str (e := 5) rfl (by kernel_rfl) (by kernel_rfl) (by kernel_rfl) rfl (hb.mono (fun b o h => .inr h))) ?_
              refine WP.valG rfl rfl rfl rfl rfl rfl rfl (Yld.neqStr rfl rfl rfl (decide (¬ penc (decP (strip bs 4)) = bs)) (by simp)) ?_
              by_cases hq : (decide (¬ penc (decP (strip bs 4)) = bs)) = true
              · rw [hq]
                refine WP.val rfl rfl rfl rfl (Yld.pickF rfl rfl rfl) ?_
                refine WP.nil ?_
                refine WP.sub [(0, _), (2, _), (4, _), (5, _), (6, _), (7, _), (8, _), (9, _), (15, _), (30, _), (64, _)] ?_ ⟨rfl, rfl, rfl, rfl, rfl, rfl, rfl, rfl, rfl, rfl, rfl, trivial⟩
                refine WP.next ?_
                refine WP.condT rfl ?_
                refine WP.seq ?_
                refine WP.region [0, 1, 2] rfl ?_
                refine WP.val rfl rfl rfl rfl (Yld.buildS (pl := []) rfl ty_zr_35 ty_zd_35 (by kernel_rfl) rfl (vs := []) rfl (segs := []) rfl rfl (by repeat (first | exact SetSeg.nil | apply SetSeg.one | exact SetAt.zero | apply SetAt.succ))) ?_
                refine WP.loud rfl rfl ?_
                refine Op.storeAll rfl rfl ty_sz_35 rfl rfl rfl rfl (by repeat (first | exact Upd.head | apply Upd.tail | apply Upd.tailS)) rfl ?_
                refine WP.val rfl rfl rfl rfl (Yld.assign rfl rfl) ?_
                refine WP.nil ?_
                refine WP.sub [(0, _), (2, _), (3, _), (4, _), (5, _), (6, _), (7, _), (8, _), (9, _), (15, _), (30, _), (64, _)] ?_ ⟨rfl, rfl, rfl, rfl, rfl, rfl, rfl, rfl, rfl, rfl, rfl, rfl, trivial⟩
                refine WP.next ?_
                refine WP.ret ?_
                refine WP.fin .ret (.inr rfl) (resT (rs := [.cell 2 35, .tmp 3]) (vs := [_, _]) rfl ⟨⟨_, _, _, _, rfl, (by repeat (first | exact There.h | exact There.i (by assumption) | apply There.t | apply There.s)), .inl ⟨ty_ag_35, by rfl, rfl⟩⟩, rfl, trivial⟩ rfl) [] (by repeat (first | exact Take.nil | with_reducible apply Take.cons | apply Take.app | exact Rm.chunk | exact Rm.here | exact Rm.nil0 | apply Rm.skip | apply Rm.skipS | (focus (apply Take.all; (repeat (first | exact Rm.chunk | exact Rm.here | exact Rm.nil0 | apply Rm.skip | apply Rm.skipS)); done)) | apply Take.cons)) (by repeat (first | exact Leave.done | apply Leave.drop | apply Leave.dropS)) (Imm.le_trans hJ1 hJ3) ?_
                have hn : pdec bs = none := pdec_none (fun h => (of_decide_eq_true hq) h.2.2.2)
                rw [hn]; exact ⟨_, rfl, RPt.zero _, rfl⟩
              · have hq : (decide (¬ penc (decP (strip bs 4)) = bs)) = false := eq_false_of_ne_true hq
                rw [hq]
                refine WP.val rfl rfl rfl rfl (Yld.pickF rfl rfl rfl) ?_
                refine WP.nil ?_
                refine WP.sub [(0, _), (2, _), (4, _), (5, _), (6, _), (7, _), (8, _), (9, _), (15, _), (30, _), (64, _)] ?_ ⟨rfl, rfl, rfl, rfl, rfl, rfl, rfl, rfl, rfl, rfl, rfl, trivial⟩
                refine WP.next ?_
                refine WP.condF rfl ?_
                refine WP.skip ?_
                refine WP.next ?_
                refine WP.seq ?_
                refine WP.region [0, 1, 2] rfl ?_
                refine WP.val rfl rfl rfl rfl (Yld.loadAll rfl ty_ag_35 rfl (by repeat (first | exact There.h | exact There.i (by assumption) | apply There.t | apply There.s)) rfl) ?_
                refine WP.loud rfl rfl ?_
                refine Op.storeAll rfl rfl ty_sz_35 rfl rfl rfl rfl (by repeat (first | exact Upd.head | apply Upd.tail | apply Upd.tailS)) rfl ?_
                refine WP.val rfl rfl rfl rfl (Yld.assign rfl rfl) ?_
                refine WP.nil ?_
                refine WP.sub [(0, _), (2, _), (3, _), (4, _), (5, _), (6, _), (7, _), (8, _), (9, _), (15, _), (30, _), (64, _)] ?_ ⟨rfl, rfl, rfl, rfl, rfl, rfl, rfl, rfl, rfl, rfl, rfl, rfl, trivial⟩
                refine WP.next ?_
                refine WP.ret ?_
                refine WP.fin .ret (.inr rfl) (resT (rs := [.cell 2 35, .tmp 3]) (vs := [_, _]) rfl ⟨⟨_, _, _, _, rfl, (by repeat (first | exact There.h | exact There.i (by assumption) | apply There.t | apply There.s)), .inl ⟨ty_ag_35, by rfl, rfl⟩⟩, rfl, trivial⟩ rfl) [] (by repeat (first | exact Take.nil | with_reducible apply Take.cons | apply Take.app | exact Rm.chunk | exact Rm.here | exact Rm.nil0 | apply Rm.skip | apply Rm.skipS | (focus (apply Take.all; (repeat (first | exact Rm.chunk | exact Rm.here | exact Rm.nil0 | apply Rm.skip | apply Rm.skipS)); done)) | apply Take.cons)) (by repeat (first | exact Leave.done | apply Leave.drop | apply Leave.dropS)) (Imm.le_trans hJ1 hJ3) ?_
                have hs : pdec bs = some (decP (strip bs 4)) := pdec_some ⟨hl, hmany, hm, Decidable.not_not.1 (of_decide_eq_false hq)⟩
                rw [hs]; exact ⟨_, rfl, ⟨_, rfl, hd⟩, rfl⟩
            · refine WP.oper rfl rfl ?_
              refine Op.alloc rfl rfl rfl ty_zr_35 (fun b8 => ?_)
              refine WD.go (.inr (fun b o h => There.i h)) (fun _ _ h => h.elim) ?_
              refine WD.loud (i := 13) (by kernel_rfl) rfl rfl rfl ?_
              refine Op.call (ref_at (l := 18) (k := 4) hc (by omega) (by decide) (by decide)) rfl Try.func42 rfl rfl rfl rfl (by repeat (first | exact Take.nil | with_reducible apply Take.cons | apply Take.app | exact Rm.chunk | exact Rm.here | exact Rm.nil0 | apply Rm.skip | apply Rm.skipS | (focus (apply Take.all; (repeat (first | exact Rm.chunk | exact Rm.here | exact Rm.nil0 | apply Rm.skip | apply Rm.skipS)); done)) | apply Take.cons)) ?_
              rintro v J L1 hJ ⟨rfl, rfl, rfl⟩
              clear hJ; try simp only [List.cons_append, List.nil_append, List.append_assoc]
              refine WD.go (.inr (fun b o h => There.i h)) (fun _ _ h => h.elim) ?_
              refine WD.val (i := 18) rfl rfl rfl rfl (by kernel_rfl) rfl (Yld.buildS (pl := [(4, 4, 1), (2, 2, 1), (1, 1, 1), (0, 0, 1), (3, 3, 1), (5, 5, 1)]) rfl ty_zr_35 ty_zd_35 (by kernel_rfl) rfl (vs := [_, _, _, _, _, _]) rfl (segs := [(4, [_]), (2, [_]), (1, [_]), (0, [_]), (3, [_]), (5, [_])]) rfl rfl (by repeat (first | exact SetSeg.nil | apply SetSeg.one | exact SetAt.zero | apply SetAt.succ))) ?_
              refine WD.loud (i := 20) (by kernel_rfl) rfl rfl rfl ?_
              refine Op.storeAll rfl rfl ty_sz_35 rfl rfl rfl rfl (by repeat (first | exact Upd.head | apply Upd.tail | apply Upd.tailS)) rfl ?_
              refine WD.go (.inl rfl) (fun _ _ h => h.elim) ?_
              refine WD.done (by kernel_rfl) ?_
              refine WP.sub [(0, _), (2, _), (4, _), (5, _), (6, _), (7, _), (15, _), (30, _)] ?_ ⟨rfl, rfl, rfl, rfl, rfl, rfl, rfl, rfl, trivial⟩
              refine WP.next ?_
              refine WP.seq ?_
              refine WP.region [0, 1, 2, 3, 4, 5, 6] rfl ?_
              refine WP.val rfl rfl rfl rfl (Yld.loadAll rfl ty_ag_35 rfl (by repeat (first | exact There.h | exact There.i (by assumption) | apply There.t | apply There.s)) rfl) ?_
              refine WP.loud rfl rfl ?_
              refine Op.call (ref_Encode_ok (p := (decP (strip bs 4))) hd hm) rfl Try.func17 rfl rfl rfl rfl (by repeat (first | exact Take.nil | with_reducible apply Take.cons | apply Take.app | exact Rm.chunk | exact Rm.here | exact Rm.nil0 | apply Rm.skip | apply Rm.skipS | (focus (apply Take.all; (repeat (first | exact Rm.chunk | exact Rm.here | exact Rm.nil0 | apply Rm.skip | apply Rm.skipS)); done)) | apply Take.cons)) ?_
              rintro v J3 Lo2 hJ3 ⟨va, rfl, ho⟩
              try simp only [List.cons_append, List.nil_append, List.append_assoc]
              have hb := hb.mono (fun b o h => hJ3.2 b o h)
              have hd := hd.mono (fun b o h => hJ3.2 b o h)
              refine WP.val rfl rfl rfl rfl (Yld.move rfl rfl) ?_
              refine WP.val rfl rfl rfl rfl (Yld.extract rfl rfl rfl) ?_
              refine WP.val rfl rfl rfl rfl (Yld.extract rfl rfl rfl) ?_
              refine WP.val rfl rfl rfl rfl (Yld.assign rfl rfl) ?_
              refine WP.val rfl rfl rfl rfl (Yld.assign rfl rfl) ?_
              refine WP.nil ?_
              refine WP.sub [(0, _), (2, _), (4, _), (5, _), (6, _), (7, _), (8, _), (9, _), (15, _), (30, _)] ?_ ⟨rfl, rfl, rfl, rfl, rfl, rfl, rfl, rfl, rfl, rfl, trivial⟩
              refine WP.next ?_
              refine WP.seq ?_
              refine WP.seq ?_
              refine WP.region [0, 1, 2, 3, 4, 5, 6, 7, 8] rfl ?_
              refine WP.val rfl rfl rfl rfl (Yld.move rfl rfl) ?_
              refine WP.val rfl rfl rfl rfl (Yld.neq rfl rfl rfl false (decide_eq_false (by omega))) ?_
              refine WP.val rfl rfl rfl rfl (Yld.move rfl rfl) ?_
              refine WP.valG rfl rfl rfl rfl rfl rfl rfl (Yld.move rfl rfl) ?_
              refine WP.valG rfl rfl rfl rfl rfl rfl rfl (Yld.str (e := 5) rfl (by kernel_rfl) (by kernel_rfl) (by kernel_rfl) rfl (ho.rd (by intro p hp; simp [hp]))) ?_
              refine WP.valG rfl rfl rfl rfl rfl rfl rfl (Yld.move rfl rfl) ?_
              refine WP.valG rfl rfl rfl rfl rfl rfl rfl (Yld.str (e := 5) rfl (by kernel_rfl) (by kernel_rfl) (by kernel_rfl) rfl (hb.mono (fun b o h => .inr h))) ?_
              refine WP.valG rfl rfl rfl rfl rfl rfl rfl (Yld.neqStr rfl rfl rfl (decide (¬ penc (decP (strip bs 4)) = bs)) (by simp)) ?_
              by_cases hq : (decide (¬ penc (decP (strip bs 4)) = bs)) = true
              · rw [hq]
                refine WP.val rfl rfl rfl rfl (Yld.pickF rfl rfl rfl) ?_
                refine WP.nil ?_
                refine WP.sub [(0, _), (2, _), (4, _), (5, _), (6, _), (7, _), (8, _), (9, _), (15, _), (30, _), (64, _)] ?_ ⟨rfl, rfl, rfl, rfl, rfl, rfl, rfl, rfl, rfl, rfl, rfl, trivial⟩
                refine WP.next ?_
                refine WP.condT rfl ?_
                refine WP.seq ?_
                refine WP.region [0, 1, 2] rfl ?_
                refine WP.val rfl rfl rfl rfl (Yld.buildS (pl := []) rfl ty_zr_35 ty_zd_35 (by kernel_rfl) rfl (vs := []) rfl (segs := []) rfl rfl (by repeat (first | exact SetSeg.nil | apply SetSeg.one | exact SetAt.zero | apply SetAt.succ))) ?_
                refine WP.loud rfl rfl ?_
                refine Op.storeAll rfl rfl ty_sz_35 rfl rfl rfl rfl (by repeat (first | exact Upd.head | apply Upd.tail | apply Upd.tailS)) rfl ?_
                refine WP.val rfl rfl rfl rfl (Yld.assign rfl rfl) ?_
                refine WP.nil ?_
                refine WP.sub [(0, _), (2, _), (3, _), (4, _), (5, _), (6, _), (7, _), (8, _), (9, _), (15, _), (30, _), (64, _)] ?_ ⟨rfl, rfl, rfl, rfl, rfl, rfl, rfl, rfl, rfl, rfl, rfl, rfl, trivial⟩
                refine WP.next ?_
                refine WP.ret ?_
                refine WP.fin .ret (.inr rfl) (resT (rs := [.cell 2 35, .tmp 3]) (vs := [_, _]) rfl ⟨⟨_, _, _, _, rfl, (by repeat (first | exact There.h | exact There.i (by assumption) | apply There.t | apply There.s)), .inl ⟨ty_ag_35, by rfl, rfl⟩⟩, rfl, trivial⟩ rfl) [] (by repeat (first | exact Take.nil | with_reducible apply Take.cons | apply Take.app | exact Rm.chunk | exact Rm.here | exact Rm.nil0 | apply Rm.skip | apply Rm.skipS | (focus (apply Take.all; (repeat (first | exact Rm.chunk | exact Rm.here | exact Rm.nil0 | apply Rm.skip | apply Rm.skipS)); done)) | apply Take.cons)) (by repeat (first | exact Leave.done | apply Leave.drop | apply Leave.dropS)) (Imm.le_trans hJ1 hJ3) ?_
                have hn : pdec bs = none := pdec_none (fun h => (of_decide_eq_true hq) h.2.2.2)
                rw [hn]; exact ⟨_, rfl, RPt.zero _, rfl⟩
              · have hq : (decide (¬ penc (decP (strip bs 4)) = bs)) = false := eq_false_of_ne_true hq
                rw [hq]
                refine WP.val rfl rfl rfl rfl (Yld.pickF rfl rfl rfl) ?_
                refine WP.nil ?_
                refine WP.sub [(0, _), (2, _), (4, _), (5, _), (6, _), (7, _), (8, _), (9, _), (15, _), (30, _), (64, _)] ?_ ⟨rfl, rfl, rfl, rfl, rfl, rfl, rfl, rfl, rfl, rfl, rfl, trivial⟩
                refine WP.next ?_
                refine WP.condF rfl ?_
                refine WP.skip ?_
                refine WP.next ?_
                refine WP.seq ?_
                refine WP.region [0, 1, 2] rfl ?_
                refine WP.val rfl rfl rfl rfl (Yld.loadAll rfl ty_ag_35 rfl (by repeat (first | exact There.h | exact There.i (by assumption) | apply There.t | apply There.s)) rfl) ?_
                refine WP.loud rfl rfl ?_
                refine Op.storeAll rfl rfl ty_sz_35 rfl rfl rfl rfl (by repeat (first | exact Upd.head | apply Upd.tail | apply Upd.tailS)) rfl ?_
                refine WP.val rfl rfl rfl rfl (Yld.assign rfl rfl) ?_
                refine WP.nil ?_
                refine WP.sub [(0, _), (2, _), (3, _), (4, _), (5, _), (6, _), (7, _), (8, _), (9, _), (15, _), (30, _), (64, _)] ?_ ⟨rfl, rfl, rfl, rfl, rfl, rfl, rfl, rfl, rfl, rfl, rfl, rfl, trivial⟩
                refine WP.next ?_
                refine WP.ret ?_
                refine WP.fin .ret (.inr rfl) (resT (rs := [.cell 2 35, .tmp 3]) (vs := [_, _]) rfl ⟨⟨_, _, _, _, rfl, (by repeat (first | exact There.h | exact There.i (by assumption) | apply There.t | apply There.s)), .inl ⟨ty_ag_35, by rfl, rfl⟩⟩, rfl, trivial⟩ rfl) [] (by repeat (first | exact Take.nil | with_reducible apply Take.cons | apply Take.app | exact Rm.chunk | exact Rm.here | exact Rm.nil0 | apply Rm.skip | apply Rm.skipS | (focus (apply Take.all; (repeat (first | exact Rm.chunk | exact Rm.here | exact Rm.nil0 | apply Rm.skip | apply Rm.skipS)); done)) | apply Take.cons)) (by repeat (first | exact Leave.done | apply Leave.drop | apply Leave.dropS)) (Imm.le_trans hJ1 hJ3) ?_
                have hs : pdec bs = some (decP (strip bs 4)) := pdec_some ⟨hl, hmany, hm, Decidable.not_not.1 (of_decide_eq_false hq)⟩
                rw [hs]; exact ⟨_, rfl, ⟨_, rfl, hd⟩, rfl⟩
          · refine WP.oper rfl rfl ?_
            refine Op.alloc rfl rfl rfl ty_zr_35 (fun b8 => ?_)
            refine WD.go (.inr (fun b o h => There.i h)) (fun _ _ h => h.elim) ?_
            refine WD.loud (i := 11) (by kernel_rfl) rfl rfl rfl ?_
            refine Op.call (ref_at (l := 12) (k := 6) hc (by omega) (by decide) (by decide)) rfl Try.func42 rfl rfl rfl rfl (by repeat (first | exact Take.nil | with_reducible apply Take.cons | apply Take.app | exact Rm.chunk | exact Rm.here | exact Rm.nil0 | apply Rm.skip | apply Rm.skipS | (focus (apply Take.all; (repeat (first | exact Rm.chunk | exact Rm.here | exact Rm.nil0 | apply Rm.skip | apply Rm.skipS)); done)) | apply Take.cons)) ?_
            rintro v J L1 hJ ⟨rfl, rfl, rfl⟩
            clear hJ; try simp only [List.cons_append, List.nil_append, List.append_assoc]
            refine WD.go (.inr (fun b o h => There.i h)) (fun _ _ h => h.elim) ?_
            refine WD.loud (i := 13) (by kernel_rfl) rfl rfl rfl ?_
            refine Op.call (ref_at (l := 18) (k := 4) hc (by omega) (by decide) (by decide)) rfl Try.func42 rfl rfl rfl rfl (by repeat (first | exact Take.nil | with_reducible apply Take.cons | apply Take.app | exact Rm.chunk | exact Rm.here | exact Rm.nil0 | apply Rm.skip | apply Rm.skipS | (focus (apply Take.all; (repeat (first | exact Rm.chunk | exact Rm.here | exact Rm.nil0 | apply Rm.skip | apply Rm.skipS)); done)) | apply Take.cons)) ?_
            rintro v J L1 hJ ⟨rfl, rfl, rfl⟩
            clear hJ; try simp only [List.cons_append, List.nil_append, List.append_assoc]
            refine WD.go (.inr (fun b o h => There.i h)) (fun _ _ h => h.elim) ?_
            refine WD.val (i := 18) rfl rfl rfl rfl (by kernel_rfl) rfl (Yld.buildS (pl := [(4, 4, 1), (2, 2, 1), (1, 1, 1), (0, 0, 1), (3, 3, 1), (5, 5, 1)]) rfl ty_zr_35 ty_zd_35 (by kernel_rfl) rfl (vs := [_, _, _, _, _, _]) rfl (segs := [(4, [_]), (2, [_]), (1, [_]), (0, [_]), (3, [_]), (5, [_])]) rfl rfl (by repeat (first | exact SetSeg.nil | apply SetSeg.one | exact SetAt.zero | apply SetAt.succ))) ?_
            refine WD.loud (i := 20) (by kernel_rfl) rfl rfl rfl ?_
            refine Op.storeAll rfl rfl ty_sz_35 rfl rfl rfl rfl (by repeat (first | exact Upd.head | apply Upd.tail | apply Upd.tailS)) rfl ?_
            refine WD.go (.inl rfl) (fun _ _ h => h.elim) ?_
            refine WD.done (by kernel_rfl) ?_
            refine WP.sub [(0, _), (2, _), (4, _), (5, _), (6, _), (7, _), (15, _), (30, _)] ?_ ⟨rfl, rfl, rfl, rfl, rfl, rfl, rfl, rfl, trivial⟩
            refine WP.next ?_
            refine WP.seq ?_
            refine WP.region [0, 1, 2, 3, 4, 5, 6] rfl ?_
            refine WP.val rfl rfl rfl rfl (Yld.loadAll rfl ty_ag_35 rfl (by repeat (first | exact There.h | exact There.i (by assumption) | apply There.t | apply There.s)) rfl) ?_
            refine WP.loud rfl rfl ?_
            refine Op.call (ref_Encode_ok (p := (decP (strip bs 4))) hd hm) rfl Try.func17 rfl rfl rfl rfl (by repeat (first | exact Take.nil | with_reducible apply Take.cons | apply Take.app | exact Rm.chunk | exact Rm.here | exact Rm.nil0 | apply Rm.skip | apply Rm.skipS | (focus (apply Take.all; (repeat (first | exact Rm.chunk | exact Rm.here | exact Rm.nil0 | apply Rm.skip | apply Rm.skipS)); done)) | apply Take.cons)) ?_
            rintro v J3 Lo2 hJ3 ⟨va, rfl, ho⟩
            try simp only [List.cons_append, List.nil_append, List.append_assoc]
            have hb := hb.mono (fun b o h => hJ3.2 b o h)
            have hd := hd.mono (fun b o h => hJ3.2 b o h)
            refine WP.val rfl rfl rfl rfl (Yld.move rfl rfl) ?_
            refine WP.val rfl rfl rfl rfl (Yld.extract rfl rfl rfl) ?_
            refine WP.val rfl rfl rfl rfl (Yld.extract rfl rfl rfl) ?_
            refine WP.val rfl rfl rfl rfl (Yld.assign rfl rfl) ?_
            refine WP.val rfl rfl rfl rfl (Yld.assign rfl rfl) ?_
            refine WP.nil ?_
            refine WP.sub [(0, _), (2, _), (4, _), (5, _), (6, _), (7, _), (8, _), (9, _), (15, _), (30, _)] ?_ ⟨rfl, rfl, rfl, rfl, rfl, rfl, rfl, rfl, rfl, rfl, trivial⟩
            refine WP.next ?_
            refine WP.seq ?_
            refine WP.seq ?_
            refine WP.region [0, 1, 2, 3, 4, 5, 6, 7, 8] rfl ?_
            refine WP.val rfl rfl rfl rfl (Yld.move rfl rfl) ?_
            refine WP.val rfl rfl rfl rfl (Yld.neq rfl rfl rfl false (decide_eq_false (by omega))) ?_
            refine WP.val rfl rfl rfl rfl (Yld.move rfl rfl) ?_
            refine WP.valG rfl rfl rfl rfl rfl rfl rfl (Yld.move rfl rfl) ?_
            refine WP.valG rfl rfl rfl rfl rfl rfl rfl (Yld.str (e := 5) rfl (by kernel_rfl) (by kernel_rfl) (by kernel_rfl) rfl (ho.rd (by intro p hp; simp [hp]))) ?_
            refine WP.valG rfl rfl rfl rfl rfl rfl rfl (Yld.move rfl rfl) ?_
            refine WP.valG rfl rfl rfl rfl rfl rfl rfl (Yld.str (e := 5) rfl (by kernel_rfl) (by kernel_rfl) (by kernel_rfl) rfl (hb.mono (fun b o h => .inr h))) ?_
            refine WP.valG rfl rfl rfl rfl rfl rfl rfl (Yld.neqStr rfl rfl rfl (decide (¬ penc (decP (strip bs 4)) = bs)) (by simp)) ?_
            by_cases hq : (decide (¬ penc (decP (strip bs 4)) = bs)) = true
            · rw [hq]
              refine WP.val rfl rfl rfl rfl (Yld.pickF rfl rfl rfl) ?_
              refine WP.nil ?_
              refine WP.sub [(0, _), (2, _), (4, _), (5, _), (6, _), (7, _), (8, _), (9, _), (15, _), (30, _), (64, _)] ?_ ⟨rfl, rfl, rfl, rfl, rfl, rfl, rfl, rfl, rfl, rfl, rfl, trivial⟩
              refine WP.next ?_
              refine WP.condT rfl ?_
              refine WP.seq ?_
              refine WP.region [0, 1, 2] rfl ?_
              refine WP.val rfl rfl rfl rfl (Yld.buildS (pl := []) rfl ty_zr_35 ty_zd_35 (by kernel_rfl) rfl (vs := []) rfl (segs := []) rfl rfl (by repeat (first | exact SetSeg.nil | apply SetSeg.one | exact SetAt.zero | apply SetAt.succ))) ?_
              refine WP.loud rfl rfl ?_
              refine Op.storeAll rfl rfl ty_sz_35 rfl rfl rfl rfl (by repeat (first | exact Upd.head | apply Upd.tail | apply Upd.tailS)) rfl ?_
              refine WP.val rfl rfl rfl rfl (Yld.assign rfl rfl) ?_
              refine WP.nil ?_
              refine WP.sub [(0, _), (2, _), (3, _), (4, _), (5, _), (6, _), (7, _), (8, _), (9, _), (15, _), (30, _), (64, _)] ?_ ⟨rfl, rfl, rfl, rfl, rfl, rfl, rfl, rfl, rfl, rfl, rfl, rfl, trivial⟩
              refine WP.next ?_
              refine WP.ret ?_
              refine WP.fin .ret (.inr rfl) (resT (rs := [.cell 2 35, .tmp 3]) (vs := [_, _]) rfl ⟨⟨_, _, _, _, rfl, (by repeat (first | exact There.h | exact There.i (by assumption) | apply There.t | apply There.s)), .inl ⟨ty_ag_35, by rfl, rfl⟩⟩, rfl, trivial⟩ rfl) [] (by repeat (first | exact Take.nil | with_reducible apply Take.cons | apply Take.app | exact Rm.chunk | exact Rm.here | exact Rm.nil0 | apply Rm.skip | apply Rm.skipS | (focus (apply Take.all; (repeat (first | exact Rm.chunk | exact Rm.here | exact Rm.nil0 | apply Rm.skip | apply Rm.skipS)); done)) | apply Take.cons)) (by repeat (first | exact Leave.done | apply Leave.drop | apply Leave.dropS)) (Imm.le_trans hJ1 hJ3) ?_
              have hn : pdec bs = none := pdec_none (fun h => (of_decide_eq_true hq) h.2.2.2)
              rw [hn]; exact ⟨_, rfl, RPt.zero _, rfl⟩
            · have hq : (decide (¬ penc (decP (strip bs 4)) = bs)) = false := eq_false_of_ne_true hq
              rw [hq]
              refine WP.val rfl rfl rfl rfl (Yld.pickF rfl rfl rfl) ?_
              refine WP.nil ?_
              refine WP.sub [(0, _), (2, _), (4, _), (5, _), (6, _), (7, _), (8, _), (9, _), (15, _), (30, _), (64, _)] ?_ ⟨rfl, rfl, rfl, rfl, rfl, rfl, rfl, rfl, rfl, rfl, rfl, trivial⟩
              refine WP.next ?_
              refine WP.condF rfl ?_
              refine WP.skip ?_
              refine WP.next ?_
              refine WP.seq ?_
              refine WP.region [0, 1, 2] rfl ?_
              refine WP.val rfl rfl rfl rfl (Yld.loadAll rfl ty_ag_35 rfl (by repeat (first | exact There.h | exact There.i (by assumption) | apply There.t | apply There.s)) rfl) ?_
              refine WP.loud rfl rfl ?_
              refine Op.storeAll rfl rfl ty_sz_35 rfl rfl rfl rfl (by repeat (first | exact Upd.head | apply Upd.tail | apply Upd.tailS)) rfl ?_
              refine WP.val rfl rfl rfl rfl (Yld.assign rfl rfl) ?_
              refine WP.nil ?_
              refine WP.sub [(0, _), (2, _), (3, _), (4, _), (5, _), (6, _), (7, _), (8, _), (9, _), (15, _), (30, _), (64, _)] ?_ ⟨rfl, rfl, rfl, rfl, rfl, rfl, rfl, rfl, rfl, rfl, rfl, rfl, trivial⟩
              refine WP.next ?_
              refine WP.ret ?_
              refine WP.fin .ret (.inr rfl) (resT (rs := [.cell 2 35, .tmp 3]) (vs := [_, _]) rfl ⟨⟨_, _, _, _, rfl, (by repeat (first | exact There.h | exact There.i (by assumption) | apply There.t | apply There.s)), .inl ⟨ty_ag_35, by rfl, rfl⟩⟩, rfl, trivial⟩ rfl) [] (by repeat (first | exact Take.nil | with_reducible apply Take.cons | apply Take.app | exact Rm.chunk | exact Rm.here | exact Rm.nil0 | apply Rm.skip | apply Rm.skipS | (focus (apply Take.all; (repeat (first | exact Rm.chunk | exact Rm.here | exact Rm.nil0 | apply Rm.skip | apply Rm.skipS)); done)) | apply Take.cons)) (by repeat (first | exact Leave.done | apply Leave.drop | apply Leave.dropS)) (Imm.le_trans hJ1 hJ3) ?_
              have hs : pdec bs = some (decP (strip bs 4)) := pdec_some ⟨hl, hmany, hm, Decidable.not_not.1 (of_decide_eq_false hq)⟩
              rw [hs]; exact ⟨_, rfl, ⟨_, rfl, hd⟩, rfl⟩
        · refine WP.oper rfl rfl ?_
          refine Op.alloc rfl rfl rfl ty_zr_35 (fun b8 => ?_)
          refine WD.go (.inr (fun b o h => There.i h)) (fun _ _ h => h.elim) ?_
          refine WD.loud (i := 9) (by kernel_rfl) rfl rfl rfl ?_
          refine Op.call (ref_at (l := 6) (k := 6) hc (by omega) (by decide) (by decide)) rfl Try.func42 rfl rfl rfl rfl (by repeat (first | exact Take.nil | with_reducible apply Take.cons | apply Take.app | exact Rm.chunk | exact Rm.here | exact Rm.nil0 | apply Rm.skip | apply Rm.skipS | (focus (apply Take.all; (repeat (first | exact Rm.chunk | exact Rm.here | exact Rm.nil0 | apply Rm.skip | apply Rm.skipS)); done)) | apply Take.cons)) ?_
          rintro v J L1 hJ ⟨rfl, rfl, rfl⟩
          clear hJ; try simp only [List.cons_append, List.nil_append, List.append_assoc]
          refine WD.go (.inr (fun b o h => There.i h)) (fun _ _ h => h.elim) ?_
          refine WD.loud (i := 11) (by kernel_rfl) rfl rfl rfl ?_
          refine Op.call (ref_at (l := 12) (k := 6) hc (by omega) (by decide) (by decide)) rfl Try.func42 rfl rfl rfl rfl (by repeat (first | exact Take.nil | with_reducible apply Take.cons | apply Take.app | exact Rm.chunk | exact Rm.here | exact Rm.nil0 | apply Rm.skip | apply Rm.skipS | (focus (apply Take.all; (repeat (first | exact Rm.chunk | exact Rm.here | exact Rm.nil0 | apply Rm.skip | apply Rm.skipS)); done)) | apply Take.cons)) ?_
          rintro v J L1 hJ ⟨rfl, rfl, rfl⟩
          clear hJ; try simp only [List.cons_append, List.nil_append, List.append_assoc]
          refine WD.go (.inr (fun b o h => There.i h)) (fun _ _ h => h.elim) ?_
          refine WD.loud (i := 13) (by kernel_rfl) rfl rfl rfl ?_
          refine Op.call (ref_at (l := 18) (k := 4) hc (by omega) (by decide) (by decide)) rfl Try.func42 rfl rfl rfl rfl (by repeat (first | exact Take.nil | with_reducible apply Take.cons | apply Take.app | exact Rm.chunk | exact Rm.here | exact Rm.nil0 | apply Rm.skip | apply Rm.skipS | (focus (apply Take.all; (repeat (first | exact Rm.chunk | exact Rm.here | exact Rm.nil0 | apply Rm.skip | apply Rm.skipS)); done)) | apply Take.cons)) ?_
          rintro v J L1 hJ ⟨rfl, rfl, rfl⟩
          clear hJ; try simp only [List.cons_append, List.nil_append, List.append_assoc]
          refine WD.go (.inr (fun b o h => There.i h)) (fun _ _ h => h.elim) ?_
          refine WD.val (i := 18) rfl rfl rfl rfl (by kernel_rfl) rfl (Yld.buildS (pl := [(4, 4, 1), (2, 2, 1), (1, 1, 1), (0, 0, 1), (3, 3, 1), (5, 5, 1)]) rfl ty_zr_35 ty_zd_35 (by kernel_rfl) rfl (vs := [_, _, _, _, _, _]) rfl (segs := [(4, [_]), (2, [_]), (1, [_]), (0, [_]), (3, [_]), (5, [_])]) rfl rfl (by repeat (first | exact SetSeg.nil | apply SetSeg.one | exact SetAt.zero | apply SetAt.succ))) ?_
          refine WD.loud (i := 20) (by kernel_rfl) rfl rfl rfl ?_
          refine Op.storeAll rfl rfl ty_sz_35 rfl rfl rfl rfl (by repeat (first | exact Upd.head | apply Upd.tail | apply Upd.tailS)) rfl ?_
          refine WD.go (.inl rfl) (fun _ _ h => h.elim) ?_
          refine WD.done (by kernel_rfl) ?_
          refine WP.sub [(0, _), (2, _), (4, _), (5, _), (6, _), (7, _), (15, _), (30, _)] ?_ ⟨rfl, rfl, rfl, rfl, rfl, rfl, rfl, rfl, trivial⟩
          refine WP.next ?_
          refine WP.seq ?_
          refine WP.region [0, 1, 2, 3, 4, 5, 6] rfl ?_
          refine WP.val rfl rfl rfl rfl (Yld.loadAll rfl ty_ag_35 rfl (by repeat (first | exact There.h | exact There.i (by assumption) | apply There.t | apply There.s)) rfl) ?_
          refine WP.loud rfl rfl ?_
          refine Op.call (ref_Encode_ok (p := (decP (strip bs 4))) hd hm) rfl Try.func17 rfl rfl rfl rfl (by repeat (first | exact Take.nil | with_reducible apply Take.cons | apply Take.app | exact Rm.chunk | exact Rm.here | exact Rm.nil0 | apply Rm.skip | apply Rm.skipS | (focus (apply Take.all; (repeat (first | exact Rm.chunk | exact Rm.here | exact Rm.nil0 | apply Rm.skip | apply Rm.skipS)); done)) | apply Take.cons)) ?_
          rintro v J3 Lo2 hJ3 ⟨va, rfl, ho⟩
          try simp only [List.cons_append, List.nil_append, List.append_assoc]
          have hb := hb.mono (fun b o h => hJ3.2 b o h)
          have hd := hd.mono (fun b o h => hJ3.2 b o h)
          refine WP.val rfl rfl rfl rfl (Yld.move rfl rfl) ?_
          refine WP.val rfl rfl rfl rfl (Yld.extract rfl rfl rfl) ?_
          refine WP.val rfl rfl rfl rfl (Yld.extract rfl rfl rfl) ?_
          refine WP.val rfl rfl rfl rfl (Yld.assign rfl rfl) ?_
          refine WP.val rfl rfl rfl rfl (Yld.assign rfl rfl) ?_
          refine WP.nil ?_
          refine WP.sub [(0, _), (2, _), (4, _), (5, _), (6, _), (7, _), (8, _), (9, _), (15, _), (30, _)] ?_ ⟨rfl, rfl, rfl, rfl, rfl, rfl, rfl, rfl, rfl, rfl, trivial⟩
          refine WP.next ?_
          refine WP.seq ?_
          refine WP.seq ?_
          refine WP.region [0, 1, 2, 3, 4, 5, 6, 7, 8] rfl ?_
          refine WP.val rfl rfl rfl rfl (Yld.move rfl rfl) ?_
          refine WP.val rfl rfl rfl rfl (Yld.neq rfl rfl rfl false (decide_eq_false (by omega))) ?_
          refine WP.val rfl rfl rfl rfl (Yld.move rfl rfl) ?_
          refine WP.valG rfl rfl rfl rfl rfl rfl rfl (Yld.move rfl rfl) ?_
          refine WP.valG rfl rfl rfl rfl rfl rfl rfl (Yld.str (e := 5) rfl (by kernel_rfl) (by kernel_rfl) (by kernel_rfl) rfl (ho.rd (by intro p hp; simp [hp]))) ?_
          refine WP.valG rfl rfl rfl rfl rfl rfl rfl (Yld.move rfl rfl) ?_
          refine WP.valG rfl rfl rfl rfl rfl rfl rfl (Yld.str (e := 5) rfl (by kernel_rfl) (by kernel_rfl) (by kernel_rfl) rfl (hb.mono (fun b o h => .inr h))) ?_
          refine WP.valG rfl rfl rfl rfl rfl rfl rfl (Yld.neqStr rfl rfl rfl (decide (¬ penc (decP (strip bs 4)) = bs)) (by simp)) ?_
          by_cases hq : (decide (¬ penc (decP (strip bs 4)) = bs)) = true
          · rw [hq]
            refine WP.val rfl rfl rfl rfl (Yld.pickF rfl rfl rfl) ?_
            refine WP.nil ?_
            refine WP.sub [(0, _), (2, _), (4, _), (5, _), (6, _), (7, _), (8, _), (9, _), (15, _), (30, _), (64, _)] ?_ ⟨rfl, rfl, rfl, rfl, rfl, rfl, rfl, rfl, rfl, rfl, rfl, trivial⟩
            refine WP.next ?_
            refine WP.condT rfl ?_
            refine WP.seq ?_
            refine WP.region [0, 1, 2] rfl ?_
            refine WP.val rfl rfl rfl rfl (Yld.buildS (pl := []) rfl ty_zr_35 ty_zd_35 (by kernel_rfl) rfl (vs := []) rfl (segs := []) rfl rfl (by repeat (first | exact SetSeg.nil | apply SetSeg.one | exact SetAt.zero | apply SetAt.succ))) ?_
            refine WP.loud rfl rfl ?_
            refine Op.storeAll rfl rfl ty_sz_35 rfl rfl rfl rfl (by repeat (first | exact Upd.head | apply Upd.tail | apply Upd.tailS)) rfl ?_
            refine WP.val rfl rfl rfl rfl (Yld.assign rfl rfl) ?_
            refine WP.nil ?_
            refine WP.sub [(0, _), (2, _), (3, _), (4, _), (5, _), (6, _), (7, _), (8, _), (9, _), (15, _), (30, _), (64, _)] ?_ ⟨rfl, rfl, rfl, rfl, rfl, rfl, rfl, rfl, rfl, rfl, rfl, rfl, trivial⟩
            refine WP.next ?_
            refine WP.ret ?_
            refine WP.fin .ret (.inr rfl) (resT (rs := [.cell 2 35, .tmp 3]) (vs := [_, _]) rfl ⟨⟨_, _, _, _, rfl, (by repeat (first | exact There.h | exact There.i (by assumption) | apply There.t | apply There.s)), .inl ⟨ty_ag_35, by rfl, rfl⟩⟩, rfl, trivial⟩ rfl) [] (by repeat (first | exact Take.nil | with_reducible apply Take.cons | apply Take.app | exact Rm.chunk | exact Rm.here | exact Rm.nil0 | apply Rm.skip | apply Rm.skipS | (focus (apply Take.all; (repeat (first | exact Rm.chunk | exact Rm.here | exact Rm.nil0 | apply Rm.skip | apply Rm.skipS)); done)) | apply Take.cons)) (by repeat (first | exact Leave.done | apply Leave.drop | apply Leave.dropS)) (Imm.le_trans hJ1 hJ3) ?_
            have hn : pdec bs = none := pdec_none (fun h => (of_decide_eq_true hq) h.2.2.2)
            rw [hn]; exact ⟨_, rfl, RPt.zero _, rfl⟩
          · have hq : (decide (¬ penc (decP (strip bs 4)) = bs)) = false := eq_false_of_ne_true hq
            rw [hq]
            refine WP.val rfl rfl rfl rfl (Yld.pickF rfl rfl rfl) ?_
            refine WP.nil ?_
            refine WP.sub [(0, _), (2, _), (4, _), (5, _), (6, _), (7, _), (8, _), (9, _), (15, _), (30, _), (64, _)] ?_ ⟨rfl, rfl, rfl, rfl, rfl, rfl, rfl, rfl, rfl, rfl, rfl, trivial⟩
            refine WP.next ?_
            refine WP.condF rfl ?_
            refine WP.skip ?_
            refine WP.next ?_
            refine WP.seq ?_
            refine WP.region [0, 1, 2] rfl ?_
            refine WP.val rfl rfl rfl rfl (Yld.loadAll rfl ty_ag_35 rfl (by repeat (first | exact There.h | exact There.i (by assumption) | apply There.t | apply There.s)) rfl) ?_
            refine WP.loud rfl rfl ?_
            refine Op.storeAll rfl rfl ty_sz_35 rfl rfl rfl rfl (by repeat (first | exact Upd.head | apply Upd.tail | apply Upd.tailS)) rfl ?_
            refine WP.val rfl rfl rfl rfl (Yld.assign rfl rfl) ?_
            refine WP.nil ?_
            refine WP.sub [(0, _), (2, _), (3, _), (4, _), (5, _), (6, _), (7, _), (8, _), (9, _), (15, _), (30, _), (64, _)] ?_ ⟨rfl, rfl, rfl, rfl, rfl, rfl, rfl, rfl, rfl, rfl, rfl, rfl, trivial⟩
            refine WP.next ?_
            refine WP.ret ?_
            refine WP.fin .ret (.inr rfl) (resT (rs := [.cell 2 35, .tmp 3]) (vs := [_, _]) rfl ⟨⟨_, _, _, _, rfl, (by repeat (first | exact There.h | exact There.i (by assumption) | apply There.t | apply There.s)), .inl ⟨ty_ag_35, by rfl, rfl⟩⟩, rfl, trivial⟩ rfl) [] (by repeat (first | exact Take.nil | with_reducible apply Take.cons | apply Take.app | exact Rm.chunk | exact Rm.here | exact Rm.nil0 | apply Rm.skip | apply Rm.skipS | (focus (apply Take.all; (repeat (first | exact Rm.chunk | exact Rm.here | exact Rm.nil0 | apply Rm.skip | apply Rm.skipS)); done)) | apply Take.cons)) (by repeat (first | exact Leave.done | apply Leave.drop | apply Leave.dropS)) (Imm.le_trans hJ1 hJ3) ?_
            have hs : pdec bs = some (decP (strip bs 4)) := pdec_some ⟨hl, hmany, hm, Decidable.not_not.1 (of_decide_eq_false hq)⟩
            rw [hs]; exact ⟨_, rfl, ⟨_, rfl, hd⟩, rfl⟩

set_option maxHeartbeats 2000000 in
theorem ref_Decode_bad {I : Imm} {bs : List UInt8} {vb : Value} (hb : SlRd (fun b o => I.blk b = some o) vb bs.length 1 (bytesV bs)) (hbl : bs.length ≤ 140737488351232) (hm : ¬ (decP (strip bs 4)).may) : Spec Try.prog 19 [vb] I [] (fun v J L => ∃ cs, v = .tuple #[.agg cs.toArray, .int .i64 (perr (pdec bs))] ∧ RPt J ((pdec bs).getD ptZ) cs ∧ L = []) := by
  obtain ⟨Ab, cb, rfl, hcb0, _, _⟩ := id hb
  refine Spec.of Try.func19 rfl Try.ntmps19 (Nat.le_of_ble_eq_true rfl) (fun F => ?_)
  try simp only [List.cons_append, List.nil_append, List.append_assoc]
  dsimp only [argsEnv]
  refine WP.seq ?_
  refine WP.region [0, 1] rfl ?_
  refine WP.loud rfl rfl ?_
  refine Op.alloc rfl rfl rfl ty_zr_35 (fun b2 => ?_)
  refine WP.val rfl rfl rfl rfl (Yld.assign rfl rfl) ?_
  refine WP.nil ?_
  refine WP.next ?_
  refine WP.seq ?_
  refine WP.seq ?_
  refine WP.region [0, 1, 2] rfl ?_
  refine WP.val rfl rfl rfl rfl (Yld.move rfl rfl) ?_
  refine WP.val rfl rfl rfl rfl (Yld.lenR hb rfl ty_sl_22 rfl) ?_
  refine WP.split rfl rfl rfl rfl (Yld.neq rfl rfl rfl) (fun hl => ?_) (fun hl => ?_)
  · refine WP.nil ?_
    refine WP.sub [(0, _), (2, _), (3, _), (12, _)] ?_ ⟨rfl, rfl, rfl, rfl, trivial⟩
    refine WP.next ?_
    refine WP.condT rfl ?_
    refine WP.seq ?_
    refine WP.region [0, 1, 2] rfl ?_
    refine WP.val rfl rfl rfl rfl (Yld.buildS (pl := []) rfl ty_zr_35 ty_zd_35 (by kernel_rfl) rfl (vs := []) rfl (segs := []) rfl rfl (by repeat (first | exact SetSeg.nil | apply SetSeg.one | exact SetAt.zero | apply SetAt.succ))) ?_
    refine WP.loud rfl rfl ?_
    refine Op.storeAll rfl rfl ty_sz_35 rfl rfl rfl rfl (by repeat (first | exact Upd.head | apply Upd.tail | apply Upd.tailS)) rfl ?_
    refine WP.val rfl rfl rfl rfl (Yld.assign rfl rfl) ?_
    refine WP.nil ?_
    refine WP.sub [(0, _), (2, _), (3, _), (12, _)] ?_ ⟨rfl, rfl, rfl, rfl, trivial⟩
    refine WP.next ?_
    refine WP.ret ?_
    refine WP.fin .ret (.inr rfl) (resT (rs := [.cell 2 35, .tmp 3]) (vs := [_, _]) rfl ⟨⟨_, _, _, _, rfl, (by repeat (first | exact There.h | exact There.i (by assumption) | apply There.t | apply There.s)), .inl ⟨ty_ag_35, by rfl, rfl⟩⟩, rfl, trivial⟩ rfl) [] (by repeat (first | exact Take.nil | with_reducible apply Take.cons | apply Take.app | exact Rm.chunk | exact Rm.here | exact Rm.nil0 | apply Rm.skip | apply Rm.skipS | (focus (apply Take.all; (repeat (first | exact Rm.chunk | exact Rm.here | exact Rm.nil0 | apply Rm.skip | apply Rm.skipS)); done)) | apply Take.cons)) (by repeat (first | exact Leave.done | apply Leave.drop | apply Leave.dropS)) (Imm.le_refl _) ?_
    have hn : pdec bs = none := pdec_none (fun h => (by have := h.1; omega))
    rw [hn]; exact ⟨_, rfl, RPt.zero _, rfl⟩
  · have hl : bs.length = 256 := by omega
    refine WP.nil ?_
    refine WP.sub [(0, _), (2, _), (3, _), (12, _)] ?_ ⟨rfl, rfl, rfl, rfl, trivial⟩
    refine WP.next ?_
    refine WP.condF rfl ?_
    refine WP.skip ?_
    refine WP.next ?_
    refine WP.seq ?_
    refine WP.region [0] rfl ?_
    refine WP.val rfl rfl rfl rfl (Yld.assign rfl rfl) ?_
    refine WP.nil ?_
    refine WP.next ?_
    refine WP.seq ?_
    refine WP.seq ?_
    refine WP.region [0] rfl ?_
    refine WP.val rfl rfl rfl rfl (Yld.assign rfl rfl) ?_
    refine WP.nil ?_
    refine WP.next ?_
    refine WP.block ?_
    refine WP.loop (X := Nat × Value × Chunks) (fun u : Nat × Value × Chunks => [(0, .slice Ab bs.length cb), (2, .pointer (some ⟨b2, 0, none⟩)), (4, u.2.1), (5, .int .i64 (u.1 : Int))]) (fun _ => I) (fun u : Nat × Value × Chunks => (b2, row 35 (ptV ptZ (.slice none 0 0))) :: (u.2.2 ++ F)) (fun u : Nat × Value × Chunks => u.1 ≤ 4 ∧ Own 5 1 u.2.1 (bytesV (strip bs u.1)) (strip bs u.1).length u.2.2) (fun u : Nat × Value × Chunks => 4 - u.1) (0, .slice none 0 0, []) ⟨Nat.zero_le _, .none0⟩ ⟨rfl, rfl, rfl, rfl, trivial⟩ rfl (by (try dsimp only); repeat (first | exact Rm.chunk | exact Rm.here | exact Rm.nil0 | apply Rm.skip | apply Rm.skipS | apply PX.cons | (apply PX.done; (repeat (first | exact Leave.done | apply Leave.drop | apply Leave.dropS)); done) | apply PX.app)) ?_
    rintro ⟨i, vo, Lo⟩ ⟨hi4, hout⟩; dsimp only at hi4 hout
    try dsimp only
    try simp only [List.cons_append, List.nil_append, List.append_assoc]
    refine WP.seq ?_
    refine WP.seq ?_
    refine WP.region [0, 1] rfl ?_
    refine WP.val rfl rfl rfl rfl (Yld.move rfl rfl) ?_
    refine WP.split rfl rfl rfl rfl (Yld.lss rfl rfl rfl) (fun hlt => ?_) (fun hlt => ?_)
    · have hi : i < 4 := by omega
      have hsl := strip_len hl i (by omega)
      have hsub := sub_rd hb (l := i * 64) (k := i * 64 + 56) (by omega) (by omega)
      have hcut : cut bs (i * 64) (i * 64 + 56) = (cut bs (i * 64) ((i + 1) * 64)).take 56 := by unfold cut; rw [List.take_take]; congr 1; omega
      have hc64 : (cut bs (i * 64) ((i + 1) * 64)).length = 64 := by rw [cut_len (by omega)]; omega
      rw [hcut] at hsub
      refine WP.nil ?_
      refine WP.sub [(0, _), (2, _), (4, _), (5, _), (15, _)] ?_ ⟨rfl, rfl, rfl, rfl, rfl, trivial⟩
      refine WP.next ?_
      refine WP.condT rfl ?_
      refine WP.skip ?_
      refine WP.next ?_
      refine WP.seq ?_
      refine WP.block ?_
      refine WP.region [0, 1, 2, 3, 4, 5, 6, 7, 8, 9] rfl ?_
      refine WP.val rfl rfl rfl rfl (Yld.move rfl rfl) ?_
      refine WP.val rfl rfl rfl rfl (Yld.move rfl rfl) ?_
      refine WP.val rfl rfl rfl rfl (Yld.move rfl rfl) ?_
      refine WP.val rfl rfl rfl rfl (Yld.mul64 rfl rfl rfl (by omega)) ?_
      refine WP.val rfl rfl rfl rfl (Yld.move rfl rfl) ?_
      refine WP.val rfl rfl rfl rfl (Yld.mul64 rfl rfl rfl (by omega)) ?_
      refine WP.val rfl rfl rfl rfl (Yld.add64 rfl rfl rfl (by omega)) ?_
      refine WP.val rfl rfl rfl rfl (Yld.sliceR (l := i * 64) (h := i * 64 + 56) hb rfl ty_sl_22 rfl (Env.limS (n := i * 64) (congrArg (fun z : Int => some (Value.int .i64 z)) (by omega))) (Env.limS (n := i * 64 + 56) (congrArg (fun z : Int => some (Value.int .i64 z)) (by omega))) (by omega) (by omega)) ?_
      refine WP.loud rfl rfl ?_
      refine Op.append (m := i * 64 + 56 - i * 64) rfl ty_sl_22 ty_el_22 rfl rfl rfl rfl rfl hout (hsub.mono (fun b o h => There.i h)) (by repeat (first | exact Take.nil | with_reducible apply Take.cons | apply Take.app | exact Rm.chunk | exact Rm.here | exact Rm.nil0 | apply Rm.skip | apply Rm.skipS | (focus (apply Take.all; (repeat (first | exact Rm.chunk | exact Rm.here | exact Rm.nil0 | apply Rm.skip | apply Rm.skipS)); done)) | apply Take.cons)) (bytesV_one _) (by omega) (by omega) (fun vn Ln hn => ?_)
      try simp only [List.cons_append, List.nil_append, List.append_assoc]
      have hnew : Own 5 1 vn (bytesV (strip bs (i + 1))) (strip bs (i + 1)).length Ln := by have e : (strip bs (i + 1)).length = (strip bs i).length + (i * 64 + 56 - i * 64) := (by rw [strip, List.length_append, List.length_take, hc64, show i * 64 + 56 - i * 64 = 56 by omega]; rfl); rw [e, strip, bytesV_app]; exact hn
      refine WP.val rfl rfl rfl rfl (Yld.assign rfl rfl) ?_
      refine WP.nil ?_
      refine WP.sub [(0, _), (2, _), (4, _), (5, _), (15, _)] ?_ ⟨rfl, rfl, rfl, rfl, rfl, trivial⟩
      refine WP.leave ?_
      refine WP.next ?_
      refine WP.region [0, 1, 2] rfl ?_
      refine WP.val rfl rfl rfl rfl (Yld.move rfl rfl) ?_
      refine WP.val rfl rfl rfl rfl (Yld.add64 rfl rfl rfl (by omega)) ?_
      refine WP.val rfl rfl rfl rfl (Yld.assign rfl rfl) ?_
      refine WP.nil ?_
      refine WP.sub [(0, _), (2, _), (4, _), (5, _), (15, _)] ?_ ⟨rfl, rfl, rfl, rfl, rfl, trivial⟩
      exact WP.again (i + 1, vn, Ln) ⟨(show i + 1 ≤ 4 by omega), hnew⟩ (show 4 - (i + 1) < 4 - i by omega) ⟨rfl, rfl, rfl, rfl, trivial⟩ rfl (by (try dsimp only); repeat (first | exact Rm.chunk | exact Rm.here | exact Rm.nil0 | apply Rm.skip | apply Rm.skipS | apply PX.cons | (apply PX.done; (repeat (first | exact Leave.done | apply Leave.drop | apply Leave.dropS)); done) | apply PX.app))
    · obtain rfl : i = 4 := by omega
      refine WP.nil ?_
      refine WP.sub [(0, _), (2, _), (4, _), (5, _), (15, _)] ?_ ⟨rfl, rfl, rfl, rfl, rfl, trivial⟩
      refine WP.next ?_
      refine WP.condF rfl ?_
      refine WP.exit ?_
      refine WP.thenE ?_
      refine WP.thenE ?_
      refine WP.hit ?_
      refine WP.next ?_
      refine WP.seq ?_
      have hcl := strip_len hl 4 (by omega)
      refine WP.shareOwn hout (by repeat (first | exact Take.nil | with_reducible apply Take.cons | apply Take.app | exact Rm.chunk | exact Rm.here | exact Rm.nil0 | apply Rm.skip | apply Rm.skipS | (focus (apply Take.all; (repeat (first | exact Rm.chunk | exact Rm.here | exact Rm.nil0 | apply Rm.skip | apply Rm.skipS)); done)) | apply Take.cons)) (fun J1 hJ1 hc => ?_)
      have hb := hb.mono (fun b o h => hJ1.2 b o h)
      refine WP.region [0, 1, 2] rfl ?_
      refine WP.val rfl rfl rfl rfl (Yld.move rfl rfl) ?_
      refine WP.loud rfl rfl ?_
      refine Op.call (ref_at (l := 4) (k := 2) hc (by omega) (by decide) (by decide)) rfl Try.func42 rfl rfl rfl rfl (by repeat (first | exact Take.nil | with_reducible apply Take.cons | apply Take.app | exact Rm.chunk | exact Rm.here | exact Rm.nil0 | apply Rm.skip | apply Rm.skipS | (focus (apply Take.all; (repeat (first | exact Rm.chunk | exact Rm.here | exact Rm.nil0 | apply Rm.skip | apply Rm.skipS)); done)) | apply Take.cons)) ?_
      rintro v J L1 hJ ⟨rfl, rfl, rfl⟩
      clear hJ; try simp only [List.cons_append, List.nil_append, List.append_assoc]
      rw [show leN (cut (strip bs 4) 4 (4 + 2)) = pmany (strip bs 4) from rfl]
      refine WP.val rfl rfl rfl rfl (Yld.assign rfl rfl) ?_
      refine WP.nil ?_
      refine WP.sub [(0, _), (2, _), (4, _), (5, _), (6, _), (15, _)] ?_ ⟨rfl, rfl, rfl, rfl, rfl, rfl, trivial⟩
      refine WP.next ?_
      refine WP.seq ?_
      refine WP.seq ?_
      refine WP.region [0, 1] rfl ?_
      refine WP.val rfl rfl rfl rfl (Yld.move rfl rfl) ?_
      refine WP.split rfl rfl rfl rfl (Yld.gtr rfl rfl rfl) (fun hmany => ?_) (fun hmany => ?_)
      · refine WP.nil ?_
        refine WP.sub [(0, _), (2, _), (4, _), (5, _), (6, _), (15, _), (30, _)] ?_ ⟨rfl, rfl, rfl, rfl, rfl, rfl, rfl, trivial⟩
        refine WP.next ?_
        refine WP.condT rfl ?_
        refine WP.seq ?_
        refine WP.region [0, 1, 2] rfl ?_
        refine WP.val rfl rfl rfl rfl (Yld.buildS (pl := []) rfl ty_zr_35 ty_zd_35 (by kernel_rfl) rfl (vs := []) rfl (segs := []) rfl rfl (by repeat (first | exact SetSeg.nil | apply SetSeg.one | exact SetAt.zero | apply SetAt.succ))) ?_
        refine WP.loud rfl rfl ?_
        refine Op.storeAll rfl rfl ty_sz_35 rfl rfl rfl rfl (by repeat (first | exact Upd.head | apply Upd.tail | apply Upd.tailS)) rfl ?_
        refine WP.val rfl rfl rfl rfl (Yld.assign rfl rfl) ?_
        refine WP.nil ?_
        refine WP.sub [(0, _), (2, _), (3, _), (4, _), (5, _), (6, _), (15, _), (30, _)] ?_ ⟨rfl, rfl, rfl, rfl, rfl, rfl, rfl, rfl, trivial⟩
        refine WP.next ?_
        refine WP.ret ?_
        refine WP.fin .ret (.inr rfl) (resT (rs := [.cell 2 35, .tmp 3]) (vs := [_, _]) rfl ⟨⟨_, _, _, _, rfl, (by repeat (first | exact There.h | exact There.i (by assumption) | apply There.t | apply There.s)), .inl ⟨ty_ag_35, by rfl, rfl⟩⟩, rfl, trivial⟩ rfl) [] (by repeat (first | exact Take.nil | with_reducible apply Take.cons | apply Take.app | exact Rm.chunk | exact Rm.here | exact Rm.nil0 | apply Rm.skip | apply Rm.skipS | (focus (apply Take.all; (repeat (first | exact Rm.chunk | exact Rm.here | exact Rm.nil0 | apply Rm.skip | apply Rm.skipS)); done)) | apply Take.cons)) (by repeat (first | exact Leave.done | apply Leave.drop | apply Leave.dropS)) hJ1 ?_
        have hn : pdec bs = none := pdec_none (fun h => (by have := h.2.1; omega))
        rw [hn]; exact ⟨_, rfl, RPt.zero _, rfl⟩
      · have hmany : pmany (strip bs 4) ≤ 198 := by omega
        obtain ⟨bc, kc, cc, Tc, frc, arrc, rfl, hcc, hcb, hcd⟩ := hc.get (by omega)
        have e2 := take_cells hcd 2 (byteV (strip bs 4)[2]) (by simp [bytesV, hcl]) (by rw [bytesV_len]; omega)
        have e3 := take_cells hcd 3 (byteV (strip bs 4)[3]) (by simp [bytesV, hcl]) (by rw [bytesV_len]; omega)
        rw [Array.getElem?_toList] at e2 e3
        have hd : SlRd (fun b o => J1.blk b = some o) (subSl 1 22 (22 + pmany (strip bs 4)) (.slice (some ⟨bc, kc, none⟩) (strip bs 4).length cc)) (decP (strip bs 4)).data.length 1 (bytesV (decP (strip bs 4)).data) := by show SlRd _ _ (cut (strip bs 4) 22 (22 + pmany (strip bs 4))).length 1 (bytesV (cut (strip bs 4) 22 (22 + pmany (strip bs 4)))); rw [cut_len (by omega)]; exact sub_rd hc (by omega) (by omega)
        refine WP.nil ?_
        refine WP.sub [(0, _), (2, _), (4, _), (5, _), (6, _), (15, _), (30, _)] ?_ ⟨rfl, rfl, rfl, rfl, rfl, rfl, rfl, trivial⟩
        refine WP.next ?_
        refine WP.condF rfl ?_
        refine WP.skip ?_
        refine WP.next ?_
        refine WP.seq ?_
        refine WD.start Trymixed 20 (fun b o => J1.blk b = some o) (fun _ _ => False) (fun b o h => There.i h) (fun _ _ h => h.elim) 21 [false, false, false, false, false, false, false, false, false, false, false, false, false, false, false, false, false, false, false, false, false] rfl rfl ?_
        refine WD.val (i := 0) rfl rfl rfl rfl (by kernel_rfl) rfl (Yld.move rfl rfl) ?_
        refine WD.val (i := 1) rfl rfl rfl rfl (by kernel_rfl) rfl (Yld.indexAddr (i := 2) rfl ty_sl_22 rfl rfl (by omega)) ?_
        refine WD.val1 (i := 2) rfl rfl rfl rfl (by kernel_rfl) rfl (by kernel_rfl) (Yld.loadC rfl ty_sc_5 rfl (.inl hcb) e2) ?_
        refine WD.val (i := 3) rfl rfl rfl rfl (by kernel_rfl) rfl (Yld.conv64 rfl ty_un_5 ty_ik_3 rfl (by have := ((strip bs 4)[2]).toNat_lt; omega)) ?_
        rw [byteN_at (c := (strip bs 4)) (i := 2) (by omega)]
        refine WD.val (i := 4) rfl rfl rfl rfl (by kernel_rfl) rfl (Yld.move rfl rfl) ?_
        refine WD.val (i := 5) rfl rfl rfl rfl (by kernel_rfl) rfl (Yld.indexAddr (i := 3) rfl ty_sl_22 rfl rfl (by omega)) ?_
        refine WD.val1 (i := 6) rfl rfl rfl rfl (by kernel_rfl) rfl (by kernel_rfl) (Yld.loadC rfl ty_sc_5 rfl (.inl hcb) e3) ?_
        refine WD.val (i := 7) rfl rfl rfl rfl (by kernel_rfl) rfl (Yld.conv64 rfl ty_un_5 ty_ik_3 rfl (by have := ((strip bs 4)[3]).toNat_lt; omega)) ?_
        rw [byteN_at (c := (strip bs 4)) (i := 3) (by omega)]
        refine WD.val (i := 8) rfl rfl rfl rfl (by kernel_rfl) rfl (Yld.move rfl rfl) ?_
        refine WD.val (i := 10) rfl rfl rfl rfl (by kernel_rfl) rfl (Yld.move rfl rfl) ?_
        refine WD.val (i := 12) rfl rfl rfl rfl (by kernel_rfl) rfl (Yld.move rfl rfl) ?_
        refine WD.val (i := 14) rfl rfl rfl rfl (by kernel_rfl) rfl (Yld.move rfl rfl) ?_
        refine WD.val (i := 15) rfl rfl rfl rfl (by kernel_rfl) rfl (Yld.move rfl rfl) ?_
        refine WD.val (i := 16) rfl rfl rfl rfl (by kernel_rfl) rfl (Yld.add64 rfl rfl rfl (by omega)) ?_
        refine WD.val (i := 17) rfl rfl rfl rfl (by kernel_rfl) rfl (Yld.sliceR (l := 22) (h := 22 + pmany (strip bs 4)) hc rfl ty_sl_22 rfl (Env.limS (n := 22) rfl) (Env.limS (n := 22 + pmany (strip bs 4)) (congrArg (fun z : Int => some (Value.int .i64 z)) (by omega))) (by omega) (by omega)) ?_
        refine WD.both (i := 9) (j := 19) (by kernel_rfl) rfl rfl ?_ ?_
        · refine WP.oper rfl rfl ?_
          refine Op.call (ref_at (l := 6) (k := 6) hc (by omega) (by decide) (by decide)) rfl Try.func42 rfl rfl rfl rfl (by repeat (first | exact Take.nil | with_reducible apply Take.cons | apply Take.app | exact Rm.chunk | exact Rm.here | exact Rm.nil0 | apply Rm.skip | apply Rm.skipS | (focus (apply Take.all; (repeat (first | exact Rm.chunk | exact Rm.here | exact Rm.nil0 | apply Rm.skip | apply Rm.skipS)); done)) | apply Take.cons)) ?_
          rintro v J L1 hJ ⟨rfl, rfl, rfl⟩
          clear hJ; try simp only [List.cons_append, List.nil_append, List.append_assoc]
          refine WD.go (.inr (fun b o h => There.i h)) (fun _ _ h => h.elim) ?_
          refine WD.both (i := 11) (j := 19) (by kernel_rfl) rfl rfl ?_ ?_
          · refine WP.oper rfl rfl ?_
            refine Op.call (ref_at (l := 12) (k := 6) hc (by omega) (by decide) (by decide)) rfl Try.func42 rfl rfl rfl rfl (by repeat (first | exact Take.nil | with_reducible apply Take.cons | apply Take.app | exact Rm.chunk | exact Rm.here | exact Rm.nil0 | apply Rm.skip | apply Rm.skipS | (focus (apply Take.all; (repeat (first | exact Rm.chunk | exact Rm.here | exact Rm.nil0 | apply Rm.skip | apply Rm.skipS)); done)) | apply Take.cons)) ?_
            rintro v J L1 hJ ⟨rfl, rfl, rfl⟩
            clear hJ; try simp only [List.cons_append, List.nil_append, List.append_assoc]
            refine WD.go (.inr (fun b o h => There.i h)) (fun _ _ h => h.elim) ?_
            refine WD.both (i := 13) (j := 19) (by kernel_rfl) rfl rfl ?_ ?_
            · refine WP.oper rfl rfl ?_
              refine Op.call (ref_at (l := 18) (k := 4) hc (by omega) (by decide) (by decide)) rfl Try.func42 rfl rfl rfl rfl (by repeat (first | exact Take.nil | with_reducible apply Take.cons | apply Take.app | exact Rm.chunk | exact Rm.here | exact Rm.nil0 | apply Rm.skip | apply Rm.skipS | (focus (apply Take.all; (repeat (first | exact Rm.chunk | exact Rm.here | exact Rm.nil0 | apply Rm.skip | apply Rm.skipS)); done)) | apply Take.cons)) ?_
              rintro v J L1 hJ ⟨rfl, rfl, rfl⟩
              clear hJ; try simp only [List.cons_append, List.nil_append, List.append_assoc]
              refine WD.go (.inr (fun b o h => There.i h)) (fun _ _ h => h.elim) ?_
              refine WD.val (i := 18) rfl rfl rfl rfl (by kernel_rfl) rfl (Yld.buildS (pl := [(4, 4, 1), (2, 2, 1), (1, 1, 1), (0, 0, 1), (3, 3, 1), (5, 5, 1)]) rfl ty_zr_35 ty_zd_35 (by kernel_rfl) rfl (vs := [_, _, _, _, _, _]) rfl (segs := [(4, [_]), (2, [_]), (1, [_]), (0, [_]), (3, [_]), (5, [_])]) rfl rfl (by repeat (first | exact SetSeg.nil | apply SetSeg.one | exact SetAt.zero | apply SetAt.succ))) ?_
              refine WD.loud (i := 19) (by kernel_rfl) rfl rfl rfl ?_
              refine Op.alloc rfl rfl rfl ty_zr_35 (fun b8 => ?_)
              refine WD.go (.inr (fun b o h => There.i h)) (fun _ _ h => h.elim) ?_
              refine WD.loud (i := 20) (by kernel_rfl) rfl rfl rfl ?_
              refine Op.storeAll rfl rfl ty_sz_35 rfl rfl rfl rfl (by repeat (first | exact Upd.head | apply Upd.tail | apply Upd.tailS)) rfl ?_
              refine WD.go (.inl rfl) (fun _ _ h => h.elim) ?_
              refine WD.done (by kernel_rfl) ?_
              refine WP.sub [(0, _), (2, _), (4, _), (5, _), (6, _), (7, _), (15, _), (30, _)] ?_ ⟨rfl, rfl, rfl, rfl, rfl, rfl, rfl, rfl, trivial⟩
              refine WP.next ?_
              refine WP.seq ?_
              refine WP.region [0, 1, 2, 3, 4, 5, 6] rfl ?_
              refine WP.val rfl rfl rfl rfl (Yld.loadAll rfl ty_ag_35 rfl (by repeat (first | exact There.h | exact There.i (by assumption) | apply There.t | apply There.s)) rfl) ?_
              refine WP.loud rfl rfl ?_
              refine Op.call (ref_Encode_bad (p := (decP (strip bs 4))) hd hm) rfl Try.func17 rfl rfl rfl rfl (by repeat (first | exact Take.nil | with_reducible apply Take.cons | apply Take.app | exact Rm.chunk | exact Rm.here | exact Rm.nil0 | apply Rm.skip | apply Rm.skipS | (focus (apply Take.all; (repeat (first | exact Rm.chunk | exact Rm.here | exact Rm.nil0 | apply Rm.skip | apply Rm.skipS)); done)) | apply Take.cons)) ?_
              rintro v J L1 hJ ⟨rfl, rfl, rfl⟩
              clear hJ; try simp only [List.cons_append, List.nil_append, List.append_assoc]
              refine WP.val rfl rfl rfl rfl (Yld.move rfl rfl) ?_
              refine WP.val rfl rfl rfl rfl (Yld.extract rfl rfl rfl) ?_
              refine WP.val rfl rfl rfl rfl (Yld.extract rfl rfl rfl) ?_
              refine WP.val rfl rfl rfl rfl (Yld.assign rfl rfl) ?_
              refine WP.val rfl rfl rfl rfl (Yld.assign rfl rfl) ?_
              refine WP.nil ?_
              refine WP.sub [(0, _), (2, _), (4, _), (5, _), (6, _), (7, _), (8, _), (9, _), (15, _), (30, _)] ?_ ⟨rfl, rfl, rfl, rfl, rfl, rfl, rfl, rfl, rfl, rfl, trivial⟩
              refine WP.next ?_
              refine WP.seq ?_
              refine WP.seq ?_
              refine WP.region [0, 1, 2, 3, 4, 5, 6, 7, 8] rfl ?_
              refine WP.val rfl rfl rfl rfl (Yld.move rfl rfl) ?_
              refine WP.val rfl rfl rfl rfl (Yld.neq rfl rfl rfl true (decide_eq_true (by omega))) ?_
              refine WP.val rfl rfl rfl rfl (Yld.move rfl rfl) ?_
              refine WP.passG rfl rfl rfl rfl rfl rfl rfl rfl ?_
              refine WP.passG rfl rfl rfl rfl rfl rfl rfl rfl ?_
              refine WP.passG rfl rfl rfl rfl rfl rfl rfl rfl ?_
              refine WP.passG rfl rfl rfl rfl rfl rfl rfl rfl ?_
              refine WP.passG rfl rfl rfl rfl rfl rfl rfl rfl ?_
              refine WP.val rfl rfl rfl rfl (Yld.pickT rfl rfl rfl) ?_
              refine WP.nil ?_
              refine WP.sub [(0, _), (2, _), (4, _), (5, _), (6, _), (7, _), (8, _), (9, _), (15, _), (30, _), (64, _)] ?_ ⟨rfl, rfl, rfl, rfl, rfl, rfl, rfl, rfl, rfl, rfl, rfl, trivial⟩
              refine WP.next ?_
              refine WP.condT rfl ?_
              refine WP.seq ?_
              refine WP.region [0, 1, 2] rfl ?_
              refine WP.val rfl rfl rfl rfl (Yld.buildS (pl := []) rfl ty_zr_35 ty_zd_35 (by kernel_rfl) rfl (vs := []) rfl (segs := []) rfl rfl (by repeat (first | exact SetSeg.nil | apply SetSeg.one | exact SetAt.zero | apply SetAt.succ))) ?_
              refine WP.loud rfl rfl ?_
              refine Op.storeAll rfl rfl ty_sz_35 rfl rfl rfl rfl (by repeat (first | exact Upd.head | apply Upd.tail | apply Upd.tailS)) rfl ?_
              refine WP.val rfl rfl rfl rfl (Yld.assign rfl rfl) ?_
              refine WP.nil ?_
              refine WP.sub [(0, _), (2, _), (3, _), (4, _), (5, _), (6, _), (7, _), (8, _), (9, _), (15, _), (30, _), (64, _)] ?_ ⟨rfl, rfl, rfl, rfl, rfl, rfl, rfl, rfl, rfl, rfl, rfl, rfl, trivial⟩
              refine WP.next ?_
              refine WP.ret ?_
              refine WP.fin .ret (.inr rfl) (resT (rs := [.cell 2 35, .tmp 3]) (vs := [_, _]) rfl ⟨⟨_, _, _, _, rfl, (by repeat (first | exact There.h | exact There.i (by assumption) | apply There.t | apply There.s)), .inl ⟨ty_ag_35, by rfl, rfl⟩⟩, rfl, trivial⟩ rfl) [] (by repeat (first | exact Take.nil | with_reducible apply Take.cons | apply Take.app | exact Rm.chunk | exact Rm.here | exact Rm.nil0 | apply Rm.skip | apply Rm.skipS | (focus (apply Take.all; (repeat (first | exact Rm.chunk | exact Rm.here | exact Rm.nil0 | apply Rm.skip | apply Rm.skipS)); done)) | apply Take.cons)) (by repeat (first | exact Leave.done | apply Leave.drop | apply Leave.dropS)) hJ1 ?_
              have hn : pdec bs = none := pdec_none (fun h => hm h.2.2.1)
              rw [hn]; exact ⟨_, rfl, RPt.zero _, rfl⟩
            · refine WP.oper rfl rfl ?_
              refine Op.alloc rfl rfl rfl ty_zr_35 (fun b8 => ?_)
              refine WD.go (.inr (fun b o h => There.i h)) (fun _ _ h => h.elim) ?_
              refine WD.loud (i := 13) (by kernel_rfl) rfl rfl rfl ?_
              refine Op.call (ref_at (l := 18) (k := 4) hc (by omega) (by decide) (by decide)) rfl Try.func42 rfl rfl rfl rfl (by repeat (first | exact Take.nil | with_reducible apply Take.cons | apply Take.app | exact Rm.chunk | exact Rm.here | exact Rm.nil0 | apply Rm.skip | apply Rm.skipS | (focus (apply Take.all; (repeat (first | exact Rm.chunk | exact Rm.here | exact Rm.nil0 | apply Rm.skip | apply Rm.skipS)); done)) | apply Take.cons)) ?_
              rintro v J L1 hJ ⟨rfl, rfl, rfl⟩
              clear hJ; try simp only [List.cons_append, List.nil_append, List.append_assoc]
              refine WD.go (.inr (fun b o h => There.i h)) (fun _ _ h => h.elim) ?_
              refine WD.val (i := 18) rfl rfl rfl rfl (by kernel_rfl) rfl (Yld.buildS (pl := [(4, 4, 1), (2, 2, 1), (1, 1, 1), (0, 0, 1), (3, 3, 1), (5, 5, 1)]) rfl ty_zr_35 ty_zd_35 (by kernel_rfl) rfl (vs := [_, _, _, _, _, _]) rfl (segs := [(4, [_]), (2, [_]), (1, [_]), (0, [_]), (3, [_]), (5, [_])]) rfl rfl (by repeat (first | exact SetSeg.nil | apply SetSeg.one | exact SetAt.zero | apply SetAt.succ))) ?_
              refine WD.loud (i := 20) (by kernel_rfl) rfl rfl rfl ?_
              refine Op.storeAll rfl rfl ty_sz_35 rfl rfl rfl rfl (by repeat (first | exact Upd.head | apply Upd.tail | apply Upd.tailS)) rfl ?_
              refine WD.go (.inl rfl) (fun _ _ h => h.elim) ?_
              refine WD.done (by kernel_rfl) ?_
              refine WP.sub [(0, _), (2, _), (4, _), (5, _), (6, _), (7, _), (15, _), (30, _)] ?_ ⟨rfl, rfl, rfl, rfl, rfl, rfl, rfl, rfl, trivial⟩
              refine WP.next ?_
              refine WP.seq ?_
              refine WP.region [0, 1, 2, 3, 4, 5, 6] rfl ?_
              refine WP.val rfl rfl rfl rfl (Yld.loadAll rfl ty_ag_35 rfl (by repeat (first | exact There.h | exact There.i (by assumption) | apply There.t | apply There.s)) rfl) ?_
              refine WP.loud rfl rfl ?_
              refine Op.call (ref_Encode_bad (p := (decP (strip bs 4))) hd hm) rfl Try.func17 rfl rfl rfl rfl (by repeat (first | exact Take.nil | with_reducible apply Take.cons | apply Take.app | exact Rm.chunk | exact Rm.here | exact Rm.nil0 | apply Rm.skip | apply Rm.skipS | (focus (apply Take.all; (repeat (first | exact Rm.chunk | exact Rm.here | exact Rm.nil0 | apply Rm.skip | apply Rm.skipS)); done)) | apply Take.cons)) ?_
              rintro v J L1 hJ ⟨rfl, rfl, rfl⟩
              clear hJ; try simp only [List.cons_append, List.nil_append, List.append_assoc]
              refine WP.val rfl rfl rfl rfl (Yld.move rfl rfl) ?_
              refine WP.val rfl rfl rfl rfl (Yld.extract rfl rfl rfl) ?_
              refine WP.val rfl rfl rfl rfl (Yld.extract rfl rfl rfl) ?_
              refine WP.val rfl rfl rfl rfl (Yld.assign rfl rfl) ?_
              refine WP.val rfl rfl rfl rfl (Yld.assign rfl rfl) ?_
              refine WP.nil ?_
              refine WP.sub [(0, _), (2, _), (4, _), (5, _), (6, _), (7, _), (8, _), (9, _), (15, _), (30, _)] ?_ ⟨rfl, rfl, rfl, rfl, rfl, rfl, rfl, rfl, rfl, rfl, trivial⟩
              refine WP.next ?_
              refine WP.seq ?_
              refine WP.seq ?_
              refine WP.region [0, 1, 2, 3, 4, 5, 6, 7, 8] rfl ?_
              refine WP.val rfl rfl rfl rfl (Yld.move rfl rfl) ?_
              refine WP.val rfl rfl rfl rfl (Yld.neq rfl rfl rfl true (decide_eq_true (by omega))) ?_
              refine WP.val rfl rfl rfl rfl (Yld.move rfl rfl) ?_
              refine WP.passG rfl rfl rfl rfl rfl rfl rfl rfl ?_
              refine WP.passG rfl rfl rfl rfl rfl rfl rfl rfl ?_
              refine WP.passG rfl rfl rfl rfl rfl rfl rfl rfl ?_
              refine WP.passG rfl rfl rfl rfl rfl rfl rfl rfl ?_
              refine WP.passG rfl rfl rfl rfl rfl rfl rfl rfl ?_
              refine WP.val rfl rfl rfl rfl (Yld.pickT rfl rfl rfl) ?_
              refine WP.nil ?_
              refine WP.sub [(0, _), (2, _), (4, _), (5, _), (6, _), (7, _), (8, _), (9, _), (15, _), (30, _), (64, _)] ?_ ⟨rfl, rfl, rfl, rfl, rfl, rfl, rfl, rfl, rfl, rfl, rfl, trivial⟩
              refine WP.next ?_
              refine WP.condT rfl ?_
              refine WP.seq ?_
              refine WP.region [0, 1, 2] rfl ?_
              refine WP.val rfl rfl rfl rfl (Yld.buildS (pl := []) rfl ty_zr_35 ty_zd_35 (by kernel_rfl) rfl (vs := []) rfl (segs := []) rfl rfl (by repeat (first | exact SetSeg.nil | apply SetSeg.one | exact SetAt.zero | apply SetAt.succ))) ?_
              refine WP.loud rfl rfl ?_
              refine Op.storeAll rfl rfl ty_sz_35 rfl rfl rfl rfl (by repeat (first | exact Upd.head | apply Upd.tail | apply Upd.tailS)) rfl ?_
              refine WP.val rfl rfl rfl rfl (Yld.assign rfl rfl) ?_
              refine WP.nil ?_
              refine WP.sub [(0, _), (2, _), (3, _), (4, _), (5, _), (6, _), (7, _), (8, _), (9, _), (15, _), (30, _), (64, _)] ?_ ⟨rfl, rfl, rfl, rfl, rfl, rfl, rfl, rfl, rfl, rfl, rfl, rfl, trivial⟩
              refine WP.next ?_
              refine WP.ret ?_
              refine WP.fin .ret (.inr rfl) (resT (rs := [.cell 2 35, .tmp 3]) (vs := [_, _]) rfl ⟨⟨_, _, _, _, rfl, (by repeat (first | exact There.h | exact There.i (by assumption) | apply There.t | apply There.s)), .inl ⟨ty_ag_35, by rfl, rfl⟩⟩, rfl, trivial⟩ rfl) [] (by repeat (first | exact Take.nil | with_reducible apply Take.cons | apply Take.app | exact Rm.chunk | exact Rm.here | exact Rm.nil0 | apply Rm.skip | apply Rm.skipS | (focus (apply Take.all; (repeat (first | exact Rm.chunk | exact Rm.here | exact Rm.nil0 | apply Rm.skip | apply Rm.skipS)); done)) | apply Take.cons)) (by repeat (first | exact Leave.done | apply Leave.drop | apply Leave.dropS)) hJ1 ?_
              have hn : pdec bs = none := pdec_none (fun h => hm h.2.2.1)
              rw [hn]; exact ⟨_, rfl, RPt.zero _, rfl⟩
          · refine WP.oper rfl rfl ?_
            refine Op.alloc rfl rfl rfl ty_zr_35 (fun b8 => ?_)
            refine WD.go (.inr (fun b o h => There.i h)) (fun _ _ h => h.elim) ?_
            refine WD.loud (i := 11) (by kernel_rfl) rfl rfl rfl ?_
            refine Op.call (ref_at (l := 12) (k := 6) hc (by omega) (by decide) (by decide)) rfl Try.func42 rfl rfl rfl rfl (by repeat (first | exact Take.nil | with_reducible apply Take.cons | apply Take.app | exact Rm.chunk | exact Rm.here | exact Rm.nil0 | apply Rm.skip | apply Rm.skipS | (focus (apply Take.all; (repeat (first | exact Rm.chunk | exact Rm.here | exact Rm.nil0 | apply Rm.skip | apply Rm.skipS)); done)) | apply Take.cons)) ?_
            rintro v J L1 hJ ⟨rfl, rfl, rfl⟩
            clear hJ; try simp only [List.cons_append, List.nil_append, List.append_assoc]
            refine WD.go (.inr (fun b o h => There.i h)) (fun _ _ h => h.elim) ?_
            refine WD.loud (i := 13) (by kernel_rfl) rfl rfl rfl ?_
            refine Op.call (ref_at (l := 18) (k := 4) hc (by omega) (by decide) (by decide)) rfl Try.func42 rfl rfl rfl rfl (by repeat (first | exact Take.nil | with_reducible apply Take.cons | apply Take.app | exact Rm.chunk | exact Rm.here | exact Rm.nil0 | apply Rm.skip | apply Rm.skipS | (focus (apply Take.all; (repeat (first | exact Rm.chunk | exact Rm.here | exact Rm.nil0 | apply Rm.skip | apply Rm.skipS)); done)) | apply Take.cons)) ?_
            rintro v J L1 hJ ⟨rfl, rfl, rfl⟩
            clear hJ; try simp only [List.cons_append, List.nil_append, List.append_assoc]
            refine WD.go (.inr (fun b o h => There.i h)) (fun _ _ h => h.elim) ?_
            refine WD.val (i := 18) rfl rfl rfl rfl (by kernel_rfl) rfl (Yld.buildS (pl := [(4, 4, 1), (2, 2, 1), (1, 1, 1), (0, 0, 1), (3, 3, 1), (5, 5, 1)]) rfl ty_zr_35 ty_zd_35 (by kernel_rfl) rfl (vs := [_, _, _, _, _, _]) rfl (segs := [(4, [_]), (2, [_]), (1, [_]), (0, [_]), (3, [_]), (5, [_])]) rfl rfl (by repeat (first | exact SetSeg.nil | apply SetSeg.one | exact SetAt.zero | apply SetAt.succ))) ?_
            refine WD.loud (i := 20) (by kernel_rfl) rfl rfl rfl ?_
            refine Op.storeAll rfl rfl ty_sz_35 rfl rfl rfl rfl (by repeat (first | exact Upd.head | apply Upd.tail | apply Upd.tailS)) rfl ?_
            refine WD.go (.inl rfl) (fun _ _ h => h.elim) ?_
            refine WD.done (by kernel_rfl) ?_
            refine WP.sub [(0, _), (2, _), (4, _), (5, _), (6, _), (7, _), (15, _), (30, _)] ?_ ⟨rfl, rfl, rfl, rfl, rfl, rfl, rfl, rfl, trivial⟩
            refine WP.next ?_
            refine WP.seq ?_
            refine WP.region [0, 1, 2, 3, 4, 5, 6] rfl ?_
            refine WP.val rfl rfl rfl rfl (Yld.loadAll rfl ty_ag_35 rfl (by repeat (first | exact There.h | exact There.i (by assumption) | apply There.t | apply There.s)) rfl) ?_
            refine WP.loud rfl rfl ?_
            refine Op.call (ref_Encode_bad (p := (decP (strip bs 4))) hd hm) rfl Try.func17 rfl rfl rfl rfl (by repeat (first | exact Take.nil | with_reducible apply Take.cons | apply Take.app | exact Rm.chunk | exact Rm.here | exact Rm.nil0 | apply Rm.skip | apply Rm.skipS | (focus (apply Take.all; (repeat (first | exact Rm.chunk | exact Rm.here | exact Rm.nil0 | apply Rm.skip | apply Rm.skipS)); done)) | apply Take.cons)) ?_
            rintro v J L1 hJ ⟨rfl, rfl, rfl⟩
            clear hJ; try simp only [List.cons_append, List.nil_append, List.append_assoc]
            refine WP.val rfl rfl rfl rfl (Yld.move rfl rfl) ?_
            refine WP.val rfl rfl rfl rfl (Yld.extract rfl rfl rfl) ?_
            refine WP.val rfl rfl rfl rfl (Yld.extract rfl rfl rfl) ?_
            refine WP.val rfl rfl rfl rfl (Yld.assign rfl rfl) ?_
            refine WP.val rfl rfl rfl rfl (Yld.assign rfl rfl) ?_
            refine WP.nil ?_
            refine WP.sub [(0, _), (2, _), (4, _), (5, _), (6, _), (7, _), (8, _), (9, _), (15, _), (30, _)] ?_ ⟨rfl, rfl, rfl, rfl, rfl, rfl, rfl, rfl, rfl, rfl, trivial⟩
            refine WP.next ?_
            refine WP.seq ?_
            refine WP.seq ?_
            refine WP.region [0, 1, 2, 3, 4, 5, 6, 7, 8] rfl ?_
            refine WP.val rfl rfl rfl rfl (Yld.move rfl rfl) ?_
            refine WP.val rfl rfl rfl rfl (Yld.neq rfl rfl rfl true (decide_eq_true (by omega))) ?_
            refine WP.val rfl rfl rfl rfl (Yld.move rfl rfl) ?_
            refine WP.passG rfl rfl rfl rfl rfl rfl rfl rfl ?_
            refine WP.passG rfl rfl rfl rfl rfl rfl rfl rfl ?_
            refine WP.passG rfl rfl rfl rfl rfl rfl rfl rfl ?_
            refine WP.passG rfl rfl rfl rfl rfl rfl rfl rfl ?_
            refine WP.passG rfl rfl rfl rfl rfl rfl rfl rfl ?_
            refine WP.val rfl rfl rfl rfl (Yld.pickT rfl rfl rfl) ?_
            refine WP.nil ?_
            refine WP.sub [(0, _), (2, _), (4, _), (5, _), (6, _), (7, _), (8, _), (9, _), (15, _), (30, _), (64, _)] ?_ ⟨rfl, rfl, rfl, rfl, rfl, rfl, rfl, rfl, rfl, rfl, rfl, trivial⟩
            refine WP.next ?_
            refine WP.condT rfl ?_
            refine WP.seq ?_
            refine WP.region [0, 1, 2] rfl ?_
            refine WP.val rfl rfl rfl rfl (Yld.buildS (pl := []) rfl ty_zr_35 ty_zd_35 (by kernel_rfl) rfl (vs := []) rfl (segs := []) rfl rfl (by repeat (first | exact SetSeg.nil | apply SetSeg.one | exact SetAt.zero | apply SetAt.succ))) ?_
            refine WP.loud rfl rfl ?_
            refine Op.storeAll rfl rfl ty_sz_35 rfl rfl rfl rfl (by repeat (first | exact Upd.head | apply Upd.tail | apply Upd.tailS)) rfl ?_
            refine WP.val rfl rfl rfl rfl (Yld.assign rfl rfl) ?_
            refine WP.nil ?_
            refine WP.sub [(0, _), (2, _), (3, _), (4, _), (5, _), (6, _), (7, _), (8, _), (9, _), (15, _), (30, _), (64, _)] ?_ ⟨rfl, rfl, rfl, rfl, rfl, rfl, rfl, rfl, rfl, rfl, rfl, rfl, trivial⟩
            refine WP.next ?_
            refine WP.ret ?_
            refine WP.fin .ret (.inr rfl) (resT (rs := [.cell 2 35, .tmp 3]) (vs := [_, _]) rfl ⟨⟨_, _, _, _, rfl, (by repeat (first | exact There.h | exact There.i (by assumption) | apply There.t | apply There.s)), .inl ⟨ty_ag_35, by rfl, rfl⟩⟩, rfl, trivial⟩ rfl) [] (by repeat (first | exact Take.nil | with_reducible apply Take.cons | apply Take.app | exact Rm.chunk | exact Rm.here | exact Rm.nil0 | apply Rm.skip | apply Rm.skipS | (focus (apply Take.all; (repeat (first | exact Rm.chunk | exact Rm.here | exact Rm.nil0 | apply Rm.skip | apply Rm.skipS)); done)) | apply Take.cons)) (by repeat (first | exact Leave.done | apply Leave.drop | apply Leave.dropS)) hJ1 ?_
            have hn : pdec bs = none := pdec_none (fun h => hm h.2.2.1)
            rw [hn]; exact ⟨_, rfl, RPt.zero _, rfl⟩
        · refine WP.oper rfl rfl ?_
          refine Op.alloc rfl rfl rfl ty_zr_35 (fun b8 => ?_)
          refine WD.go (.inr (fun b o h => There.i h)) (fun _ _ h => h.elim) ?_
          refine WD.loud (i := 9) (by kernel_rfl) rfl rfl rfl ?_
          refine Op.call (ref_at (l := 6) (k := 6) hc (by omega) (by decide) (by decide)) rfl Try.func42 rfl rfl rfl rfl (by repeat (first | exact Take.nil | with_reducible apply Take.cons | apply Take.app | exact Rm.chunk | exact Rm.here | exact Rm.nil0 | apply Rm.skip | apply Rm.skipS | (focus (apply Take.all; (repeat (first | exact Rm.chunk | exact Rm.here | exact Rm.nil0 | apply Rm.skip | apply Rm.skipS)); done)) | apply Take.cons)) ?_
          rintro v J L1 hJ ⟨rfl, rfl, rfl⟩
          clear hJ; try simp only [List.cons_append, List.nil_append, List.append_assoc]
          refine WD.go (.inr (fun b o h => There.i h)) (fun _ _ h => h.elim) ?_
          refine WD.loud (i := 11) (by kernel_rfl) rfl rfl rfl ?_
          refine Op.call (ref_at (l := 12) (k := 6) hc (by omega) (by decide) (by decide)) rfl Try.func42 rfl rfl rfl rfl (by repeat (first | exact Take.nil | with_reducible apply Take.cons | apply Take.app | exact Rm.chunk | exact Rm.here | exact Rm.nil0 | apply Rm.skip | apply Rm.skipS | (focus (apply Take.all; (repeat (first | exact Rm.chunk | exact Rm.here | exact Rm.nil0 | apply Rm.skip | apply Rm.skipS)); done)) | apply Take.cons)) ?_
          rintro v J L1 hJ ⟨rfl, rfl, rfl⟩
          clear hJ; try simp only [List.cons_append, List.nil_append, List.append_assoc]
          refine WD.go (.inr (fun b o h => There.i h)) (fun _ _ h => h.elim) ?_
          refine WD.loud (i := 13) (by kernel_rfl) rfl rfl rfl ?_
          refine Op.call (ref_at (l := 18) (k := 4) hc (by omega) (by decide) (by decide)) rfl Try.func42 rfl rfl rfl rfl (by repeat (first | exact Take.nil | with_reducible apply Take.cons | apply Take.app | exact Rm.chunk | exact Rm.here | exact Rm.nil0 | apply Rm.skip | apply Rm.skipS | (focus (apply Take.all; (repeat (first | exact Rm.chunk | exact Rm.here | exact Rm.nil0 | apply Rm.skip | apply Rm.skipS)); done)) | apply Take.cons)) ?_
          rintro v J L1 hJ ⟨rfl, rfl, rfl⟩
          clear hJ; try simp only [List.cons_append, List.nil_append, List.append_assoc]
          refine WD.go (.inr (fun b o h => There.i h)) (fun _ _ h => h.elim) ?_
          refine WD.val (i := 18) rfl rfl rfl rfl (by kernel_rfl) rfl (Yld.buildS (pl := [(4, 4, 1), (2, 2, 1), (1, 1, 1), (0, 0, 1), (3, 3, 1), (5, 5, 1)]) rfl ty_zr_35 ty_zd_35 (by kernel_rfl) rfl (vs := [_, _, _, _, _, _]) rfl (segs := [(4, [_]), (2, [_]), (1, [_]), (0, [_]), (3, [_]), (5, [_])]) rfl rfl (by repeat (first | exact SetSeg.nil | apply SetSeg.one | exact SetAt.zero | apply SetAt.succ))) ?_
          refine WD.loud (i := 20) (by kernel_rfl) rfl rfl rfl ?_
          refine Op.storeAll rfl rfl ty_sz_35 rfl rfl rfl rfl (by repeat (first | exact Upd.head | apply Upd.tail | apply Upd.tailS)) rfl ?_
          refine WD.go (.inl rfl) (fun _ _ h => h.elim) ?_
          refine WD.done (by kernel_rfl) ?_
          refine WP.sub [(0, _), (2, _), (4, _), (5, _), (6, _), (7, _), (15, _), (30, _)] ?_ ⟨rfl, rfl, rfl, rfl, rfl, rfl, rfl, rfl, trivial⟩
          refine WP.next ?_
          refine WP.seq ?_
          refine WP.region [0, 1, 2, 3, 4, 5, 6] rfl ?_
          refine WP.val rfl rfl rfl rfl (Yld.loadAll rfl ty_ag_35 rfl (by repeat (first | exact There.h | exact There.i (by assumption) | apply There.t | apply There.s)) rfl) ?_
          refine WP.loud rfl rfl ?_
          refine Op.call (ref_Encode_bad (p := (decP (strip bs 4))) hd hm) rfl Try.func17 rfl rfl rfl rfl (by repeat (first | exact Take.nil | with_reducible apply Take.cons | apply Take.app | exact Rm.chunk | exact Rm.here | exact Rm.nil0 | apply Rm.skip | apply Rm.skipS | (focus (apply Take.all; (repeat (first | exact Rm.chunk | exact Rm.here | exact Rm.nil0 | apply Rm.skip | apply Rm.skipS)); done)) | apply Take.cons)) ?_
          rintro v J L1 hJ ⟨rfl, rfl, rfl⟩
          clear hJ; try simp only [List.cons_append, List.nil_append, List.append_assoc]
          refine WP.val rfl rfl rfl rfl (Yld.move rfl rfl) ?_
          refine WP.val rfl rfl rfl rfl (Yld.extract rfl rfl rfl) ?_
          refine WP.val rfl rfl rfl rfl (Yld.extract rfl rfl rfl) ?_
          refine WP.val rfl rfl rfl rfl (Yld.assign rfl rfl) ?_
          refine WP.val rfl rfl rfl rfl (Yld.assign rfl rfl) ?_
          refine WP.nil ?_
          refine WP.sub [(0, _), (2, _), (4, _), (5, _), (6, _), (7, _), (8, _), (9, _), (15, _), (30, _)] ?_ ⟨rfl, rfl, rfl, rfl, rfl, rfl, rfl, rfl, rfl, rfl, trivial⟩
          refine WP.next ?_
          refine WP.seq ?_
          refine WP.seq ?_
          refine WP.region [0, 1, 2, 3, 4, 5, 6, 7, 8] rfl ?_
          refine WP.val rfl rfl rfl rfl (Yld.move rfl rfl) ?_
          refine WP.val rfl rfl rfl rfl (Yld.neq rfl rfl rfl true (decide_eq_true (by omega))) ?_
          refine WP.val rfl rfl rfl rfl (Yld.move rfl rfl) ?_
          refine WP.passG rfl rfl rfl rfl rfl rfl rfl rfl ?_
          refine WP.passG rfl rfl rfl rfl rfl rfl rfl rfl ?_
          refine WP.passG rfl rfl rfl rfl rfl rfl rfl rfl ?_
          refine WP.passG rfl rfl rfl rfl rfl rfl rfl rfl ?_
          refine WP.passG rfl rfl rfl rfl rfl rfl rfl rfl ?_
          refine WP.val rfl rfl rfl rfl (Yld.pickT rfl rfl rfl) ?_
          refine WP.nil ?_
          refine WP.sub [(0, _), (2, _), (4, _), (5, _), (6, _), (7, _), (8, _), (9, _), (15, _), (30, _), (64, _)] ?_ ⟨rfl, rfl, rfl, rfl, rfl, rfl, rfl, rfl, rfl, rfl, rfl, trivial⟩
          refine WP.next ?_
          refine WP.condT rfl ?_
          refine WP.seq ?_
          refine WP.region [0, 1, 2] rfl ?_
          refine WP.val rfl rfl rfl rfl (Yld.buildS (pl := []) rfl ty_zr_35 ty_zd_35 (by kernel_rfl) rfl (vs := []) rfl (segs := []) rfl rfl (by repeat (first | exact SetSeg.nil | apply SetSeg.one | exact SetAt.zero | apply SetAt.succ))) ?_
          refine WP.loud rfl rfl ?_
          refine Op.storeAll rfl rfl ty_sz_35 rfl rfl rfl rfl (by repeat (first | exact Upd.head | apply Upd.tail | apply Upd.tailS)) rfl ?_
          refine WP.val rfl rfl rfl rfl (Yld.assign rfl rfl) ?_
          refine WP.nil ?_
          refine WP.sub [(0, _), (2, _), (3, _), (4, _), (5, _), (6, _), (7, _), (8, _), (9, _), (15, _), (30, _), (64, _)] ?_ ⟨rfl, rfl, rfl, rfl, rfl, rfl, rfl, rfl, rfl, rfl, rfl, rfl, trivial⟩
          refine WP.next ?_
          refine WP.ret ?_
          refine WP.fin .ret (.inr rfl) (resT (rs := [.cell 2 35, .tmp 3]) (vs := [_, _]) rfl ⟨⟨_, _, _, _, rfl, (by repeat (first | exact There.h | exact There.i (by assumption) | apply There.t | apply There.s)), .inl ⟨ty_ag_35, by rfl, rfl⟩⟩, rfl, trivial⟩ rfl) [] (by repeat (first | exact Take.nil | with_reducible apply Take.cons | apply Take.app | exact Rm.chunk | exact Rm.here | exact Rm.nil0 | apply Rm.skip | apply Rm.skipS | (focus (apply Take.all; (repeat (first | exact Rm.chunk | exact Rm.here | exact Rm.nil0 | apply Rm.skip | apply Rm.skipS)); done)) | apply Take.cons)) (by repeat (first | exact Leave.done | apply Leave.drop | apply Leave.dropS)) hJ1 ?_
          have hn : pdec bs = none := pdec_none (fun h => hm h.2.2.1)
          rw [hn]; exact ⟨_, rfl, RPt.zero _, rfl⟩


theorem ref_Decode {I : Imm} {bs : List UInt8} {vb : Value} (hb : SlRd (fun b o => I.blk b = some o) vb bs.length 1 (bytesV bs)) (hbl : bs.length ≤ 140737488351232) : Spec Try.prog 19 [vb] I [] (fun v J L => ∃ cs, v = .tuple #[.agg cs.toArray, .int .i64 (perr (pdec bs))] ∧ RPt J ((pdec bs).getD ptZ) cs ∧ L = []) := by
  by_cases hm : (decP (strip bs 4)).may
  · exact ref_Decode_ok hb hbl hm
  · exact ref_Decode_bad hb hbl hm

end Go.Hp
