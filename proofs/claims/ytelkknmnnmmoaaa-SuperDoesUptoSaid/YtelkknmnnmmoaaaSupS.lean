import Derived.Test.YtelkknmnnmmoaaaSupQ
set_option linter.unusedVariables false
set_option linter.unusedSimpArgs false
namespace Go.Hp
open Go Go.Proofs

theorem cut_len {bs : List UInt8} {l h : Nat} (hh : h ≤ bs.length) : (cut bs l h).length = h - l := by simp [cut]; omega
theorem at_next {bs : List UInt8} {l k j : Nat} (hl : l + k ≤ bs.length) (hj : j < k) : leN ((cut bs l (l + k)).drop j) = 256 * leN ((cut bs l (l + k)).drop (j + 1)) + (bs[l + j]'(by omega)).toNat := by
  have hlen : (cut bs l (l + k)).length = k := by rw [cut_len hl]; omega
  rw [List.drop_eq_getElem_cons (i := j) (by omega), leN]
  have : (cut bs l (l + k))[j]'(by omega) = bs[l + j]'(by omega) := by simp [cut]
  rw [this]; omega
theorem at_small {bs : List UInt8} {l k j : Nat} (hl : l + k ≤ bs.length) (hk : k ≤ 6) : leN ((cut bs l (l + k)).drop j) < 281474976710656 := by
  have h1 := leN_lt ((cut bs l (l + k)).drop j)
  have hlen : ((cut bs l (l + k)).drop j).length ≤ 6 := by rw [List.length_drop, cut_len hl]; omega
  exact Nat.lt_of_lt_of_le h1 (Nat.le_trans (Nat.pow_le_pow_right (by decide) (show 8 * ((cut bs l (l + k)).drop j).length ≤ 48 by omega)) (by decide))
theorem ref_at {I : Imm} {bs : List UInt8} {vb : Value} {l k : Nat} (hb : SlRd (fun b o => I.blk b = some o) vb bs.length 1 (bytesV bs)) (hl : l + k ≤ bs.length) (hk : k ≤ 6) (hlk : l + k ≤ 1000) : Spec Try.prog 35 [vb, .int .i64 (l : Int), .int .i64 (k : Int)] I [] (fun v J L => v = .int .i64 (leN (cut bs l (l + k)) : Int) ∧ I = J ∧ L = []) := by
  refine Spec.of Try.func35 rfl Try.ntmps35 (Nat.le_of_ble_eq_true rfl) (fun F => ?_)
  try simp only [List.cons_append, List.nil_append, List.append_assoc]
  dsimp only [argsEnv]
  refine WP.seq ?_
  refine WP.region [0] rfl ?_
  refine WP.val rfl rfl rfl rfl (Yld.assign rfl rfl) ?_
  refine WP.nil ?_
  refine WP.next ?_
  refine WP.seq ?_
  refine WP.region [0] rfl ?_
  refine WP.val rfl rfl rfl rfl (Yld.assign rfl rfl) ?_
  refine WP.nil ?_
  refine WP.next ?_
  refine WP.seq ?_
  refine WP.seq ?_
  refine WP.region [0, 1, 2] rfl ?_
  refine WP.val rfl rfl rfl rfl (Yld.move rfl rfl) ?_
  refine WP.val rfl rfl rfl rfl (Yld.sub64 rfl rfl rfl (by omega)) ?_
  refine WP.val rfl rfl rfl rfl (Yld.assign rfl rfl) ?_
  refine WP.nil ?_
  refine WP.sub [(0, _), (1, _), (2, _), (6, _), (7, _), (8, _)] ?_ ⟨rfl, rfl, rfl, rfl, rfl, rfl, trivial⟩
  refine WP.next ?_
  refine WP.block ?_
  refine WP.loop (X := Nat) (fun j : Nat => [(0, vb), (1, .int .i64 (l : Int)), (7, .int .i64 (leN ((cut bs l (l + k)).drop j) : Int)), (8, .int .i64 ((j : Int) - 1))]) (fun _ => I) (fun _ => F) (fun j => j ≤ k) (fun j => j) k (Nat.le_refl _) ⟨rfl, rfl, (by rw [List.drop_of_length_le (by rw [cut_len hl]; omega)]; rfl), rfl, trivial⟩ rfl (by (try dsimp only); repeat (first | exact Rm.chunk | exact Rm.here | exact Rm.nil0 | apply Rm.skip | apply Rm.skipS | apply PX.cons | (apply PX.done; (repeat (first | exact Leave.done | apply Leave.drop | apply Leave.dropS)); done) | apply PX.app)) ?_
  intro j hj0; have hj0 : j ≤ k := hj0
  try dsimp only
  try simp only [List.cons_append, List.nil_append, List.append_assoc]
  refine WP.seq ?_
  refine WP.seq ?_
  refine WP.region [0, 1] rfl ?_
  refine WP.val rfl rfl rfl rfl (Yld.move rfl rfl) ?_
  refine WP.split rfl rfl rfl rfl (Yld.geq rfl rfl rfl) (fun hge => ?_) (fun hge => ?_)
  · obtain ⟨j, rfl⟩ : ∃ j', j = j' + 1 := ⟨j - 1, by omega⟩
    have hi : l + j < bs.length := by omega
    have hsm := at_small (j := j + 1) hl hk
    obtain ⟨bb, kb, cb, Tb, frb, arrb, rfl, hcb, hbb, hb4⟩ := hb.get (by omega)
    have eb := take_cells hb4 (l + j) (byteV bs[l + j]) (by simp [bytesV, hi]) (by rw [bytesV_len]; exact hi)
    rw [Array.getElem?_toList] at eb
    have hbt := bs[l + j].toNat_lt
    refine WP.nil ?_
    refine WP.sub [(0, _), (1, _), (7, _), (8, _), (12, _)] ?_ ⟨rfl, rfl, rfl, rfl, rfl, trivial⟩
    refine WP.next ?_
    refine WP.condT rfl ?_
    refine WP.skip ?_
    refine WP.next ?_
    refine WP.seq ?_
    refine WP.block ?_
    refine WP.region [0, 1, 2, 3, 4, 5, 6, 7, 8, 9, 10] rfl ?_
    refine WP.val rfl rfl rfl rfl (Yld.move rfl rfl) ?_
    refine WP.val rfl rfl rfl rfl (Yld.mul64 rfl rfl rfl (by omega)) ?_
    refine WP.val rfl rfl rfl rfl (Yld.move rfl rfl) ?_
    refine WP.val rfl rfl rfl rfl (Yld.move rfl rfl) ?_
    refine WP.val rfl rfl rfl rfl (Yld.move rfl rfl) ?_
    refine WP.val rfl rfl rfl rfl (Yld.add64 rfl rfl rfl (by omega)) ?_
    refine WP.val rfl rfl rfl rfl (Yld.indexAddr (i := l + j) rfl ty_sl_24 rfl (congrArg (fun z : Int => some (Value.int .i64 z)) (by omega)) hi) ?_
    refine WP.val rfl rfl rfl rfl (Yld.loadC rfl ty_sc_5 rfl (There.i hbb) (by rw [Nat.mul_one]; exact eb)) ?_
    refine WP.val rfl rfl rfl rfl (Yld.conv64 rfl ty_un_5 ty_ik_3 rfl (by omega)) ?_
    refine WP.val rfl rfl rfl rfl (Yld.add64 rfl rfl rfl (by omega)) ?_
    refine WP.val rfl rfl rfl rfl (Yld.assign rfl rfl) ?_
    refine WP.nil ?_
    refine WP.sub [(0, _), (1, _), (7, _), (8, _), (12, _)] ?_ ⟨rfl, rfl, rfl, rfl, rfl, trivial⟩
    refine WP.leave ?_
    refine WP.next ?_
    refine WP.region [0, 1, 2] rfl ?_
    refine WP.val rfl rfl rfl rfl (Yld.move rfl rfl) ?_
    refine WP.val rfl rfl rfl rfl (Yld.sub64 rfl rfl rfl (by omega)) ?_
    refine WP.val rfl rfl rfl rfl (Yld.assign rfl rfl) ?_
    refine WP.nil ?_
    refine WP.sub [(0, _), (1, _), (7, _), (8, _), (12, _)] ?_ ⟨rfl, rfl, rfl, rfl, rfl, trivial⟩
    exact WP.again j (show j ≤ k by omega) (show j < j + 1 by omega) ⟨rfl, rfl, (congrArg (fun z : Int => some (Value.int .i64 z)) (by have q := at_next hl (show j < k by omega); omega)), (congrArg (fun z : Int => some (Value.int .i64 z)) (by omega)), trivial⟩ rfl (by (try dsimp only); repeat (first | exact Rm.chunk | exact Rm.here | exact Rm.nil0 | apply Rm.skip | apply Rm.skipS | apply PX.cons | (apply PX.done; (repeat (first | exact Leave.done | apply Leave.drop | apply Leave.dropS)); done) | apply PX.app))
  · obtain rfl : j = 0 := by omega
    rw [List.drop_zero]
    refine WP.nil ?_
    refine WP.sub [(0, _), (1, _), (7, _), (8, _), (12, _)] ?_ ⟨rfl, rfl, rfl, rfl, rfl, trivial⟩
    refine WP.next ?_
    refine WP.condF rfl ?_
    refine WP.exit ?_
    refine WP.thenE ?_
    refine WP.thenE ?_
    refine WP.hit ?_
    refine WP.next ?_
    refine WP.seq ?_
    refine WP.region [0, 1] rfl ?_
    refine WP.val rfl rfl rfl rfl (Yld.move rfl rfl) ?_
    refine WP.val rfl rfl rfl rfl (Yld.assign rfl rfl) ?_
    refine WP.nil ?_
    refine WP.sub [(0, _), (1, _), (6, _), (7, _), (8, _), (12, _)] ?_ ⟨rfl, rfl, rfl, rfl, rfl, rfl, trivial⟩
    refine WP.next ?_
    refine WP.ret ?_
    refine WP.fin .ret (.inr rfl) (res1 rfl rfl) [] (by repeat (first | exact Take.nil | with_reducible apply Take.cons | apply Take.app | exact Rm.chunk | exact Rm.here | exact Rm.nil0 | apply Rm.skip | apply Rm.skipS | (focus (apply Take.all; (repeat (first | exact Rm.chunk | exact Rm.here | exact Rm.nil0 | apply Rm.skip | apply Rm.skipS)); done)) | apply Take.cons)) (by repeat (first | exact Leave.done | apply Leave.drop | apply Leave.dropS)) (Imm.le_refl _) ?_
    exact ⟨rfl, rfl, rfl⟩

theorem ref_Decode_ok {I : Imm} {bs : List UInt8} {vb : Value} (hb : SlRd (fun b o => I.blk b = some o) vb bs.length 1 (bytesV bs)) (hbl : bs.length ≤ 1152921504606846976) (hm : (decF bs).may) : Spec Try.prog 12 [vb] I [] (fun v J L => v = .tuple #[.agg (spV ((decS bs).getD spZ)).toArray, .int .i64 (if (decS bs).isSome = true then 0 else 160)] ∧ L = []) := by
  refine Spec.of Try.func12 rfl Try.ntmps12 (Nat.le_of_ble_eq_true rfl) (fun F => ?_)
  try simp only [List.cons_append, List.nil_append, List.append_assoc]
  dsimp only [argsEnv]
  refine WP.seq ?_
  refine WP.region [0, 1] rfl ?_
  refine WP.loud rfl rfl ?_
  refine Op.alloc rfl rfl rfl ty_zr_23 (fun b2 => ?_)
  refine WP.val rfl rfl rfl rfl (Yld.assign rfl rfl) ?_
  refine WP.nil ?_
  refine WP.next ?_
  refine WP.seq ?_
  refine WP.seq ?_
  refine WP.region [0, 1, 2] rfl ?_
  refine WP.val rfl rfl rfl rfl (Yld.move rfl rfl) ?_
  refine WP.val rfl rfl rfl rfl (Yld.lenR hb rfl ty_sl_24 rfl) ?_
  refine WP.split rfl rfl rfl rfl (Yld.neq rfl rfl rfl) (fun hl => ?_) (fun hl => ?_)
  · refine WP.nil ?_
    refine WP.sub [(0, _), (2, _), (3, _), (9, _)] ?_ ⟨rfl, rfl, rfl, rfl, trivial⟩
    refine WP.next ?_
    refine WP.condT rfl ?_
    refine WP.seq ?_
    refine WP.region [0, 1, 2] rfl ?_
    refine WP.val rfl rfl rfl rfl (Yld.buildS (pl := []) rfl ty_zr_23 ty_zd_23 (by kernel_rfl) rfl (vs := []) rfl (segs := []) rfl rfl (by repeat (first | exact SetSeg.nil | apply SetSeg.one | exact SetAt.zero | apply SetAt.succ))) ?_
    refine WP.loud rfl rfl ?_
    refine Op.storeAll rfl rfl ty_sz_23 rfl rfl rfl rfl (by repeat (first | exact Upd.head | apply Upd.tail | apply Upd.tailS)) rfl ?_
    refine WP.val rfl rfl rfl rfl (Yld.assign rfl rfl) ?_
    refine WP.nil ?_
    refine WP.sub [(0, _), (2, _), (3, _), (9, _)] ?_ ⟨rfl, rfl, rfl, rfl, trivial⟩
    refine WP.next ?_
    refine WP.ret ?_
    refine WP.fin .ret (.inr rfl) (resT (rs := [.cell 2 23, .tmp 3]) (vs := [_, _]) rfl ⟨⟨_, _, _, _, rfl, (by repeat (first | exact There.h | exact There.i (by assumption) | apply There.t | apply There.s)), .inl ⟨ty_ag_23, by rfl, rfl⟩⟩, rfl, trivial⟩ rfl) [] (by repeat (first | exact Take.nil | with_reducible apply Take.cons | apply Take.app | exact Rm.chunk | exact Rm.here | exact Rm.nil0 | apply Rm.skip | apply Rm.skipS | (focus (apply Take.all; (repeat (first | exact Rm.chunk | exact Rm.here | exact Rm.nil0 | apply Rm.skip | apply Rm.skipS)); done)) | apply Take.cons)) (by repeat (first | exact Leave.done | apply Leave.drop | apply Leave.dropS)) (Imm.le_refl _) ?_
    exact ⟨by rw [decS_none (fun h => (by have := h.1; omega))]; rfl, rfl⟩
  · have hl : bs.length = 64 := by omega
    refine WP.nil ?_
    refine WP.sub [(0, _), (2, _), (3, _), (9, _)] ?_ ⟨rfl, rfl, rfl, rfl, trivial⟩
    refine WP.next ?_
    refine WP.condF rfl ?_
    refine WP.skip ?_
    refine WP.next ?_
    refine WP.seq ?_
    refine WP.region [0, 1, 2, 3, 4, 5, 6, 7, 8, 9, 10, 11, 12] rfl ?_
    refine WP.val rfl rfl rfl rfl (Yld.move rfl rfl) ?_
    refine WP.loud rfl rfl ?_
    refine Op.call (ref_at (l := 2) (k := 4) hb (by omega) (by decide) (by decide)) rfl Try.func35 rfl rfl rfl rfl (by repeat (first | exact Take.nil | with_reducible apply Take.cons | apply Take.app | exact Rm.chunk | exact Rm.here | exact Rm.nil0 | apply Rm.skip | apply Rm.skipS | (focus (apply Take.all; (repeat (first | exact Rm.chunk | exact Rm.here | exact Rm.nil0 | apply Rm.skip | apply Rm.skipS)); done)) | apply Take.cons)) ?_
    rintro v J L1 hJ ⟨rfl, rfl, rfl⟩
    clear hJ; try simp only [List.cons_append, List.nil_append, List.append_assoc]
    refine WP.val rfl rfl rfl rfl (Yld.move rfl rfl) ?_
    refine WP.loud rfl rfl ?_
    refine Op.call (ref_at (l := 6) (k := 6) hb (by omega) (by decide) (by decide)) rfl Try.func35 rfl rfl rfl rfl (by repeat (first | exact Take.nil | with_reducible apply Take.cons | apply Take.app | exact Rm.chunk | exact Rm.here | exact Rm.nil0 | apply Rm.skip | apply Rm.skipS | (focus (apply Take.all; (repeat (first | exact Rm.chunk | exact Rm.here | exact Rm.nil0 | apply Rm.skip | apply Rm.skipS)); done)) | apply Take.cons)) ?_
    rintro v J L1 hJ ⟨rfl, rfl, rfl⟩
    clear hJ; try simp only [List.cons_append, List.nil_append, List.append_assoc]
    refine WP.val rfl rfl rfl rfl (Yld.move rfl rfl) ?_
    refine WP.loud rfl rfl ?_
    refine Op.call (ref_at (l := 12) (k := 5) hb (by omega) (by decide) (by decide)) rfl Try.func35 rfl rfl rfl rfl (by repeat (first | exact Take.nil | with_reducible apply Take.cons | apply Take.app | exact Rm.chunk | exact Rm.here | exact Rm.nil0 | apply Rm.skip | apply Rm.skipS | (focus (apply Take.all; (repeat (first | exact Rm.chunk | exact Rm.here | exact Rm.nil0 | apply Rm.skip | apply Rm.skipS)); done)) | apply Take.cons)) ?_
    rintro v J L1 hJ ⟨rfl, rfl, rfl⟩
    clear hJ; try simp only [List.cons_append, List.nil_append, List.append_assoc]
    refine WP.val rfl rfl rfl rfl (Yld.move rfl rfl) ?_
    refine WP.loud rfl rfl ?_
    refine Op.call (ref_at (l := 17) (k := 4) hb (by omega) (by decide) (by decide)) rfl Try.func35 rfl rfl rfl rfl (by repeat (first | exact Take.nil | with_reducible apply Take.cons | apply Take.app | exact Rm.chunk | exact Rm.here | exact Rm.nil0 | apply Rm.skip | apply Rm.skipS | (focus (apply Take.all; (repeat (first | exact Rm.chunk | exact Rm.here | exact Rm.nil0 | apply Rm.skip | apply Rm.skipS)); done)) | apply Take.cons)) ?_
    rintro v J L1 hJ ⟨rfl, rfl, rfl⟩
    clear hJ; try simp only [List.cons_append, List.nil_append, List.append_assoc]
    refine WP.val rfl rfl rfl rfl (Yld.move rfl rfl) ?_
    refine WP.loud rfl rfl ?_
    refine Op.call (ref_at (l := 21) (k := 6) hb (by omega) (by decide) (by decide)) rfl Try.func35 rfl rfl rfl rfl (by repeat (first | exact Take.nil | with_reducible apply Take.cons | apply Take.app | exact Rm.chunk | exact Rm.here | exact Rm.nil0 | apply Rm.skip | apply Rm.skipS | (focus (apply Take.all; (repeat (first | exact Rm.chunk | exact Rm.here | exact Rm.nil0 | apply Rm.skip | apply Rm.skipS)); done)) | apply Take.cons)) ?_
    rintro v J L1 hJ ⟨rfl, rfl, rfl⟩
    clear hJ; try simp only [List.cons_append, List.nil_append, List.append_assoc]
    refine WP.val rfl rfl rfl rfl (Yld.buildS (pl := [(0, 0, 1), (1, 1, 1), (2, 2, 1), (3, 3, 1), (4, 4, 1)]) rfl ty_zr_23 ty_zd_23 (by kernel_rfl) rfl (vs := [_, _, _, _, _]) rfl (segs := [(0, [_]), (1, [_]), (2, [_]), (3, [_]), (4, [_])]) rfl rfl (by repeat (first | exact SetSeg.nil | apply SetSeg.one | exact SetAt.zero | apply SetAt.succ))) ?_
    refine WP.loud rfl rfl ?_
    refine Op.alloc rfl rfl rfl ty_zr_23 (fun b4 => ?_)
    refine WP.loud rfl rfl ?_
    refine Op.storeAll rfl rfl ty_sz_23 rfl rfl rfl rfl (by repeat (first | exact Upd.head | apply Upd.tail | apply Upd.tailS)) rfl ?_
    refine WP.nil ?_
    refine WP.sub [(0, _), (2, _), (3, _), (4, _), (9, _)] ?_ ⟨rfl, rfl, rfl, rfl, rfl, trivial⟩
    refine WP.next ?_
    refine WP.seq ?_
    refine WP.region [0, 1, 2, 3, 4, 5, 6] rfl ?_
    refine WP.val rfl rfl rfl rfl (Yld.loadAll rfl ty_ag_23 rfl (by repeat (first | exact There.h | exact There.i (by assumption) | apply There.t | apply There.s)) rfl) ?_
    refine WP.loud rfl rfl ?_
    refine Op.call (ref_Encode_ok (s := decF bs) hm) rfl Try.func10 rfl rfl rfl rfl (by repeat (first | exact Take.nil | with_reducible apply Take.cons | apply Take.app | exact Rm.chunk | exact Rm.here | exact Rm.nil0 | apply Rm.skip | apply Rm.skipS | (focus (apply Take.all; (repeat (first | exact Rm.chunk | exact Rm.here | exact Rm.nil0 | apply Rm.skip | apply Rm.skipS)); done)) | apply Take.cons)) ?_
    rintro v J2 Lo hJ2 ⟨v2, rfl, ho⟩
    try simp only [List.cons_append, List.nil_append, List.append_assoc]
    refine WP.val rfl rfl rfl rfl (Yld.move rfl rfl) ?_
    refine WP.val rfl rfl rfl rfl (Yld.extract rfl rfl rfl) ?_
    refine WP.val rfl rfl rfl rfl (Yld.extract rfl rfl rfl) ?_
    refine WP.val rfl rfl rfl rfl (Yld.assign rfl rfl) ?_
    refine WP.val rfl rfl rfl rfl (Yld.assign rfl rfl) ?_
    refine WP.nil ?_
    refine WP.sub [(0, _), (2, _), (3, _), (4, _), (5, _), (6, _), (9, _)] ?_ ⟨rfl, rfl, rfl, rfl, rfl, rfl, rfl, trivial⟩
    refine WP.next ?_
    refine WP.seq ?_
    refine WP.seq ?_
    refine WP.region [0, 1, 2, 3, 4, 5, 6, 7, 8] rfl ?_
    refine WP.val rfl rfl rfl rfl (Yld.move rfl rfl) ?_
    refine WP.val rfl rfl rfl rfl (Yld.neq rfl rfl rfl false (decide_eq_false (by omega))) ?_
    refine WP.val rfl rfl rfl rfl (Yld.move rfl rfl) ?_
    refine WP.valG rfl rfl rfl rfl rfl rfl rfl (Yld.move rfl rfl) ?_
    refine WP.valG rfl rfl rfl rfl rfl rfl rfl (Yld.str (e := 5) rfl (by kernel_rfl) (by kernel_rfl) (by kernel_rfl) rfl (ho.rd (by intro p hp; simp [hp]))) ?_
    refine WP.valG rfl rfl rfl rfl rfl rfl rfl (Yld.move rfl rfl) ?_
    refine WP.valG rfl rfl rfl rfl rfl rfl rfl (Yld.str (e := 5) rfl (by kernel_rfl) (by kernel_rfl) (by kernel_rfl) rfl (hb.mono (fun b o h => .inr (hJ2.2 b o h)))) ?_
    refine WP.valG rfl rfl rfl rfl rfl rfl rfl (Yld.neqStr rfl rfl rfl (decide (¬ enc (decF bs) = bs)) (by simp)) ?_
    by_cases hq : (decide (¬ enc (decF bs) = bs)) = true
    · rw [hq]
      refine WP.val rfl rfl rfl rfl (Yld.pickF rfl rfl rfl) ?_
      refine WP.nil ?_
      refine WP.sub [(0, _), (2, _), (3, _), (4, _), (5, _), (6, _), (9, _), (35, _)] ?_ ⟨rfl, rfl, rfl, rfl, rfl, rfl, rfl, rfl, trivial⟩
      refine WP.next ?_
      refine WP.condT rfl ?_
      refine WP.seq ?_
      refine WP.region [0, 1, 2] rfl ?_
      refine WP.val rfl rfl rfl rfl (Yld.buildS (pl := []) rfl ty_zr_23 ty_zd_23 (by kernel_rfl) rfl (vs := []) rfl (segs := []) rfl rfl (by repeat (first | exact SetSeg.nil | apply SetSeg.one | exact SetAt.zero | apply SetAt.succ))) ?_
      refine WP.loud rfl rfl ?_
      refine Op.storeAll rfl rfl ty_sz_23 rfl rfl rfl rfl (by repeat (first | exact Upd.head | apply Upd.tail | apply Upd.tailS)) rfl ?_
      refine WP.val rfl rfl rfl rfl (Yld.assign rfl rfl) ?_
      refine WP.nil ?_
      refine WP.sub [(0, _), (2, _), (3, _), (4, _), (5, _), (6, _), (9, _), (35, _)] ?_ ⟨rfl, rfl, rfl, rfl, rfl, rfl, rfl, rfl, trivial⟩
      refine WP.next ?_
      refine WP.ret ?_
      refine WP.fin .ret (.inr rfl) (resT (rs := [.cell 2 23, .tmp 3]) (vs := [_, _]) rfl ⟨⟨_, _, _, _, rfl, (by repeat (first | exact There.h | exact There.i (by assumption) | apply There.t | apply There.s)), .inl ⟨ty_ag_23, by rfl, rfl⟩⟩, rfl, trivial⟩ rfl) [] (by repeat (first | exact Take.nil | with_reducible apply Take.cons | apply Take.app | exact Rm.chunk | exact Rm.here | exact Rm.nil0 | apply Rm.skip | apply Rm.skipS | (focus (apply Take.all; (repeat (first | exact Rm.chunk | exact Rm.here | exact Rm.nil0 | apply Rm.skip | apply Rm.skipS)); done)) | apply Take.cons)) (by repeat (first | exact Leave.done | apply Leave.drop | apply Leave.dropS)) hJ2 ?_
      exact ⟨by rw [decS_none (fun h => (of_decide_eq_true hq) h.2.2)]; rfl, rfl⟩
    · have hq : (decide (¬ enc (decF bs) = bs)) = false := by simpa using hq
      rw [hq]
      refine WP.val rfl rfl rfl rfl (Yld.pickF rfl rfl rfl) ?_
      refine WP.nil ?_
      refine WP.sub [(0, _), (2, _), (3, _), (4, _), (5, _), (6, _), (9, _), (35, _)] ?_ ⟨rfl, rfl, rfl, rfl, rfl, rfl, rfl, rfl, trivial⟩
      refine WP.next ?_
      refine WP.condF rfl ?_
      refine WP.skip ?_
      refine WP.next ?_
      refine WP.seq ?_
      refine WP.region [0, 1, 2] rfl ?_
      refine WP.val rfl rfl rfl rfl (Yld.loadAll rfl ty_ag_23 rfl (by repeat (first | exact There.h | exact There.i (by assumption) | apply There.t | apply There.s)) rfl) ?_
      refine WP.loud rfl rfl ?_
      refine Op.storeAll rfl rfl ty_sz_23 rfl rfl rfl rfl (by repeat (first | exact Upd.head | apply Upd.tail | apply Upd.tailS)) rfl ?_
      refine WP.val rfl rfl rfl rfl (Yld.assign rfl rfl) ?_
      refine WP.nil ?_
      refine WP.sub [(0, _), (2, _), (3, _), (4, _), (5, _), (6, _), (9, _), (35, _)] ?_ ⟨rfl, rfl, rfl, rfl, rfl, rfl, rfl, rfl, trivial⟩
      refine WP.next ?_
      refine WP.ret ?_
      refine WP.fin .ret (.inr rfl) (resT (rs := [.cell 2 23, .tmp 3]) (vs := [_, _]) rfl ⟨⟨_, _, _, _, rfl, (by repeat (first | exact There.h | exact There.i (by assumption) | apply There.t | apply There.s)), .inl ⟨ty_ag_23, by rfl, rfl⟩⟩, rfl, trivial⟩ rfl) [] (by repeat (first | exact Take.nil | with_reducible apply Take.cons | apply Take.app | exact Rm.chunk | exact Rm.here | exact Rm.nil0 | apply Rm.skip | apply Rm.skipS | (focus (apply Take.all; (repeat (first | exact Rm.chunk | exact Rm.here | exact Rm.nil0 | apply Rm.skip | apply Rm.skipS)); done)) | apply Take.cons)) (by repeat (first | exact Leave.done | apply Leave.drop | apply Leave.dropS)) hJ2 ?_
      exact ⟨by rw [decS_some ⟨hl, hm, Decidable.not_not.1 (of_decide_eq_false hq)⟩]; rfl, rfl⟩

theorem ref_Decode_bad {I : Imm} {bs : List UInt8} {vb : Value} (hb : SlRd (fun b o => I.blk b = some o) vb bs.length 1 (bytesV bs)) (hbl : bs.length ≤ 1152921504606846976) (hm : ¬ (decF bs).may) : Spec Try.prog 12 [vb] I [] (fun v J L => v = .tuple #[.agg (spV ((decS bs).getD spZ)).toArray, .int .i64 (if (decS bs).isSome = true then 0 else 160)] ∧ L = []) := by
  refine Spec.of Try.func12 rfl Try.ntmps12 (Nat.le_of_ble_eq_true rfl) (fun F => ?_)
  try simp only [List.cons_append, List.nil_append, List.append_assoc]
  dsimp only [argsEnv]
  refine WP.seq ?_
  refine WP.region [0, 1] rfl ?_
  refine WP.loud rfl rfl ?_
  refine Op.alloc rfl rfl rfl ty_zr_23 (fun b2 => ?_)
  refine WP.val rfl rfl rfl rfl (Yld.assign rfl rfl) ?_
  refine WP.nil ?_
  refine WP.next ?_
  refine WP.seq ?_
  refine WP.seq ?_
  refine WP.region [0, 1, 2] rfl ?_
  refine WP.val rfl rfl rfl rfl (Yld.move rfl rfl) ?_
  refine WP.val rfl rfl rfl rfl (Yld.lenR hb rfl ty_sl_24 rfl) ?_
  refine WP.split rfl rfl rfl rfl (Yld.neq rfl rfl rfl) (fun hl => ?_) (fun hl => ?_)
  · refine WP.nil ?_
    refine WP.sub [(0, _), (2, _), (3, _), (9, _)] ?_ ⟨rfl, rfl, rfl, rfl, trivial⟩
    refine WP.next ?_
    refine WP.condT rfl ?_
    refine WP.seq ?_
    refine WP.region [0, 1, 2] rfl ?_
    refine WP.val rfl rfl rfl rfl (Yld.buildS (pl := []) rfl ty_zr_23 ty_zd_23 (by kernel_rfl) rfl (vs := []) rfl (segs := []) rfl rfl (by repeat (first | exact SetSeg.nil | apply SetSeg.one | exact SetAt.zero | apply SetAt.succ))) ?_
    refine WP.loud rfl rfl ?_
    refine Op.storeAll rfl rfl ty_sz_23 rfl rfl rfl rfl (by repeat (first | exact Upd.head | apply Upd.tail | apply Upd.tailS)) rfl ?_
    refine WP.val rfl rfl rfl rfl (Yld.assign rfl rfl) ?_
    refine WP.nil ?_
    refine WP.sub [(0, _), (2, _), (3, _), (9, _)] ?_ ⟨rfl, rfl, rfl, rfl, trivial⟩
    refine WP.next ?_
    refine WP.ret ?_
    refine WP.fin .ret (.inr rfl) (resT (rs := [.cell 2 23, .tmp 3]) (vs := [_, _]) rfl ⟨⟨_, _, _, _, rfl, (by repeat (first | exact There.h | exact There.i (by assumption) | apply There.t | apply There.s)), .inl ⟨ty_ag_23, by rfl, rfl⟩⟩, rfl, trivial⟩ rfl) [] (by repeat (first | exact Take.nil | with_reducible apply Take.cons | apply Take.app | exact Rm.chunk | exact Rm.here | exact Rm.nil0 | apply Rm.skip | apply Rm.skipS | (focus (apply Take.all; (repeat (first | exact Rm.chunk | exact Rm.here | exact Rm.nil0 | apply Rm.skip | apply Rm.skipS)); done)) | apply Take.cons)) (by repeat (first | exact Leave.done | apply Leave.drop | apply Leave.dropS)) (Imm.le_refl _) ?_
    exact ⟨by rw [decS_none (fun h => (by have := h.1; omega))]; rfl, rfl⟩
  · have hl : bs.length = 64 := by omega
    refine WP.nil ?_
    refine WP.sub [(0, _), (2, _), (3, _), (9, _)] ?_ ⟨rfl, rfl, rfl, rfl, trivial⟩
    refine WP.next ?_
    refine WP.condF rfl ?_
    refine WP.skip ?_
    refine WP.next ?_
    refine WP.seq ?_
    refine WP.region [0, 1, 2, 3, 4, 5, 6, 7, 8, 9, 10, 11, 12] rfl ?_
    refine WP.val rfl rfl rfl rfl (Yld.move rfl rfl) ?_
    refine WP.loud rfl rfl ?_
    refine Op.call (ref_at (l := 2) (k := 4) hb (by omega) (by decide) (by decide)) rfl Try.func35 rfl rfl rfl rfl (by repeat (first | exact Take.nil | with_reducible apply Take.cons | apply Take.app | exact Rm.chunk | exact Rm.here | exact Rm.nil0 | apply Rm.skip | apply Rm.skipS | (focus (apply Take.all; (repeat (first | exact Rm.chunk | exact Rm.here | exact Rm.nil0 | apply Rm.skip | apply Rm.skipS)); done)) | apply Take.cons)) ?_
    rintro v J L1 hJ ⟨rfl, rfl, rfl⟩
    clear hJ; try simp only [List.cons_append, List.nil_append, List.append_assoc]
    refine WP.val rfl rfl rfl rfl (Yld.move rfl rfl) ?_
    refine WP.loud rfl rfl ?_
    refine Op.call (ref_at (l := 6) (k := 6) hb (by omega) (by decide) (by decide)) rfl Try.func35 rfl rfl rfl rfl (by repeat (first | exact Take.nil | with_reducible apply Take.cons | apply Take.app | exact Rm.chunk | exact Rm.here | exact Rm.nil0 | apply Rm.skip | apply Rm.skipS | (focus (apply Take.all; (repeat (first | exact Rm.chunk | exact Rm.here | exact Rm.nil0 | apply Rm.skip | apply Rm.skipS)); done)) | apply Take.cons)) ?_
    rintro v J L1 hJ ⟨rfl, rfl, rfl⟩
    clear hJ; try simp only [List.cons_append, List.nil_append, List.append_assoc]
    refine WP.val rfl rfl rfl rfl (Yld.move rfl rfl) ?_
    refine WP.loud rfl rfl ?_
    refine Op.call (ref_at (l := 12) (k := 5) hb (by omega) (by decide) (by decide)) rfl Try.func35 rfl rfl rfl rfl (by repeat (first | exact Take.nil | with_reducible apply Take.cons | apply Take.app | exact Rm.chunk | exact Rm.here | exact Rm.nil0 | apply Rm.skip | apply Rm.skipS | (focus (apply Take.all; (repeat (first | exact Rm.chunk | exact Rm.here | exact Rm.nil0 | apply Rm.skip | apply Rm.skipS)); done)) | apply Take.cons)) ?_
    rintro v J L1 hJ ⟨rfl, rfl, rfl⟩
    clear hJ; try simp only [List.cons_append, List.nil_append, List.append_assoc]
    refine WP.val rfl rfl rfl rfl (Yld.move rfl rfl) ?_
    refine WP.loud rfl rfl ?_
    refine Op.call (ref_at (l := 17) (k := 4) hb (by omega) (by decide) (by decide)) rfl Try.func35 rfl rfl rfl rfl (by repeat (first | exact Take.nil | with_reducible apply Take.cons | apply Take.app | exact Rm.chunk | exact Rm.here | exact Rm.nil0 | apply Rm.skip | apply Rm.skipS | (focus (apply Take.all; (repeat (first | exact Rm.chunk | exact Rm.here | exact Rm.nil0 | apply Rm.skip | apply Rm.skipS)); done)) | apply Take.cons)) ?_
    rintro v J L1 hJ ⟨rfl, rfl, rfl⟩
    clear hJ; try simp only [List.cons_append, List.nil_append, List.append_assoc]
    refine WP.val rfl rfl rfl rfl (Yld.move rfl rfl) ?_
    refine WP.loud rfl rfl ?_
    refine Op.call (ref_at (l := 21) (k := 6) hb (by omega) (by decide) (by decide)) rfl Try.func35 rfl rfl rfl rfl (by repeat (first | exact Take.nil | with_reducible apply Take.cons | apply Take.app | exact Rm.chunk | exact Rm.here | exact Rm.nil0 | apply Rm.skip | apply Rm.skipS | (focus (apply Take.all; (repeat (first | exact Rm.chunk | exact Rm.here | exact Rm.nil0 | apply Rm.skip | apply Rm.skipS)); done)) | apply Take.cons)) ?_
    rintro v J L1 hJ ⟨rfl, rfl, rfl⟩
    clear hJ; try simp only [List.cons_append, List.nil_append, List.append_assoc]
    refine WP.val rfl rfl rfl rfl (Yld.buildS (pl := [(0, 0, 1), (1, 1, 1), (2, 2, 1), (3, 3, 1), (4, 4, 1)]) rfl ty_zr_23 ty_zd_23 (by kernel_rfl) rfl (vs := [_, _, _, _, _]) rfl (segs := [(0, [_]), (1, [_]), (2, [_]), (3, [_]), (4, [_])]) rfl rfl (by repeat (first | exact SetSeg.nil | apply SetSeg.one | exact SetAt.zero | apply SetAt.succ))) ?_
    refine WP.loud rfl rfl ?_
    refine Op.alloc rfl rfl rfl ty_zr_23 (fun b4 => ?_)
    refine WP.loud rfl rfl ?_
    refine Op.storeAll rfl rfl ty_sz_23 rfl rfl rfl rfl (by repeat (first | exact Upd.head | apply Upd.tail | apply Upd.tailS)) rfl ?_
    refine WP.nil ?_
    refine WP.sub [(0, _), (2, _), (3, _), (4, _), (9, _)] ?_ ⟨rfl, rfl, rfl, rfl, rfl, trivial⟩
    refine WP.next ?_
    refine WP.seq ?_
    refine WP.region [0, 1, 2, 3, 4, 5, 6] rfl ?_
    refine WP.val rfl rfl rfl rfl (Yld.loadAll rfl ty_ag_23 rfl (by repeat (first | exact There.h | exact There.i (by assumption) | apply There.t | apply There.s)) rfl) ?_
    refine WP.loud rfl rfl ?_
    refine Op.call (ref_Encode_bad (s := decF bs) hm) rfl Try.func10 rfl rfl rfl rfl (by repeat (first | exact Take.nil | with_reducible apply Take.cons | apply Take.app | exact Rm.chunk | exact Rm.here | exact Rm.nil0 | apply Rm.skip | apply Rm.skipS | (focus (apply Take.all; (repeat (first | exact Rm.chunk | exact Rm.here | exact Rm.nil0 | apply Rm.skip | apply Rm.skipS)); done)) | apply Take.cons)) ?_
    rintro v J L1 hJ ⟨rfl, rfl, rfl⟩
    clear hJ; try simp only [List.cons_append, List.nil_append, List.append_assoc]
    refine WP.val rfl rfl rfl rfl (Yld.move rfl rfl) ?_
    refine WP.val rfl rfl rfl rfl (Yld.extract rfl rfl rfl) ?_
    refine WP.val rfl rfl rfl rfl (Yld.extract rfl rfl rfl) ?_
    refine WP.val rfl rfl rfl rfl (Yld.assign rfl rfl) ?_
    refine WP.val rfl rfl rfl rfl (Yld.assign rfl rfl) ?_
    refine WP.nil ?_
    refine WP.sub [(0, _), (2, _), (3, _), (4, _), (5, _), (6, _), (9, _)] ?_ ⟨rfl, rfl, rfl, rfl, rfl, rfl, rfl, trivial⟩
    refine WP.next ?_
    refine WP.seq ?_
    refine WP.seq ?_
    refine WP.region [0, 1, 2, 3, 4, 5, 6, 7, 8] rfl ?_
    refine WP.val rfl rfl rfl rfl (Yld.move rfl rfl) ?_
    refine WP.val rfl rfl rfl rfl (Yld.neq rfl rfl rfl true (decide_eq_true (by omega))) ?_
    refine WP.val rfl rfl rfl rfl (Yld.move rfl rfl) ?_
    refine WP.passG rfl rfl rfl rfl rfl rfl rfl rfl ?_
    refine WP.passG rfl rfl rfl rfl rfl rfl rfl rfl ?_
    refine WP.passG rfl rfl rfl rfl rfl rfl rfl rfl ?_
    refine WP.passG rfl rfl rfl rfl rfl rfl rfl rfl ?_
    refine WP.passG rfl rfl rfl rfl rfl rfl rfl rfl ?_
    refine WP.val rfl rfl rfl rfl (Yld.pickT rfl rfl rfl) ?_
    refine WP.nil ?_
    refine WP.sub [(0, _), (2, _), (3, _), (4, _), (5, _), (6, _), (9, _), (35, _)] ?_ ⟨rfl, rfl, rfl, rfl, rfl, rfl, rfl, rfl, trivial⟩
    refine WP.next ?_
    refine WP.condT rfl ?_
    refine WP.seq ?_
    refine WP.region [0, 1, 2] rfl ?_
    refine WP.val rfl rfl rfl rfl (Yld.buildS (pl := []) rfl ty_zr_23 ty_zd_23 (by kernel_rfl) rfl (vs := []) rfl (segs := []) rfl rfl (by repeat (first | exact SetSeg.nil | apply SetSeg.one | exact SetAt.zero | apply SetAt.succ))) ?_
    refine WP.loud rfl rfl ?_
    refine Op.storeAll rfl rfl ty_sz_23 rfl rfl rfl rfl (by repeat (first | exact Upd.head | apply Upd.tail | apply Upd.tailS)) rfl ?_
    refine WP.val rfl rfl rfl rfl (Yld.assign rfl rfl) ?_
    refine WP.nil ?_
    refine WP.sub [(0, _), (2, _), (3, _), (4, _), (5, _), (6, _), (9, _), (35, _)] ?_ ⟨rfl, rfl, rfl, rfl, rfl, rfl, rfl, rfl, trivial⟩
    refine WP.next ?_
    refine WP.ret ?_
    refine WP.fin .ret (.inr rfl) (resT (rs := [.cell 2 23, .tmp 3]) (vs := [_, _]) rfl ⟨⟨_, _, _, _, rfl, (by repeat (first | exact There.h | exact There.i (by assumption) | apply There.t | apply There.s)), .inl ⟨ty_ag_23, by rfl, rfl⟩⟩, rfl, trivial⟩ rfl) [] (by repeat (first | exact Take.nil | with_reducible apply Take.cons | apply Take.app | exact Rm.chunk | exact Rm.here | exact Rm.nil0 | apply Rm.skip | apply Rm.skipS | (focus (apply Take.all; (repeat (first | exact Rm.chunk | exact Rm.here | exact Rm.nil0 | apply Rm.skip | apply Rm.skipS)); done)) | apply Take.cons)) (by repeat (first | exact Leave.done | apply Leave.drop | apply Leave.dropS)) (Imm.le_refl _) ?_
    exact ⟨by rw [decS_none (fun h => hm h.2.1)]; rfl, rfl⟩


theorem ref_Decode {I : Imm} {bs : List UInt8} {vb : Value} (hb : SlRd (fun b o => I.blk b = some o) vb bs.length 1 (bytesV bs)) (hbl : bs.length ≤ 1152921504606846976) : Spec Try.prog 12 [vb] I [] (fun v J L => v = .tuple #[.agg (spV ((decS bs).getD spZ)).toArray, .int .i64 (if (decS bs).isSome = true then 0 else 160)] ∧ L = []) := by
  by_cases hm : (decF bs).may
  · exact ref_Decode_ok hb hbl hm
  · exact ref_Decode_bad hb hbl hm
theorem super_Forms_ok {I : Imm} {bs : List UInt8} {vb : Value} {s : Sp} (hb : SlRd (fun b o => I.blk b = some o) vb bs.length 1 (bytesV bs)) (hbl : bs.length ≤ 140737488351232) (hm : s.may) : Spec Try.prog 3 [.agg (spV s).toArray, vb] I [] (fun v J L => v = .bool true ∧ L = []) := by
  refine Spec.of Try.func3 rfl Try.ntmps3 (Nat.le_of_ble_eq_true rfl) (fun F => ?_)
  try simp only [List.cons_append, List.nil_append, List.append_assoc]
  dsimp only [argsEnv]
  refine WP.seq ?_
  refine WP.region [0, 1] rfl ?_
  refine WP.loud rfl rfl ?_
  refine Op.box rfl rfl rfl rfl rfl (fun b2 => ?_)
  refine WP.val rfl rfl rfl rfl (Yld.assign rfl rfl) ?_
  refine WP.nil ?_
  refine WP.next ?_
  refine WP.seq ?_
  refine WP.region [0, 1] rfl ?_
  refine WP.loud rfl rfl ?_
  refine Op.call super_awake rfl Try.func8 rfl rfl rfl rfl (by repeat (first | exact Take.nil | with_reducible apply Take.cons | apply Take.app | exact Rm.chunk | exact Rm.here | exact Rm.nil0 | apply Rm.skip | apply Rm.skipS | (focus (apply Take.all; (repeat (first | exact Rm.chunk | exact Rm.here | exact Rm.nil0 | apply Rm.skip | apply Rm.skipS)); done)) | apply Take.cons)) ?_
  rintro v Ja L1 hJa ⟨rfl, rfl⟩
  try simp only [List.cons_append, List.nil_append, List.append_assoc]
  have hb := hb.mono (fun b o h => hJa.2 b o h)
  refine WP.val rfl rfl rfl rfl (Yld.assign rfl rfl) ?_
  refine WP.nil ?_
  refine WP.sub [(0, _), (1, _), (2, _), (4, _), (5, _)] ?_ ⟨rfl, rfl, rfl, rfl, rfl, trivial⟩
  refine WP.next ?_
  refine WP.seq ?_
  refine WP.region [0, 1, 2, 3, 4, 5, 6] rfl ?_
  refine WP.val rfl rfl rfl rfl (Yld.loadAll rfl ty_ag_23 rfl (by repeat (first | exact There.h | exact There.i (by assumption) | apply There.t | apply There.s)) rfl) ?_
  refine WP.loud rfl rfl ?_
  refine Op.call (super_Encode_ok hm) rfl Try.func9 rfl rfl rfl rfl (by repeat (first | exact Take.nil | with_reducible apply Take.cons | apply Take.app | exact Rm.chunk | exact Rm.here | exact Rm.nil0 | apply Rm.skip | apply Rm.skipS | (focus (apply Take.all; (repeat (first | exact Rm.chunk | exact Rm.here | exact Rm.nil0 | apply Rm.skip | apply Rm.skipS)); done)) | apply Take.cons)) ?_
  rintro v J1 L1 hJ1 ⟨bx, vx, rfl, hvx, rfl⟩
  try simp only [List.cons_append, List.nil_append, List.append_assoc]
  refine WP.share (fun J2 hJ2 hbx => ?_)
  have hx : SlRd (fun b o => J2.blk b = some o) vx (enc s).length 1 (bytesV (enc s)) := by have q := hvx.rdB (V := fun b o => J2.blk b = some o) (l := enc s) hbx (by rw [enc_len]; exact Nat.le_refl _); rw [enc_len]; simpa [List.take_of_length_le (show (enc s).length ≤ 64 by rw [enc_len]; exact Nat.le_refl _)] using q
  have hb := hb.mono (fun b o h => hJ1.2 b o h)
  have hb := hb.mono (fun b o h => hJ2.2 b o h)
  refine WP.val rfl rfl rfl rfl (Yld.move rfl rfl) ?_
  refine WP.val rfl rfl rfl rfl (Yld.extract rfl rfl rfl) ?_
  refine WP.val rfl rfl rfl rfl (Yld.extract rfl rfl rfl) ?_
  refine WP.val rfl rfl rfl rfl (Yld.assign rfl rfl) ?_
  refine WP.val rfl rfl rfl rfl (Yld.assign rfl rfl) ?_
  refine WP.nil ?_
  refine WP.sub [(0, _), (1, _), (2, _), (4, _), (5, _), (6, _), (7, _)] ?_ ⟨rfl, rfl, rfl, rfl, rfl, rfl, rfl, trivial⟩
  refine WP.next ?_
  refine WP.seq ?_
  refine WP.region [0, 1, 2, 3, 4, 5, 6] rfl ?_
  refine WP.val rfl rfl rfl rfl (Yld.loadAll rfl ty_ag_23 rfl (by repeat (first | exact There.h | exact There.i (by assumption) | apply There.t | apply There.s)) rfl) ?_
  refine WP.loud rfl rfl ?_
  refine Op.call (ref_Encode_ok (s := s) hm) rfl Try.func10 rfl rfl rfl rfl (by repeat (first | exact Take.nil | with_reducible apply Take.cons | apply Take.app | exact Rm.chunk | exact Rm.here | exact Rm.nil0 | apply Rm.skip | apply Rm.skipS | (focus (apply Take.all; (repeat (first | exact Rm.chunk | exact Rm.here | exact Rm.nil0 | apply Rm.skip | apply Rm.skipS)); done)) | apply Take.cons)) ?_
  rintro v J3 Ly hJ3 ⟨vy, rfl, hy⟩
  try simp only [List.cons_append, List.nil_append, List.append_assoc]
  have hb := hb.mono (fun b o h => hJ3.2 b o h)
  have hx := hx.mono (fun b o h => hJ3.2 b o h)
  refine WP.val rfl rfl rfl rfl (Yld.move rfl rfl) ?_
  refine WP.val rfl rfl rfl rfl (Yld.extract rfl rfl rfl) ?_
  refine WP.val rfl rfl rfl rfl (Yld.extract rfl rfl rfl) ?_
  refine WP.val rfl rfl rfl rfl (Yld.assign rfl rfl) ?_
  refine WP.val rfl rfl rfl rfl (Yld.assign rfl rfl) ?_
  refine WP.nil ?_
  refine WP.sub [(0, _), (1, _), (2, _), (4, _), (5, _), (6, _), (7, _), (8, _), (9, _)] ?_ ⟨rfl, rfl, rfl, rfl, rfl, rfl, rfl, rfl, rfl, trivial⟩
  refine WP.next ?_
  refine WP.seq ?_
  refine WP.region [0, 1, 2] rfl ?_
  refine WP.val rfl rfl rfl rfl (Yld.move rfl rfl) ?_
  refine WP.loud rfl rfl ?_
  refine Op.append rfl ty_sl_24 ty_el_24 rfl rfl rfl rfl rfl .none0 (hb.mono (fun b o h => There.i h)) (by repeat (first | exact Take.nil | with_reducible apply Take.cons | apply Take.app | exact Rm.chunk | exact Rm.here | exact Rm.nil0 | apply Rm.skip | apply Rm.skipS | (focus (apply Take.all; (repeat (first | exact Rm.chunk | exact Rm.here | exact Rm.nil0 | apply Rm.skip | apply Rm.skipS)); done)) | apply Take.cons)) (bytesV_one _) (by omega) (by omega) (fun vp Lp hp => ?_)
  rw [List.nil_append, Nat.zero_add] at hp
  try simp only [List.cons_append, List.nil_append, List.append_assoc]
  refine WP.val rfl rfl rfl rfl (Yld.assign rfl rfl) ?_
  refine WP.nil ?_
  refine WP.sub [(0, _), (1, _), (2, _), (4, _), (5, _), (6, _), (7, _), (8, _), (9, _), (10, _)] ?_ ⟨rfl, rfl, rfl, rfl, rfl, rfl, rfl, rfl, rfl, rfl, trivial⟩
  refine WP.shareOwn hp (by repeat (first | exact Take.nil | with_reducible apply Take.cons | apply Take.app | exact Rm.chunk | exact Rm.here | exact Rm.nil0 | apply Rm.skip | apply Rm.skipS | (focus (apply Take.all; (repeat (first | exact Rm.chunk | exact Rm.here | exact Rm.nil0 | apply Rm.skip | apply Rm.skipS)); done)) | apply Take.cons)) (fun J4 hJ4 hq => ?_)
  have hb := hb.mono (fun b o h => hJ4.2 b o h)
  have hx := hx.mono (fun b o h => hJ4.2 b o h)
  refine WP.next ?_
  refine WP.seq ?_
  refine WP.region [0, 1, 2, 3, 4, 5, 6, 7] rfl ?_
  refine WP.val rfl rfl rfl rfl (Yld.move rfl rfl) ?_
  refine WP.loud rfl rfl ?_
  refine Op.call (super_Decode hq (by omega)) rfl Try.func11 rfl rfl rfl rfl (by repeat (first | exact Take.nil | with_reducible apply Take.cons | apply Take.app | exact Rm.chunk | exact Rm.here | exact Rm.nil0 | apply Rm.skip | apply Rm.skipS | (focus (apply Take.all; (repeat (first | exact Rm.chunk | exact Rm.here | exact Rm.nil0 | apply Rm.skip | apply Rm.skipS)); done)) | apply Take.cons)) ?_
  rintro v J5 L1 hJ5 ⟨rfl, rfl⟩
  try simp only [List.cons_append, List.nil_append, List.append_assoc]
  have hb := hb.mono (fun b o h => hJ5.2 b o h)
  have hx := hx.mono (fun b o h => hJ5.2 b o h)
  have hq := hq.mono (fun b o h => hJ5.2 b o h)
  refine WP.val rfl rfl rfl rfl (Yld.move rfl rfl) ?_
  refine WP.val rfl rfl rfl rfl (Yld.extract rfl rfl rfl) ?_
  refine WP.val rfl rfl rfl rfl (Yld.extract rfl rfl rfl) ?_
  refine WP.loud rfl rfl ?_
  refine Op.alloc rfl rfl rfl ty_zr_23 (fun b11 => ?_)
  refine WP.loud rfl rfl ?_
  refine Op.storeAll rfl rfl ty_sz_23 rfl rfl rfl rfl (by repeat (first | exact Upd.head | apply Upd.tail | apply Upd.tailS)) rfl ?_
  refine WP.val rfl rfl rfl rfl (Yld.assign rfl rfl) ?_
  refine WP.nil ?_
  refine WP.sub [(0, _), (1, _), (2, _), (4, _), (5, _), (6, _), (7, _), (8, _), (9, _), (10, _), (11, _), (12, _)] ?_ ⟨rfl, rfl, rfl, rfl, rfl, rfl, rfl, rfl, rfl, rfl, rfl, rfl, trivial⟩
  refine WP.next ?_
  refine WP.seq ?_
  refine WP.region [0, 1, 2, 3, 4, 5, 6, 7] rfl ?_
  refine WP.val rfl rfl rfl rfl (Yld.move rfl rfl) ?_
  refine WP.loud rfl rfl ?_
  refine Op.call (ref_Decode hb (by omega)) rfl Try.func12 rfl rfl rfl rfl (by repeat (first | exact Take.nil | with_reducible apply Take.cons | apply Take.app | exact Rm.chunk | exact Rm.here | exact Rm.nil0 | apply Rm.skip | apply Rm.skipS | (focus (apply Take.all; (repeat (first | exact Rm.chunk | exact Rm.here | exact Rm.nil0 | apply Rm.skip | apply Rm.skipS)); done)) | apply Take.cons)) ?_
  rintro v J6 L1 hJ6 ⟨rfl, rfl⟩
  try simp only [List.cons_append, List.nil_append, List.append_assoc]
  have hb := hb.mono (fun b o h => hJ6.2 b o h)
  have hx := hx.mono (fun b o h => hJ6.2 b o h)
  have hq := hq.mono (fun b o h => hJ6.2 b o h)
  refine WP.val rfl rfl rfl rfl (Yld.move rfl rfl) ?_
  refine WP.val rfl rfl rfl rfl (Yld.extract rfl rfl rfl) ?_
  refine WP.val rfl rfl rfl rfl (Yld.extract rfl rfl rfl) ?_
  refine WP.loud rfl rfl ?_
  refine Op.alloc rfl rfl rfl ty_zr_23 (fun b13 => ?_)
  refine WP.loud rfl rfl ?_
  refine Op.storeAll rfl rfl ty_sz_23 rfl rfl rfl rfl (by repeat (first | exact Upd.head | apply Upd.tail | apply Upd.tailS)) rfl ?_
  refine WP.val rfl rfl rfl rfl (Yld.assign rfl rfl) ?_
  refine WP.nil ?_
  refine WP.sub [(0, _), (1, _), (2, _), (4, _), (5, _), (6, _), (7, _), (8, _), (9, _), (10, _), (11, _), (12, _), (13, _), (14, _)] ?_ ⟨rfl, rfl, rfl, rfl, rfl, rfl, rfl, rfl, rfl, rfl, rfl, rfl, rfl, rfl, trivial⟩
  refine WP.next ?_
  refine WP.seq ?_
  refine WP.region [0, 1, 2, 3, 4, 5, 6, 7] rfl ?_
  refine WP.val rfl rfl rfl rfl (Yld.move rfl rfl) ?_
  refine WP.loud rfl rfl ?_
  refine Op.call (super_Decode hx (by rw [enc_len]; decide)) rfl Try.func11 rfl rfl rfl rfl (by repeat (first | exact Take.nil | with_reducible apply Take.cons | apply Take.app | exact Rm.chunk | exact Rm.here | exact Rm.nil0 | apply Rm.skip | apply Rm.skipS | (focus (apply Take.all; (repeat (first | exact Rm.chunk | exact Rm.here | exact Rm.nil0 | apply Rm.skip | apply Rm.skipS)); done)) | apply Take.cons)) ?_
  rintro v J7 L1 hJ7 ⟨rfl, rfl⟩
  try simp only [List.cons_append, List.nil_append, List.append_assoc]
  have hb := hb.mono (fun b o h => hJ7.2 b o h)
  have hx := hx.mono (fun b o h => hJ7.2 b o h)
  have hq := hq.mono (fun b o h => hJ7.2 b o h)
  rw [dec_enc hm]
  refine WP.val rfl rfl rfl rfl (Yld.move rfl rfl) ?_
  refine WP.val rfl rfl rfl rfl (Yld.extract rfl rfl rfl) ?_
  refine WP.val rfl rfl rfl rfl (Yld.extract rfl rfl rfl) ?_
  refine WP.loud rfl rfl ?_
  refine Op.alloc rfl rfl rfl ty_zr_23 (fun b15 => ?_)
  refine WP.loud rfl rfl ?_
  refine Op.storeAll rfl rfl ty_sz_23 rfl rfl rfl rfl (by repeat (first | exact Upd.head | apply Upd.tail | apply Upd.tailS)) rfl ?_
  refine WP.val rfl rfl rfl rfl (Yld.assign rfl rfl) ?_
  refine WP.nil ?_
  refine WP.sub [(0, _), (1, _), (2, _), (4, _), (5, _), (6, _), (7, _), (8, _), (9, _), (10, _), (11, _), (12, _), (13, _), (14, _), (15, _), (16, _)] ?_ ⟨rfl, rfl, rfl, rfl, rfl, rfl, rfl, rfl, rfl, rfl, rfl, rfl, rfl, rfl, rfl, rfl, trivial⟩
  refine WP.next ?_
  refine WP.seq ?_
  refine WP.seq ?_
  refine WP.region [0, 1, 2, 3, 4, 5, 6, 7, 8, 9, 10] rfl ?_
  refine WP.val rfl rfl rfl rfl (Yld.move rfl rfl) ?_
  refine WP.val rfl rfl rfl rfl (Yld.eql rfl rfl rfl true (decide_eq_true (by omega))) ?_
  refine WP.val rfl rfl rfl rfl (Yld.move rfl rfl) ?_
  refine WP.valG rfl rfl rfl rfl rfl rfl rfl (Yld.move rfl rfl) ?_
  refine WP.valG rfl rfl rfl rfl rfl rfl rfl (Yld.neq rfl rfl rfl false (decide_eq_false (by simp))) ?_
  refine WP.valG rfl rfl rfl rfl rfl rfl rfl (Yld.move rfl rfl) ?_
  refine WP.valG rfl rfl rfl rfl rfl rfl rfl (Yld.loadAll rfl ty_ag_23 rfl (by repeat (first | exact There.h | exact There.i (by assumption) | apply There.t | apply There.s)) rfl) ?_
  refine WP.valG rfl rfl rfl rfl rfl rfl rfl (Yld.loadAll rfl ty_ag_23 rfl (by repeat (first | exact There.h | exact There.i (by assumption) | apply There.t | apply There.s)) rfl) ?_
  refine WP.valG rfl rfl rfl rfl rfl rfl rfl (Yld.neqInts (m := 5) (us := ((some s).getD spZ).ints) (vs := s.ints) rfl (by kernel_rfl) rfl rfl rfl rfl false (by simp)) ?_
  refine WP.valG rfl rfl rfl rfl rfl rfl rfl (Yld.pickF rfl rfl rfl) ?_
  refine WP.val rfl rfl rfl rfl (Yld.pickT rfl rfl rfl) ?_
  refine WP.nil ?_
  refine WP.sub [(0, _), (1, _), (2, _), (4, _), (5, _), (6, _), (7, _), (8, _), (9, _), (10, _), (11, _), (12, _), (13, _), (14, _), (15, _), (16, _), (55, _)] ?_ ⟨rfl, rfl, rfl, rfl, rfl, rfl, rfl, rfl, rfl, rfl, rfl, rfl, rfl, rfl, rfl, rfl, rfl, trivial⟩
  refine WP.next ?_
  refine WP.condF rfl ?_
  refine WP.skip ?_
  refine WP.next ?_
  refine WP.seq ?_
  refine WP.region [0, 1, 2, 3, 4, 5, 6, 7, 8, 9, 10, 11, 12, 13, 14, 15, 16, 17, 18, 19, 20, 21, 22, 23, 24, 25, 26, 27, 28, 29, 30] rfl ?_
  refine WP.val rfl rfl rfl rfl (Yld.move rfl rfl) ?_
  refine WP.val rfl rfl rfl rfl (Yld.move rfl rfl) ?_
  refine WP.valG rfl rfl rfl rfl rfl rfl rfl (Yld.move rfl rfl) ?_
  refine WP.valG rfl rfl rfl rfl rfl rfl rfl (Yld.str (e := 5) rfl (by kernel_rfl) (by kernel_rfl) (by kernel_rfl) rfl (hx.mono (fun b o h => .inr h))) ?_
  refine WP.valG rfl rfl rfl rfl rfl rfl rfl (Yld.move rfl rfl) ?_
  refine WP.valG rfl rfl rfl rfl rfl rfl rfl (Yld.str (e := 5) rfl (by kernel_rfl) (by kernel_rfl) (by kernel_rfl) rfl (hy.rd (by intro p hp; simp [hp]))) ?_
  refine WP.valG rfl rfl rfl rfl rfl rfl rfl (Yld.eqlStr rfl rfl rfl true (by simp)) ?_
  refine WP.val rfl rfl rfl rfl (Yld.pickT rfl rfl rfl) ?_
  refine WP.val rfl rfl rfl rfl (Yld.move rfl rfl) ?_
  refine WP.valG rfl rfl rfl rfl rfl rfl rfl (Yld.move rfl rfl) ?_
  refine WP.valG rfl rfl rfl rfl rfl rfl rfl (Yld.move rfl rfl) ?_
  refine WP.valG rfl rfl rfl rfl rfl rfl rfl (Yld.eql rfl rfl rfl true (decide_eq_true (by omega))) ?_
  refine WP.val rfl rfl rfl rfl (Yld.pickT rfl rfl rfl) ?_
  refine WP.val rfl rfl rfl rfl (Yld.move rfl rfl) ?_
  refine WP.valG rfl rfl rfl rfl rfl rfl rfl (Yld.loadAll rfl ty_ag_23 rfl (by repeat (first | exact There.h | exact There.i (by assumption) | apply There.t | apply There.s)) rfl) ?_
  refine WP.valG rfl rfl rfl rfl rfl rfl rfl (Yld.loadAll rfl ty_ag_23 rfl (by repeat (first | exact There.h | exact There.i (by assumption) | apply There.t | apply There.s)) rfl) ?_
  refine WP.valG rfl rfl rfl rfl rfl rfl rfl (Yld.eqlInts (m := 5) (us := ((decS bs).getD spZ).ints) (vs := ((decS bs).getD spZ).ints) rfl (by kernel_rfl) rfl rfl rfl rfl true (by simp)) ?_
  refine WP.val rfl rfl rfl rfl (Yld.pickT rfl rfl rfl) ?_
  refine WP.val rfl rfl rfl rfl (Yld.move rfl rfl) ?_
  refine WP.valG rfl rfl rfl rfl rfl rfl rfl (Yld.move rfl rfl) ?_
  refine WP.valG rfl rfl rfl rfl rfl rfl rfl (Yld.move rfl rfl) ?_
  refine WP.valG rfl rfl rfl rfl rfl rfl rfl (Yld.eql rfl rfl rfl true (decide_eq_true (by rfl))) ?_
  refine WP.val rfl rfl rfl rfl (Yld.pickT rfl rfl rfl) ?_
  refine WP.val rfl rfl rfl rfl (Yld.move rfl rfl) ?_
  refine WP.valG rfl rfl rfl rfl rfl rfl rfl (Yld.move rfl rfl) ?_
  refine WP.valG rfl rfl rfl rfl rfl rfl rfl (Yld.str (e := 5) rfl (by kernel_rfl) (by kernel_rfl) (by kernel_rfl) rfl (hq.mono (fun b o h => .inr h))) ?_
  refine WP.valG rfl rfl rfl rfl rfl rfl rfl (Yld.move rfl rfl) ?_
  refine WP.valG rfl rfl rfl rfl rfl rfl rfl (Yld.str (e := 5) rfl (by kernel_rfl) (by kernel_rfl) (by kernel_rfl) rfl (hb.mono (fun b o h => .inr h))) ?_
  refine WP.valG rfl rfl rfl rfl rfl rfl rfl (Yld.eqlStr rfl rfl rfl true (by simp)) ?_
  refine WP.val rfl rfl rfl rfl (Yld.pickT rfl rfl rfl) ?_
  refine WP.val rfl rfl rfl rfl (Yld.assign rfl rfl) ?_
  refine WP.nil ?_
  refine WP.sub [(0, _), (1, _), (2, _), (4, _), (5, _), (6, _), (7, _), (8, _), (9, _), (10, _), (11, _), (12, _), (13, _), (14, _), (15, _), (16, _), (55, _)] ?_ ⟨rfl, rfl, rfl, rfl, rfl, rfl, rfl, rfl, rfl, rfl, rfl, rfl, rfl, rfl, rfl, rfl, rfl, trivial⟩
  refine WP.next ?_
  refine WP.ret ?_
  refine WP.fin .ret (.inr rfl) (res1 rfl rfl) [] (by repeat (first | exact Take.nil | with_reducible apply Take.cons | apply Take.app | exact Rm.chunk | exact Rm.here | exact Rm.nil0 | apply Rm.skip | apply Rm.skipS | (focus (apply Take.all; (repeat (first | exact Rm.chunk | exact Rm.here | exact Rm.nil0 | apply Rm.skip | apply Rm.skipS)); done)) | apply Take.cons)) (by repeat (first | exact Leave.done | apply Leave.drop | apply Leave.dropS)) (Imm.le_trans hJa (Imm.le_trans hJ1 (Imm.le_trans hJ2 (Imm.le_trans hJ3 (Imm.le_trans hJ4 (Imm.le_trans hJ5 (Imm.le_trans hJ6 hJ7))))))) ?_
  exact ⟨rfl, rfl⟩

theorem super_Forms_bad {I : Imm} {bs : List UInt8} {vb : Value} {s : Sp} (hb : SlRd (fun b o => I.blk b = some o) vb bs.length 1 (bytesV bs)) (hbl : bs.length ≤ 140737488351232) (hm : ¬ s.may) : Spec Try.prog 3 [.agg (spV s).toArray, vb] I [] (fun v J L => v = .bool true ∧ L = []) := by
  refine Spec.of Try.func3 rfl Try.ntmps3 (Nat.le_of_ble_eq_true rfl) (fun F => ?_)
  try simp only [List.cons_append, List.nil_append, List.append_assoc]
  dsimp only [argsEnv]
  refine WP.seq ?_
  refine WP.region [0, 1] rfl ?_
  refine WP.loud rfl rfl ?_
  refine Op.box rfl rfl rfl rfl rfl (fun b2 => ?_)
  refine WP.val rfl rfl rfl rfl (Yld.assign rfl rfl) ?_
  refine WP.nil ?_
  refine WP.next ?_
  refine WP.seq ?_
  refine WP.region [0, 1] rfl ?_
  refine WP.loud rfl rfl ?_
  refine Op.call super_awake rfl Try.func8 rfl rfl rfl rfl (by repeat (first | exact Take.nil | with_reducible apply Take.cons | apply Take.app | exact Rm.chunk | exact Rm.here | exact Rm.nil0 | apply Rm.skip | apply Rm.skipS | (focus (apply Take.all; (repeat (first | exact Rm.chunk | exact Rm.here | exact Rm.nil0 | apply Rm.skip | apply Rm.skipS)); done)) | apply Take.cons)) ?_
  rintro v Ja L1 hJa ⟨rfl, rfl⟩
  try simp only [List.cons_append, List.nil_append, List.append_assoc]
  have hb := hb.mono (fun b o h => hJa.2 b o h)
  refine WP.val rfl rfl rfl rfl (Yld.assign rfl rfl) ?_
  refine WP.nil ?_
  refine WP.sub [(0, _), (1, _), (2, _), (4, _), (5, _)] ?_ ⟨rfl, rfl, rfl, rfl, rfl, trivial⟩
  refine WP.next ?_
  refine WP.seq ?_
  refine WP.region [0, 1, 2, 3, 4, 5, 6] rfl ?_
  refine WP.val rfl rfl rfl rfl (Yld.loadAll rfl ty_ag_23 rfl (by repeat (first | exact There.h | exact There.i (by assumption) | apply There.t | apply There.s)) rfl) ?_
  refine WP.loud rfl rfl ?_
  refine Op.call (super_Encode_bad hm) rfl Try.func9 rfl rfl rfl rfl (by repeat (first | exact Take.nil | with_reducible apply Take.cons | apply Take.app | exact Rm.chunk | exact Rm.here | exact Rm.nil0 | apply Rm.skip | apply Rm.skipS | (focus (apply Take.all; (repeat (first | exact Rm.chunk | exact Rm.here | exact Rm.nil0 | apply Rm.skip | apply Rm.skipS)); done)) | apply Take.cons)) ?_
  rintro v J L1 hJ ⟨rfl, rfl, rfl⟩
  clear hJ; try simp only [List.cons_append, List.nil_append, List.append_assoc]
  have hx : SlRd (fun b o => Ja.blk b = some o) (.slice none 0 0) ([] : List UInt8).length 1 (bytesV []) := ⟨none, 0, rfl, Nat.le_refl _, rfl, .inl rfl⟩
  refine WP.val rfl rfl rfl rfl (Yld.move rfl rfl) ?_
  refine WP.val rfl rfl rfl rfl (Yld.extract rfl rfl rfl) ?_
  refine WP.val rfl rfl rfl rfl (Yld.extract rfl rfl rfl) ?_
  refine WP.val rfl rfl rfl rfl (Yld.assign rfl rfl) ?_
  refine WP.val rfl rfl rfl rfl (Yld.assign rfl rfl) ?_
  refine WP.nil ?_
  refine WP.sub [(0, _), (1, _), (2, _), (4, _), (5, _), (6, _), (7, _)] ?_ ⟨rfl, rfl, rfl, rfl, rfl, rfl, rfl, trivial⟩
  refine WP.next ?_
  refine WP.seq ?_
  refine WP.region [0, 1, 2, 3, 4, 5, 6] rfl ?_
  refine WP.val rfl rfl rfl rfl (Yld.loadAll rfl ty_ag_23 rfl (by repeat (first | exact There.h | exact There.i (by assumption) | apply There.t | apply There.s)) rfl) ?_
  refine WP.loud rfl rfl ?_
  refine Op.call (ref_Encode_bad (s := s) hm) rfl Try.func10 rfl rfl rfl rfl (by repeat (first | exact Take.nil | with_reducible apply Take.cons | apply Take.app | exact Rm.chunk | exact Rm.here | exact Rm.nil0 | apply Rm.skip | apply Rm.skipS | (focus (apply Take.all; (repeat (first | exact Rm.chunk | exact Rm.here | exact Rm.nil0 | apply Rm.skip | apply Rm.skipS)); done)) | apply Take.cons)) ?_
  rintro v J L1 hJ ⟨rfl, rfl, rfl⟩
  clear hJ; try simp only [List.cons_append, List.nil_append, List.append_assoc]
  refine WP.val rfl rfl rfl rfl (Yld.move rfl rfl) ?_
  refine WP.val rfl rfl rfl rfl (Yld.extract rfl rfl rfl) ?_
  refine WP.val rfl rfl rfl rfl (Yld.extract rfl rfl rfl) ?_
  refine WP.val rfl rfl rfl rfl (Yld.assign rfl rfl) ?_
  refine WP.val rfl rfl rfl rfl (Yld.assign rfl rfl) ?_
  refine WP.nil ?_
  refine WP.sub [(0, _), (1, _), (2, _), (4, _), (5, _), (6, _), (7, _), (8, _), (9, _)] ?_ ⟨rfl, rfl, rfl, rfl, rfl, rfl, rfl, rfl, rfl, trivial⟩
  refine WP.next ?_
  refine WP.seq ?_
  refine WP.region [0, 1, 2] rfl ?_
  refine WP.val rfl rfl rfl rfl (Yld.move rfl rfl) ?_
  refine WP.loud rfl rfl ?_
  refine Op.append rfl ty_sl_24 ty_el_24 rfl rfl rfl rfl rfl .none0 (hb.mono (fun b o h => There.i h)) (by repeat (first | exact Take.nil | with_reducible apply Take.cons | apply Take.app | exact Rm.chunk | exact Rm.here | exact Rm.nil0 | apply Rm.skip | apply Rm.skipS | (focus (apply Take.all; (repeat (first | exact Rm.chunk | exact Rm.here | exact Rm.nil0 | apply Rm.skip | apply Rm.skipS)); done)) | apply Take.cons)) (bytesV_one _) (by omega) (by omega) (fun vp Lp hp => ?_)
  rw [List.nil_append, Nat.zero_add] at hp
  try simp only [List.cons_append, List.nil_append, List.append_assoc]
  refine WP.val rfl rfl rfl rfl (Yld.assign rfl rfl) ?_
  refine WP.nil ?_
  refine WP.sub [(0, _), (1, _), (2, _), (4, _), (5, _), (6, _), (7, _), (8, _), (9, _), (10, _)] ?_ ⟨rfl, rfl, rfl, rfl, rfl, rfl, rfl, rfl, rfl, rfl, trivial⟩
  refine WP.shareOwn hp (by repeat (first | exact Take.nil | with_reducible apply Take.cons | apply Take.app | exact Rm.chunk | exact Rm.here | exact Rm.nil0 | apply Rm.skip | apply Rm.skipS | (focus (apply Take.all; (repeat (first | exact Rm.chunk | exact Rm.here | exact Rm.nil0 | apply Rm.skip | apply Rm.skipS)); done)) | apply Take.cons)) (fun J4 hJ4 hq => ?_)
  have hb := hb.mono (fun b o h => hJ4.2 b o h)
  have hx := hx.mono (fun b o h => hJ4.2 b o h)
  refine WP.next ?_
  refine WP.seq ?_
  refine WP.region [0, 1, 2, 3, 4, 5, 6, 7] rfl ?_
  refine WP.val rfl rfl rfl rfl (Yld.move rfl rfl) ?_
  refine WP.loud rfl rfl ?_
  refine Op.call (super_Decode hq (by omega)) rfl Try.func11 rfl rfl rfl rfl (by repeat (first | exact Take.nil | with_reducible apply Take.cons | apply Take.app | exact Rm.chunk | exact Rm.here | exact Rm.nil0 | apply Rm.skip | apply Rm.skipS | (focus (apply Take.all; (repeat (first | exact Rm.chunk | exact Rm.here | exact Rm.nil0 | apply Rm.skip | apply Rm.skipS)); done)) | apply Take.cons)) ?_
  rintro v J5 L1 hJ5 ⟨rfl, rfl⟩
  try simp only [List.cons_append, List.nil_append, List.append_assoc]
  have hb := hb.mono (fun b o h => hJ5.2 b o h)
  have hx := hx.mono (fun b o h => hJ5.2 b o h)
  have hq := hq.mono (fun b o h => hJ5.2 b o h)
  refine WP.val rfl rfl rfl rfl (Yld.move rfl rfl) ?_
  refine WP.val rfl rfl rfl rfl (Yld.extract rfl rfl rfl) ?_
  refine WP.val rfl rfl rfl rfl (Yld.extract rfl rfl rfl) ?_
  refine WP.loud rfl rfl ?_
  refine Op.alloc rfl rfl rfl ty_zr_23 (fun b11 => ?_)
  refine WP.loud rfl rfl ?_
  refine Op.storeAll rfl rfl ty_sz_23 rfl rfl rfl rfl (by repeat (first | exact Upd.head | apply Upd.tail | apply Upd.tailS)) rfl ?_
  refine WP.val rfl rfl rfl rfl (Yld.assign rfl rfl) ?_
  refine WP.nil ?_
  refine WP.sub [(0, _), (1, _), (2, _), (4, _), (5, _), (6, _), (7, _), (8, _), (9, _), (10, _), (11, _), (12, _)] ?_ ⟨rfl, rfl, rfl, rfl, rfl, rfl, rfl, rfl, rfl, rfl, rfl, rfl, trivial⟩
  refine WP.next ?_
  refine WP.seq ?_
  refine WP.region [0, 1, 2, 3, 4, 5, 6, 7] rfl ?_
  refine WP.val rfl rfl rfl rfl (Yld.move rfl rfl) ?_
  refine WP.loud rfl rfl ?_
  refine Op.call (ref_Decode hb (by omega)) rfl Try.func12 rfl rfl rfl rfl (by repeat (first | exact Take.nil | with_reducible apply Take.cons | apply Take.app | exact Rm.chunk | exact Rm.here | exact Rm.nil0 | apply Rm.skip | apply Rm.skipS | (focus (apply Take.all; (repeat (first | exact Rm.chunk | exact Rm.here | exact Rm.nil0 | apply Rm.skip | apply Rm.skipS)); done)) | apply Take.cons)) ?_
  rintro v J6 L1 hJ6 ⟨rfl, rfl⟩
  try simp only [List.cons_append, List.nil_append, List.append_assoc]
  have hb := hb.mono (fun b o h => hJ6.2 b o h)
  have hx := hx.mono (fun b o h => hJ6.2 b o h)
  have hq := hq.mono (fun b o h => hJ6.2 b o h)
  refine WP.val rfl rfl rfl rfl (Yld.move rfl rfl) ?_
  refine WP.val rfl rfl rfl rfl (Yld.extract rfl rfl rfl) ?_
  refine WP.val rfl rfl rfl rfl (Yld.extract rfl rfl rfl) ?_
  refine WP.loud rfl rfl ?_
  refine Op.alloc rfl rfl rfl ty_zr_23 (fun b13 => ?_)
  refine WP.loud rfl rfl ?_
  refine Op.storeAll rfl rfl ty_sz_23 rfl rfl rfl rfl (by repeat (first | exact Upd.head | apply Upd.tail | apply Upd.tailS)) rfl ?_
  refine WP.val rfl rfl rfl rfl (Yld.assign rfl rfl) ?_
  refine WP.nil ?_
  refine WP.sub [(0, _), (1, _), (2, _), (4, _), (5, _), (6, _), (7, _), (8, _), (9, _), (10, _), (11, _), (12, _), (13, _), (14, _)] ?_ ⟨rfl, rfl, rfl, rfl, rfl, rfl, rfl, rfl, rfl, rfl, rfl, rfl, rfl, rfl, trivial⟩
  refine WP.next ?_
  refine WP.seq ?_
  refine WP.region [0, 1, 2, 3, 4, 5, 6, 7] rfl ?_
  refine WP.val rfl rfl rfl rfl (Yld.move rfl rfl) ?_
  refine WP.loud rfl rfl ?_
  refine Op.call (super_Decode hx (by simp)) rfl Try.func11 rfl rfl rfl rfl (by repeat (first | exact Take.nil | with_reducible apply Take.cons | apply Take.app | exact Rm.chunk | exact Rm.here | exact Rm.nil0 | apply Rm.skip | apply Rm.skipS | (focus (apply Take.all; (repeat (first | exact Rm.chunk | exact Rm.here | exact Rm.nil0 | apply Rm.skip | apply Rm.skipS)); done)) | apply Take.cons)) ?_
  rintro v J7 L1 hJ7 ⟨rfl, rfl⟩
  try simp only [List.cons_append, List.nil_append, List.append_assoc]
  have hb := hb.mono (fun b o h => hJ7.2 b o h)
  have hx := hx.mono (fun b o h => hJ7.2 b o h)
  have hq := hq.mono (fun b o h => hJ7.2 b o h)
  refine WP.val rfl rfl rfl rfl (Yld.move rfl rfl) ?_
  refine WP.val rfl rfl rfl rfl (Yld.extract rfl rfl rfl) ?_
  refine WP.val rfl rfl rfl rfl (Yld.extract rfl rfl rfl) ?_
  refine WP.loud rfl rfl ?_
  refine Op.alloc rfl rfl rfl ty_zr_23 (fun b15 => ?_)
  refine WP.loud rfl rfl ?_
  refine Op.storeAll rfl rfl ty_sz_23 rfl rfl rfl rfl (by repeat (first | exact Upd.head | apply Upd.tail | apply Upd.tailS)) rfl ?_
  refine WP.val rfl rfl rfl rfl (Yld.assign rfl rfl) ?_
  refine WP.nil ?_
  refine WP.sub [(0, _), (1, _), (2, _), (4, _), (5, _), (6, _), (7, _), (8, _), (9, _), (10, _), (11, _), (12, _), (13, _), (14, _), (15, _), (16, _)] ?_ ⟨rfl, rfl, rfl, rfl, rfl, rfl, rfl, rfl, rfl, rfl, rfl, rfl, rfl, rfl, rfl, rfl, trivial⟩
  refine WP.next ?_
  refine WP.seq ?_
  refine WP.seq ?_
  refine WP.region [0, 1, 2, 3, 4, 5, 6, 7, 8, 9, 10] rfl ?_
  refine WP.val rfl rfl rfl rfl (Yld.move rfl rfl) ?_
  refine WP.val rfl rfl rfl rfl (Yld.eql rfl rfl rfl false (decide_eq_false (by omega))) ?_
  refine WP.val rfl rfl rfl rfl (Yld.move rfl rfl) ?_
  refine WP.passG rfl rfl rfl rfl rfl rfl rfl rfl ?_
  refine WP.passG rfl rfl rfl rfl rfl rfl rfl rfl ?_
  refine WP.passG rfl rfl rfl rfl rfl rfl rfl rfl ?_
  refine WP.passG rfl rfl rfl rfl rfl rfl rfl rfl ?_
  refine WP.passG rfl rfl rfl rfl rfl rfl rfl rfl ?_
  refine WP.passG rfl rfl rfl rfl rfl rfl rfl rfl ?_
  refine WP.passG rfl rfl rfl rfl rfl rfl rfl rfl ?_
  refine WP.val rfl rfl rfl rfl (Yld.pickF rfl rfl rfl) ?_
  refine WP.nil ?_
  refine WP.sub [(0, _), (1, _), (2, _), (4, _), (5, _), (6, _), (7, _), (8, _), (9, _), (10, _), (11, _), (12, _), (13, _), (14, _), (15, _), (16, _), (55, _)] ?_ ⟨rfl, rfl, rfl, rfl, rfl, rfl, rfl, rfl, rfl, rfl, rfl, rfl, rfl, rfl, rfl, rfl, rfl, trivial⟩
  refine WP.next ?_
  refine WP.condF rfl ?_
  refine WP.skip ?_
  refine WP.next ?_
  refine WP.seq ?_
  refine WP.region [0, 1, 2, 3, 4, 5, 6, 7, 8, 9, 10, 11, 12, 13, 14, 15, 16, 17, 18, 19, 20, 21, 22, 23, 24, 25, 26, 27, 28, 29, 30] rfl ?_
  refine WP.val rfl rfl rfl rfl (Yld.move rfl rfl) ?_
  refine WP.val rfl rfl rfl rfl (Yld.move rfl rfl) ?_
  refine WP.valG rfl rfl rfl rfl rfl rfl rfl (Yld.move rfl rfl) ?_
  refine WP.valG rfl rfl rfl rfl rfl rfl rfl (Yld.str (e := 5) rfl (by kernel_rfl) (by kernel_rfl) (by kernel_rfl) rfl (hx.mono (fun b o h => .inr h))) ?_
  refine WP.valG rfl rfl rfl rfl rfl rfl rfl (Yld.move rfl rfl) ?_
  refine WP.valG rfl rfl rfl rfl rfl rfl rfl (Yld.str (e := 5) rfl (by kernel_rfl) (by kernel_rfl) (by kernel_rfl) rfl (hx.mono (fun b o h => .inr h))) ?_
  refine WP.valG rfl rfl rfl rfl rfl rfl rfl (Yld.eqlStr rfl rfl rfl true (by simp)) ?_
  refine WP.val rfl rfl rfl rfl (Yld.pickT rfl rfl rfl) ?_
  refine WP.val rfl rfl rfl rfl (Yld.move rfl rfl) ?_
  refine WP.valG rfl rfl rfl rfl rfl rfl rfl (Yld.move rfl rfl) ?_
  refine WP.valG rfl rfl rfl rfl rfl rfl rfl (Yld.move rfl rfl) ?_
  refine WP.valG rfl rfl rfl rfl rfl rfl rfl (Yld.eql rfl rfl rfl true (decide_eq_true (by omega))) ?_
  refine WP.val rfl rfl rfl rfl (Yld.pickT rfl rfl rfl) ?_
  refine WP.val rfl rfl rfl rfl (Yld.move rfl rfl) ?_
  refine WP.valG rfl rfl rfl rfl rfl rfl rfl (Yld.loadAll rfl ty_ag_23 rfl (by repeat (first | exact There.h | exact There.i (by assumption) | apply There.t | apply There.s)) rfl) ?_
  refine WP.valG rfl rfl rfl rfl rfl rfl rfl (Yld.loadAll rfl ty_ag_23 rfl (by repeat (first | exact There.h | exact There.i (by assumption) | apply There.t | apply There.s)) rfl) ?_
  refine WP.valG rfl rfl rfl rfl rfl rfl rfl (Yld.eqlInts (m := 5) (us := ((decS bs).getD spZ).ints) (vs := ((decS bs).getD spZ).ints) rfl (by kernel_rfl) rfl rfl rfl rfl true (by simp)) ?_
  refine WP.val rfl rfl rfl rfl (Yld.pickT rfl rfl rfl) ?_
  refine WP.val rfl rfl rfl rfl (Yld.move rfl rfl) ?_
  refine WP.valG rfl rfl rfl rfl rfl rfl rfl (Yld.move rfl rfl) ?_
  refine WP.valG rfl rfl rfl rfl rfl rfl rfl (Yld.move rfl rfl) ?_
  refine WP.valG rfl rfl rfl rfl rfl rfl rfl (Yld.eql rfl rfl rfl true (decide_eq_true (by rfl))) ?_
  refine WP.val rfl rfl rfl rfl (Yld.pickT rfl rfl rfl) ?_
  refine WP.val rfl rfl rfl rfl (Yld.move rfl rfl) ?_
  refine WP.valG rfl rfl rfl rfl rfl rfl rfl (Yld.move rfl rfl) ?_
  refine WP.valG rfl rfl rfl rfl rfl rfl rfl (Yld.str (e := 5) rfl (by kernel_rfl) (by kernel_rfl) (by kernel_rfl) rfl (hq.mono (fun b o h => .inr h))) ?_
  refine WP.valG rfl rfl rfl rfl rfl rfl rfl (Yld.move rfl rfl) ?_
  refine WP.valG rfl rfl rfl rfl rfl rfl rfl (Yld.str (e := 5) rfl (by kernel_rfl) (by kernel_rfl) (by kernel_rfl) rfl (hb.mono (fun b o h => .inr h))) ?_
  refine WP.valG rfl rfl rfl rfl rfl rfl rfl (Yld.eqlStr rfl rfl rfl true (by simp)) ?_
  refine WP.val rfl rfl rfl rfl (Yld.pickT rfl rfl rfl) ?_
  refine WP.val rfl rfl rfl rfl (Yld.assign rfl rfl) ?_
  refine WP.nil ?_
  refine WP.sub [(0, _), (1, _), (2, _), (4, _), (5, _), (6, _), (7, _), (8, _), (9, _), (10, _), (11, _), (12, _), (13, _), (14, _), (15, _), (16, _), (55, _)] ?_ ⟨rfl, rfl, rfl, rfl, rfl, rfl, rfl, rfl, rfl, rfl, rfl, rfl, rfl, rfl, rfl, rfl, rfl, trivial⟩
  refine WP.next ?_
  refine WP.ret ?_
  refine WP.fin .ret (.inr rfl) (res1 rfl rfl) [] (by repeat (first | exact Take.nil | with_reducible apply Take.cons | apply Take.app | exact Rm.chunk | exact Rm.here | exact Rm.nil0 | apply Rm.skip | apply Rm.skipS | (focus (apply Take.all; (repeat (first | exact Rm.chunk | exact Rm.here | exact Rm.nil0 | apply Rm.skip | apply Rm.skipS)); done)) | apply Take.cons)) (by repeat (first | exact Leave.done | apply Leave.drop | apply Leave.dropS)) (Imm.le_trans hJa (Imm.le_trans hJ4 (Imm.le_trans hJ5 (Imm.le_trans hJ6 hJ7)))) ?_
  exact ⟨rfl, rfl⟩


theorem super_Forms {I : Imm} {bs : List UInt8} {vb : Value} {s : Sp} (hb : SlRd (fun b o => I.blk b = some o) vb bs.length 1 (bytesV bs)) (hbl : bs.length ≤ 140737488351232) : Spec Try.prog 3 [.agg (spV s).toArray, vb] I [] (fun v J L => v = .bool true ∧ L = []) := by
  by_cases hm : s.may
  · exact super_Forms_ok hb hbl hm
  · exact super_Forms_bad hb hbl hm

end Go.Hp
