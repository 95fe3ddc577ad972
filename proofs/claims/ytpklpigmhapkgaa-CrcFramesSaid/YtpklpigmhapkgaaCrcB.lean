import Derived.Test.YtpklpigmhapkgaaCrcA
set_option linter.unusedVariables false
set_option linter.unusedSimpArgs false
namespace Go.Hp
open Go Go.Proofs
theorem crc_Add {I : Imm} {bs : List UInt8} {vb : Value} (hb : SlRd (fun b o => I.blk b = some o) vb bs.length 1 (bytesV bs)) (hbl : bs.length ≤ 1152921504606846976) {s : BitVec 32} : Spec Try.prog 11 [.int .u32 ((s).toNat : Int), vb] I [] (fun v J L => v = .int .u32 ((crcAdd s bs).toNat : Int) ∧ I = J ∧ L = []) := by
  refine Spec.of Try.func11 rfl Try.ntmps11 (Nat.le_of_ble_eq_true rfl) (fun F => ?_)
  try simp only [List.cons_append, List.nil_append, List.append_assoc]
  dsimp only [argsEnv]
  refine WP.seq ?_
  refine WP.region [0] rfl ?_
  refine WP.val rfl rfl rfl rfl (Yld.assign rfl rfl) ?_
  refine WP.nil ?_
  refine WP.next ?_
  refine WP.seq ?_
  refine WP.region [0, 1, 2] rfl ?_
  refine WP.loud rfl rfl ?_
  refine Op.call (crc_nibbles _) rfl Try.func19 rfl rfl rfl rfl (by repeat (first | exact Take.nil | apply Take.cons | apply Take.app | exact Rm.chunk | exact Rm.here | apply Rm.skip | apply Rm.skipS | apply Take.all)) ?_
  rintro v J L1 hJ ⟨rfl, rfl, rfl⟩
  clear hJ; try simp only [List.cons_append, List.nil_append, List.append_assoc]
  refine WP.loud rfl rfl ?_
  refine Op.alloc rfl rfl rfl ty_zr_37 (fun bt => ?_)
  refine WP.loud rfl rfl ?_
  refine Op.storeAll rfl rfl ty_sz_37 rfl rfl rfl (u32s_one _) (by repeat (first | exact Upd.head | apply Upd.tail | apply Upd.tailS)) rfl ?_
  refine WP.nil ?_
  refine WP.sub [(0, _), (1, _), (4, _), (5, _)] ?_ ⟨rfl, rfl, rfl, rfl, trivial⟩
  refine WP.next ?_
  refine WP.seq ?_
  refine WP.region [0, 1, 2] rfl ?_
  refine WP.val rfl rfl rfl rfl (Yld.move rfl rfl) ?_
  refine WP.val rfl rfl rfl rfl (Yld.not32 s rfl rfl) ?_
  refine WP.val rfl rfl rfl rfl (Yld.assign rfl rfl) ?_
  refine WP.nil ?_
  refine WP.sub [(0, _), (1, _), (4, _), (5, _), (6, _)] ?_ ⟨rfl, rfl, rfl, rfl, rfl, trivial⟩
  refine WP.next ?_
  refine WP.seq ?_
  refine WP.seq ?_
  refine WP.region [0, 1, 2] rfl ?_
  refine WP.val rfl rfl rfl rfl (Yld.move rfl rfl) ?_
  refine WP.val rfl rfl rfl rfl (Yld.lenR hb rfl ty_sl_23 rfl) ?_
  refine WP.val rfl rfl rfl rfl (Yld.move rfl rfl) ?_
  refine WP.nil ?_
  refine WP.next ?_
  refine WP.block ?_
  refine WP.loop (X := Nat) (fun i : Nat => [(5, .pointer (some ⟨bt, 0, none⟩)), (6, .int .u32 ((((bs.take i).foldl byteStep (~~~s))).toNat : Int)), (12, vb), (13, .int .i64 (bs.length : Int)), (14, .int .i64 (i : Int))]) (fun _ => I) (fun _ => (bt, row 37 (u32s tabs)) :: F) (fun i => i ≤ bs.length) (fun i => bs.length - i) 0 (Nat.zero_le _) ⟨rfl, rfl, rfl, rfl, rfl, trivial⟩ rfl (by (try dsimp only); repeat (first | exact Rm.chunk | exact Rm.here | apply Rm.skip | apply Rm.skipS | apply PX.cons | (apply PX.done; (repeat (first | exact Leave.done | apply Leave.drop | apply Leave.dropS)); done) | apply PX.app)) ?_
  intro i hi0
  try dsimp only
  try simp only [List.cons_append, List.nil_append, List.append_assoc]
  refine WP.seq ?_
  refine WP.region [0] rfl ?_
  refine WP.split rfl rfl rfl rfl (Yld.lss rfl rfl rfl) (fun hlt => ?_) (fun hlt => ?_)
  · have hi : i < bs.length := by omega
    have hlen := hb.len
    obtain ⟨bb, kb, cb, Tb, frb, arrb, rfl, hcb, hbb, hb4⟩ := hb.get (by omega)
    have eb := take_cells hb4 i (byteV bs[i]) (by simp [bytesV, hi]) (by rw [bytesV_len]; exact hi)
    rw [Array.getElem?_toList] at eb
    refine WP.nil ?_
    refine WP.next ?_
    refine WP.seq ?_
    refine WP.condT rfl ?_
    refine WP.skip ?_
    refine WP.next ?_
    refine WP.seq ?_
    refine WP.block ?_
    refine WP.seq ?_
    refine WP.region [0, 1, 2] rfl ?_
    refine WP.val rfl rfl rfl rfl (Yld.indexAddr rfl ty_sl_23 rfl rfl (by omega)) ?_
    refine WP.val rfl rfl rfl rfl (Yld.loadC rfl ty_sc_5 rfl (There.i hbb) (by rw [Nat.mul_one]; exact eb)) ?_
    refine WP.val rfl rfl rfl rfl (Yld.assign rfl rfl) ?_
    refine WP.nil ?_
    refine WP.sub [(5, _), (6, _), (8, _), (12, _), (13, _), (14, _), (15, _)] ?_ ⟨rfl, rfl, rfl, rfl, rfl, rfl, rfl, trivial⟩
    refine WP.next ?_
    refine WP.seq ?_
    refine WP.region [0, 1, 2, 3, 4] rfl ?_
    refine WP.val rfl rfl rfl rfl (Yld.move rfl rfl) ?_
    refine WP.val rfl rfl rfl rfl (Yld.move rfl rfl) ?_
    refine WP.val rfl rfl rfl rfl (Yld.conv8_32 bs[i] rfl ty_un_5 ty_ik_22 rfl) ?_
    refine WP.val rfl rfl rfl rfl (Yld.xor32 ((bs.take i).foldl byteStep (~~~s)) (bs[i].toBitVec.setWidth 32) rfl rfl rfl) ?_
    refine WP.val rfl rfl rfl rfl (Yld.assign rfl rfl) ?_
    refine WP.nil ?_
    refine WP.sub [(5, _), (6, _), (8, _), (12, _), (13, _), (14, _), (15, _)] ?_ ⟨rfl, rfl, rfl, rfl, rfl, rfl, rfl, trivial⟩
    refine WP.next ?_
    refine WP.seq ?_
    refine WP.region [0, 1, 2, 3, 4, 5, 6, 7] rfl ?_
    refine WP.val rfl rfl rfl rfl (Yld.move rfl rfl) ?_
    refine WP.val rfl rfl rfl rfl (Yld.and32 (((bs.take i).foldl byteStep (~~~s)) ^^^ bs[i].toBitVec.setWidth 32) 15#32 rfl rfl rfl) ?_
    refine WP.val rfl rfl rfl rfl (Yld.indexAddrA rfl ty_ar_37 rfl rfl (and15 _)) ?_
    refine WP.val rfl rfl rfl rfl (Yld.load rfl ty_sc_22 rfl (by repeat (first | exact There.h | exact There.i (by assumption) | apply There.t | apply There.s)) (tabs_at (and15 _))) ?_
    refine WP.val rfl rfl rfl rfl (Yld.move rfl rfl) ?_
    refine WP.val rfl rfl rfl rfl (Yld.shr32 (((bs.take i).foldl byteStep (~~~s)) ^^^ bs[i].toBitVec.setWidth 32) 4 rfl rfl rfl (by decide)) ?_
    refine WP.val rfl rfl rfl rfl (Yld.xor32 (tab ((((bs.take i).foldl byteStep (~~~s)) ^^^ bs[i].toBitVec.setWidth 32) &&& 15#32).toNat) ((((bs.take i).foldl byteStep (~~~s)) ^^^ bs[i].toBitVec.setWidth 32) >>> 4) rfl rfl rfl) ?_
    refine WP.val rfl rfl rfl rfl (Yld.assign rfl rfl) ?_
    refine WP.nil ?_
    refine WP.sub [(5, _), (6, _), (8, _), (12, _), (13, _), (14, _), (15, _)] ?_ ⟨rfl, rfl, rfl, rfl, rfl, rfl, rfl, trivial⟩
    refine WP.next ?_
    refine WP.region [0, 1, 2, 3, 4, 5, 6, 7] rfl ?_
    refine WP.val rfl rfl rfl rfl (Yld.move rfl rfl) ?_
    refine WP.val rfl rfl rfl rfl (Yld.and32 (nib (((bs.take i).foldl byteStep (~~~s)) ^^^ bs[i].toBitVec.setWidth 32)) 15#32 rfl rfl rfl) ?_
    refine WP.val rfl rfl rfl rfl (Yld.indexAddrA rfl ty_ar_37 rfl rfl (and15 _)) ?_
    refine WP.val rfl rfl rfl rfl (Yld.load rfl ty_sc_22 rfl (by repeat (first | exact There.h | exact There.i (by assumption) | apply There.t | apply There.s)) (tabs_at (and15 _))) ?_
    refine WP.val rfl rfl rfl rfl (Yld.move rfl rfl) ?_
    refine WP.val rfl rfl rfl rfl (Yld.shr32 (nib (((bs.take i).foldl byteStep (~~~s)) ^^^ bs[i].toBitVec.setWidth 32)) 4 rfl rfl rfl (by decide)) ?_
    refine WP.val rfl rfl rfl rfl (Yld.xor32 (tab ((nib (((bs.take i).foldl byteStep (~~~s)) ^^^ bs[i].toBitVec.setWidth 32)) &&& 15#32).toNat) ((nib (((bs.take i).foldl byteStep (~~~s)) ^^^ bs[i].toBitVec.setWidth 32)) >>> 4) rfl rfl rfl) ?_
    refine WP.val rfl rfl rfl rfl (Yld.assign rfl rfl) ?_
    refine WP.nil ?_
    refine WP.sub [(5, _), (6, _), (8, _), (12, _), (13, _), (14, _), (15, _)] ?_ ⟨rfl, rfl, rfl, rfl, rfl, rfl, rfl, trivial⟩
    refine WP.leave ?_
    refine WP.next ?_
    refine WP.region [0, 1] rfl ?_
    refine WP.val rfl rfl rfl rfl (Yld.add64 rfl rfl rfl (by omega)) ?_
    refine WP.val rfl rfl rfl rfl (Yld.move rfl rfl) ?_
    refine WP.nil ?_
    refine WP.sub [(5, _), (6, _), (8, _), (12, _), (13, _), (14, _), (15, _)] ?_ ⟨rfl, rfl, rfl, rfl, rfl, rfl, rfl, trivial⟩
    exact WP.again (i + 1) (by omega) (by omega) ⟨rfl, (congrArg (fun z : BitVec 32 => some (Value.int .u32 (z.toNat : Int))) (by rw [List.take_succ_eq_append_getElem hi, List.foldl_append]; rfl)), rfl, rfl, rfl, trivial⟩ rfl (by (try dsimp only); repeat (first | exact Rm.chunk | exact Rm.here | apply Rm.skip | apply Rm.skipS | apply PX.cons | (apply PX.done; (repeat (first | exact Leave.done | apply Leave.drop | apply Leave.dropS)); done) | apply PX.app))
  · obtain rfl : i = bs.length := by omega
    rw [List.take_length]
    refine WP.nil ?_
    refine WP.next ?_
    refine WP.seq ?_
    refine WP.condF rfl ?_
    refine WP.exit ?_
    refine WP.thenE ?_
    refine WP.thenE ?_
    refine WP.hit ?_
    refine WP.next ?_
    refine WP.seq ?_
    refine WP.region [0, 1, 2] rfl ?_
    refine WP.val rfl rfl rfl rfl (Yld.move rfl rfl) ?_
    refine WP.val rfl rfl rfl rfl (Yld.not32 (bs.foldl byteStep (~~~s)) rfl rfl) ?_
    refine WP.val rfl rfl rfl rfl (Yld.assign rfl rfl) ?_
    refine WP.nil ?_
    refine WP.sub [(4, _), (5, _), (6, _), (12, _), (13, _), (14, _), (15, _)] ?_ ⟨rfl, rfl, rfl, rfl, rfl, rfl, rfl, trivial⟩
    refine WP.next ?_
    refine WP.ret ?_
    refine WP.fin .ret (.inr rfl) (res1 rfl rfl) [] (by repeat (first | exact Take.nil | apply Take.cons | apply Take.app | exact Rm.chunk | exact Rm.here | apply Rm.skip | apply Rm.skipS | apply Take.all)) (by repeat (first | exact Leave.done | apply Leave.drop | apply Leave.dropS)) (Imm.le_refl _) ?_
    exact ⟨rfl, rfl, rfl⟩

theorem crc_Of {I : Imm} {bs : List UInt8} {vb : Value} (hb : SlRd (fun b o => I.blk b = some o) vb bs.length 1 (bytesV bs)) (hbl : bs.length ≤ 1152921504606846976) : Spec Try.prog 10 [vb] I [] (fun v J L => v = .int .u32 ((crcOf bs).toNat : Int) ∧ I = J ∧ L = []) := by
  refine Spec.of Try.func10 rfl Try.ntmps10 (Nat.le_of_ble_eq_true rfl) (fun F => ?_)
  try simp only [List.cons_append, List.nil_append, List.append_assoc]
  dsimp only [argsEnv]
  refine WP.seq ?_
  refine WP.region [0] rfl ?_
  refine WP.val rfl rfl rfl rfl (Yld.assign rfl rfl) ?_
  refine WP.nil ?_
  refine WP.next ?_
  refine WP.seq ?_
  refine WP.region [0, 1, 2] rfl ?_
  refine WP.val rfl rfl rfl rfl (Yld.move rfl rfl) ?_
  refine WP.loud rfl rfl ?_
  refine Op.call (crc_Add hb hbl (s := 0#32)) rfl Try.func11 rfl rfl rfl rfl (by repeat (first | exact Take.nil | apply Take.cons | apply Take.app | exact Rm.chunk | exact Rm.here | apply Rm.skip | apply Rm.skipS | apply Take.all)) ?_
  rintro v J L1 hJ ⟨rfl, rfl, rfl⟩
  clear hJ; try simp only [List.cons_append, List.nil_append, List.append_assoc]
  refine WP.val rfl rfl rfl rfl (Yld.assign rfl rfl) ?_
  refine WP.nil ?_
  refine WP.sub [(0, _), (2, _)] ?_ ⟨rfl, rfl, trivial⟩
  refine WP.next ?_
  refine WP.ret ?_
  refine WP.fin .ret (.inr rfl) (res1 rfl rfl) [] (by repeat (first | exact Take.nil | apply Take.cons | apply Take.app | exact Rm.chunk | exact Rm.here | apply Rm.skip | apply Rm.skipS | apply Take.all)) (by repeat (first | exact Leave.done | apply Leave.drop | apply Leave.dropS)) (Imm.le_refl _) ?_
  exact ⟨rfl, rfl, rfl⟩


def four (x : BitVec 32) : List UInt8 := [⟨x.setWidth 8⟩, ⟨(x >>> 8).setWidth 8⟩, ⟨(x >>> 16).setWidth 8⟩, ⟨(x >>> 24).setWidth 8⟩]
def word (l : List UInt8) : BitVec 32 := (l.getD 0 0).toBitVec.setWidth 32 ||| (l.getD 1 0).toBitVec.setWidth 32 <<< 8 ||| (l.getD 2 0).toBitVec.setWidth 32 <<< 16 ||| (l.getD 3 0).toBitVec.setWidth 32 <<< 24
theorem crc_put {I : Imm} {x : BitVec 32} : Spec Try.prog 20 [.int .u32 ((x).toNat : Int)] I [] (fun v J L => I = J ∧ ∃ b, v = .slice (some ⟨b, 0, none⟩) 4 4 ∧ L = [(b, row 5 (bytesV (four x)))]) := by
  refine Spec.of Try.func20 rfl Try.ntmps20 (Nat.le_of_ble_eq_true rfl) (fun F => ?_)
  try simp only [List.cons_append, List.nil_append, List.append_assoc]
  dsimp only [argsEnv]
  refine WP.seq ?_
  refine WP.region [0] rfl ?_
  refine WP.val rfl rfl rfl rfl (Yld.assign rfl rfl) ?_
  refine WP.nil ?_
  refine WP.next ?_
  refine WP.seq ?_
  refine WP.region [0, 1, 2, 3, 4, 5, 6, 7, 8, 9, 10, 11, 12] rfl ?_
  refine WP.val rfl rfl rfl rfl (Yld.move rfl rfl) ?_
  refine WP.val rfl rfl rfl rfl (Yld.conv32_8 x rfl ty_un_22 ty_ik_5 rfl) ?_
  refine WP.val rfl rfl rfl rfl (Yld.move rfl rfl) ?_
  refine WP.val rfl rfl rfl rfl (Yld.shr32 x 8 rfl rfl rfl (by decide)) ?_
  refine WP.val rfl rfl rfl rfl (Yld.conv32_8 (x >>> 8) rfl ty_un_22 ty_ik_5 rfl) ?_
  refine WP.val rfl rfl rfl rfl (Yld.move rfl rfl) ?_
  refine WP.val rfl rfl rfl rfl (Yld.shr32 x 16 rfl rfl rfl (by decide)) ?_
  refine WP.val rfl rfl rfl rfl (Yld.conv32_8 (x >>> 16) rfl ty_un_22 ty_ik_5 rfl) ?_
  refine WP.val rfl rfl rfl rfl (Yld.move rfl rfl) ?_
  refine WP.val rfl rfl rfl rfl (Yld.shr32 x 24 rfl rfl rfl (by decide)) ?_
  refine WP.val rfl rfl rfl rfl (Yld.conv32_8 (x >>> 24) rfl ty_un_22 ty_ik_5 rfl) ?_
  refine WP.loud rfl rfl ?_
  refine Op.buildSlice rfl ty_sl_23 ty_el2_23 rfl rfl rfl rfl (vs := [_, _, _, _]) rfl (segs := [(0, [_]), (1, [_]), (2, [_]), (3, [_])]) (cs := bytesV (four x)) rfl rfl (by repeat (first | exact SetSeg.nil | apply SetSeg.one | exact SetAt.zero | apply SetAt.succ)) (fun bf => ?_)
  refine WP.val rfl rfl rfl rfl (Yld.assign rfl rfl) ?_
  refine WP.nil ?_
  refine WP.sub [(0, _), (2, _)] ?_ ⟨rfl, rfl, trivial⟩
  refine WP.next ?_
  refine WP.ret ?_
  refine WP.fin .ret (.inr rfl) (res1 rfl rfl) [(bf, row 5 (bytesV (four x)))] (by repeat (first | exact Take.nil | apply Take.cons | apply Take.app | exact Rm.chunk | exact Rm.here | apply Rm.skip | apply Rm.skipS | apply Take.all)) (by repeat (first | exact Leave.done | apply Leave.drop | apply Leave.dropS)) (Imm.le_refl _) ?_
  exact ⟨rfl, bf, rfl, rfl⟩

theorem crc_number {I : Imm} {bs : List UInt8} {vb : Value} (hb : SlRd (fun b o => I.blk b = some o) vb bs.length 1 (bytesV bs)) (h4 : 4 ≤ bs.length) : Spec Try.prog 23 [vb] I [] (fun v J L => v = .int .u32 ((word bs).toNat : Int) ∧ I = J ∧ L = []) := by
  refine Spec.of Try.func23 rfl Try.ntmps23 (Nat.le_of_ble_eq_true rfl) (fun F => ?_)
  try simp only [List.cons_append, List.nil_append, List.append_assoc]
  dsimp only [argsEnv]
  refine WP.seq ?_
  refine WP.region [0] rfl ?_
  refine WP.val rfl rfl rfl rfl (Yld.assign rfl rfl) ?_
  refine WP.nil ?_
  refine WP.next ?_
  refine WP.seq ?_
  have h0 : 0 < bs.length := by omega
  have h1 : 1 < bs.length := by omega
  have h2 : 2 < bs.length := by omega
  have h3 : 3 < bs.length := by omega
  obtain ⟨bb, kb, cb, Tb, frb, arrb, rfl, hcb, hbb, hb4⟩ := hb.get (by omega)
  have e0 := take_cells hb4 0 (byteV bs[0]) (by simp [bytesV, h0]) (by rw [bytesV_len]; exact h0)
  rw [Array.getElem?_toList] at e0
  have e1 := take_cells hb4 1 (byteV bs[1]) (by simp [bytesV, h1]) (by rw [bytesV_len]; exact h1)
  rw [Array.getElem?_toList] at e1
  have e2 := take_cells hb4 2 (byteV bs[2]) (by simp [bytesV, h2]) (by rw [bytesV_len]; exact h2)
  rw [Array.getElem?_toList] at e2
  have e3 := take_cells hb4 3 (byteV bs[3]) (by simp [bytesV, h3]) (by rw [bytesV_len]; exact h3)
  rw [Array.getElem?_toList] at e3
  refine WQ.startAll Trymixed (by kernel_rfl) _ rfl ?_
  refine WQ.val rfl rfl rfl (Yld.move rfl rfl) ?_
  refine WQ.val rfl rfl rfl (Yld.indexAddr (i := 0) rfl ty_sl_23 rfl rfl (by omega)) ?_
  refine WQ.val rfl rfl rfl (Yld.loadC rfl ty_sc_5 rfl (There.i hbb) e0) ?_
  refine WQ.val rfl rfl rfl (Yld.conv8_32 bs[0] rfl ty_un_5 ty_ik_22 rfl) ?_
  refine WQ.val rfl rfl rfl (Yld.move rfl rfl) ?_
  refine WQ.val rfl rfl rfl (Yld.indexAddr (i := 1) rfl ty_sl_23 rfl rfl (by omega)) ?_
  refine WQ.val rfl rfl rfl (Yld.loadC rfl ty_sc_5 rfl (There.i hbb) e1) ?_
  refine WQ.val rfl rfl rfl (Yld.conv8_32 bs[1] rfl ty_un_5 ty_ik_22 rfl) ?_
  refine WQ.val rfl rfl rfl (Yld.shl32 (bs[1].toBitVec.setWidth 32) 8 rfl rfl rfl (by decide)) ?_
  refine WQ.val rfl rfl rfl (Yld.or32 (bs[0].toBitVec.setWidth 32) (bs[1].toBitVec.setWidth 32 <<< 8) rfl rfl rfl) ?_
  refine WQ.val rfl rfl rfl (Yld.move rfl rfl) ?_
  refine WQ.val rfl rfl rfl (Yld.indexAddr (i := 2) rfl ty_sl_23 rfl rfl (by omega)) ?_
  refine WQ.val rfl rfl rfl (Yld.loadC rfl ty_sc_5 rfl (There.i hbb) e2) ?_
  refine WQ.val rfl rfl rfl (Yld.conv8_32 bs[2] rfl ty_un_5 ty_ik_22 rfl) ?_
  refine WQ.val rfl rfl rfl (Yld.shl32 (bs[2].toBitVec.setWidth 32) 16 rfl rfl rfl (by decide)) ?_
  refine WQ.val rfl rfl rfl (Yld.or32 (bs[0].toBitVec.setWidth 32 ||| bs[1].toBitVec.setWidth 32 <<< 8) (bs[2].toBitVec.setWidth 32 <<< 16) rfl rfl rfl) ?_
  refine WQ.val rfl rfl rfl (Yld.move rfl rfl) ?_
  refine WQ.val rfl rfl rfl (Yld.indexAddr (i := 3) rfl ty_sl_23 rfl rfl (by omega)) ?_
  refine WQ.val rfl rfl rfl (Yld.loadC rfl ty_sc_5 rfl (There.i hbb) e3) ?_
  refine WQ.val rfl rfl rfl (Yld.conv8_32 bs[3] rfl ty_un_5 ty_ik_22 rfl) ?_
  refine WQ.val rfl rfl rfl (Yld.shl32 (bs[3].toBitVec.setWidth 32) 24 rfl rfl rfl (by decide)) ?_
  refine WQ.val rfl rfl rfl (Yld.or32 (bs[0].toBitVec.setWidth 32 ||| bs[1].toBitVec.setWidth 32 <<< 8 ||| bs[2].toBitVec.setWidth 32 <<< 16) (bs[3].toBitVec.setWidth 32 <<< 24) rfl rfl rfl) ?_
  refine WQ.val rfl rfl rfl (Yld.assign rfl rfl) ?_
  refine WQ.nil ?_
  refine WP.sub [(0, _), (2, _)] ?_ ⟨rfl, rfl, trivial⟩
  refine WP.next ?_
  refine WP.ret ?_
  refine WP.fin .ret (.inr rfl) (res1 rfl rfl) [] (by repeat (first | exact Take.nil | apply Take.cons | apply Take.app | exact Rm.chunk | exact Rm.here | apply Rm.skip | apply Rm.skipS | apply Take.all)) (by repeat (first | exact Leave.done | apply Leave.drop | apply Leave.dropS)) (Imm.le_refl _) ?_
  exact ⟨by simp [word, h0, h1, h2, h3], rfl, rfl⟩


theorem bytes0' (n : Nat) : (List.replicate n (Value.int .u8 0).cells.toList).flatten = bytesV (List.replicate n (0 : UInt8)) := by
  induction n with
  | zero => rfl
  | succ n ih => rw [List.replicate_succ, List.flatten_cons, ih]; simp [Value.cells, List.replicate_succ, bytesV, byteV]
theorem crc_copied {I : Imm} {bs : List UInt8} {vb : Value} (hb : SlRd (fun b o => I.blk b = some o) vb bs.length 1 (bytesV bs)) (hbl : bs.length ≤ 140737488355328) : Spec Try.prog 24 [vb] I [] (fun v J L => I = J ∧ Own 5 1 v (bytesV bs) bs.length L) := by
  refine Spec.of Try.func24 rfl Try.ntmps24 (Nat.le_of_ble_eq_true rfl) (fun F => ?_)
  try simp only [List.cons_append, List.nil_append, List.append_assoc]
  dsimp only [argsEnv]
  refine WP.seq ?_
  refine WP.region [0] rfl ?_
  refine WP.val rfl rfl rfl rfl (Yld.assign rfl rfl) ?_
  refine WP.nil ?_
  refine WP.next ?_
  refine WP.seq ?_
  refine WP.region [0, 1, 2, 3, 4, 5] rfl ?_
  refine WP.val rfl rfl rfl rfl (Yld.move rfl rfl) ?_
  refine WP.val rfl rfl rfl rfl (Yld.lenR hb rfl ty_sl_23 rfl) ?_
  refine WP.loud rfl rfl ?_
  refine Op.make (l := 0) (c := bs.length) rfl ty_sl_23 ty_el_23 rfl rfl rfl rfl rfl (Nat.zero_le _) (by omega) (by omega) (fun bc => ?_)
  rw [show (List.replicate bs.length (Value.cells (.int .u8 0)).toList).flatten = bytesV (List.replicate bs.length 0) from bytes0' _]
  refine WP.val rfl rfl rfl rfl (Yld.move rfl rfl) ?_
  refine WP.loud rfl rfl ?_
  refine Op.append rfl ty_sl_23 ty_el_23 rfl rfl rfl rfl rfl (Own.blk (b := bc) (cap := bs.length) (n := 0) (xs := []) (sp := bytesV (List.replicate bs.length 0)) rfl (by simp [bytesV_len]) (Nat.zero_le _)) (hb.mono (fun b o h => .inr h)) (by repeat (first | exact Take.nil | apply Take.cons | apply Take.app | exact Rm.chunk | exact Rm.here | apply Rm.skip | apply Rm.skipS | apply Take.all)) (bytesV_one _) (by omega) (by omega) (fun v' Lo' hown => ?_)
  rw [List.nil_append, Nat.zero_add] at hown
  refine WP.val rfl rfl rfl rfl (Yld.assign rfl rfl) ?_
  refine WP.nil ?_
  refine WP.sub [(0, _), (2, _)] ?_ ⟨rfl, rfl, trivial⟩
  refine WP.next ?_
  refine WP.ret ?_
  refine WP.fin .ret (.inr rfl) (res1 rfl rfl) (Lo' ++ []) (by repeat (first | exact Take.nil | apply Take.cons | apply Take.app | exact Rm.chunk | exact Rm.here | apply Rm.skip | apply Rm.skipS | apply Take.all)) (by repeat (first | exact Leave.done | apply Leave.drop | apply Leave.dropS)) (Imm.le_refl _) ?_
  exact ⟨rfl, by simpa using hown⟩


end Go.Hp
