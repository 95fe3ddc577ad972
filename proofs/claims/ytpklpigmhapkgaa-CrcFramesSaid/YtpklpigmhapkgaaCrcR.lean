import Derived.Test.YtpklpigmhapkgaaCrcQ
set_option linter.unusedVariables false
set_option linter.unusedSimpArgs false
namespace Go.Hp
open Go Go.Proofs

theorem four_div (x : BitVec 32) : ([⟨(x % 256#32).setWidth 8⟩, ⟨(x / 256#32 % 256#32).setWidth 8⟩, ⟨(x / 65536#32 % 256#32).setWidth 8⟩, ⟨(x / 16777216#32).setWidth 8⟩] : List UInt8) = four x := by
  unfold four
  have h1 : (x % 256#32).setWidth 8 = x.setWidth 8 := by apply BitVec.eq_of_toNat_eq; simp only [BitVec.toNat_setWidth, BitVec.toNat_umod]; show x.toNat % 256 % 256 = x.toNat % 256; omega
  have h2 : (x / 256#32 % 256#32).setWidth 8 = (x >>> 8).setWidth 8 := by apply BitVec.eq_of_toNat_eq; simp only [BitVec.toNat_setWidth, BitVec.toNat_umod, BitVec.toNat_udiv, BitVec.toNat_ushiftRight, Nat.shiftRight_eq_div_pow]; show x.toNat / 256 % 256 % 256 = x.toNat / 256 % 256; omega
  have h3 : (x / 65536#32 % 256#32).setWidth 8 = (x >>> 16).setWidth 8 := by apply BitVec.eq_of_toNat_eq; simp only [BitVec.toNat_setWidth, BitVec.toNat_umod, BitVec.toNat_udiv, BitVec.toNat_ushiftRight, Nat.shiftRight_eq_div_pow]; show x.toNat / 65536 % 256 % 256 = x.toNat / 65536 % 256; omega
  have h4 : (x / 16777216#32).setWidth 8 = (x >>> 24).setWidth 8 := by apply BitVec.eq_of_toNat_eq; simp only [BitVec.toNat_setWidth, BitVec.toNat_udiv, BitVec.toNat_ushiftRight, Nat.shiftRight_eq_div_pow]; show x.toNat / 16777216 % 256 = x.toNat / 16777216 % 256; rfl
  rw [h1, h2, h3, h4]
theorem or_add {x y : BitVec 32} (h : x &&& y = 0#32) (hl : x.toNat + y.toNat < 4294967296) : (x ||| y).toNat = x.toNat + y.toNat := by
  rw [← BitVec.add_eq_or_of_and_eq_zero x y h, BitVec.toNat_add]; exact Nat.mod_eq_of_lt hl
theorem byte_shl (c : UInt8) (k : Nat) (hk : k ≤ 24) : (c.toBitVec.setWidth 32 <<< k).toNat = c.toNat * 2 ^ k := by
  have := c.toNat_lt
  have h2 : c.toNat * 2 ^ k < 4294967296 := by
    have : 2 ^ k ≤ 2 ^ 24 := Nat.pow_le_pow_right (by decide) hk
    have : c.toNat * 2 ^ k ≤ 255 * 2 ^ 24 := Nat.mul_le_mul (by omega) this
    omega
  have e : (c.toBitVec.setWidth 32).toNat = c.toNat := by rw [BitVec.toNat_setWidth]; show c.toNat % 4294967296 = _; omega
  rw [BitVec.toNat_shiftLeft, Nat.shiftLeft_eq, e]
  exact Nat.mod_eq_of_lt h2
theorem low_clear {x : BitVec 32} (c : UInt8) (k : Nat) (h : x.toNat < 2 ^ k) : x &&& (c.toBitVec.setWidth 32 <<< k) = 0#32 := by
  apply BitVec.eq_of_getLsbD_eq
  intro i hi
  rw [BitVec.getLsbD_and, BitVec.getLsbD_shiftLeft]
  by_cases hik : i < k
  · simp [hik]
  · have : x.getLsbD i = false := by
      rw [BitVec.getLsbD, Nat.testBit_lt_two_pow]
      exact Nat.lt_of_lt_of_le h (Nat.pow_le_pow_right (by decide) (by omega))
    rw [this]; simp
theorem word_sum (l : List UInt8) : (word l).toNat = (l.getD 0 0).toNat + 256 * (l.getD 1 0).toNat + 65536 * (l.getD 2 0).toNat + 16777216 * (l.getD 3 0).toNat := by
  unfold word
  generalize l.getD 0 0 = a; generalize l.getD 1 0 = b; generalize l.getD 2 0 = c; generalize l.getD 3 0 = d
  have ha := a.toNat_lt; have hb := b.toNat_lt; have hc := c.toNat_lt; have hd := d.toNat_lt
  have e0 : (a.toBitVec.setWidth 32).toNat = a.toNat := by rw [BitVec.toNat_setWidth]; show a.toNat % 4294967296 = _; omega
  have e1 := byte_shl b 8 (by decide); have e2 := byte_shl c 16 (by decide); have e3 := byte_shl d 24 (by decide)
  have o1 := or_add (low_clear (x := a.toBitVec.setWidth 32) b 8 (by rw [e0]; omega)) (by rw [e0, e1]; omega)
  have o2 := or_add (low_clear (x := a.toBitVec.setWidth 32 ||| b.toBitVec.setWidth 32 <<< 8) c 16 (by rw [o1, e0, e1]; omega)) (by rw [o1, e0, e1, e2]; omega)
  have o3 := or_add (low_clear (x := a.toBitVec.setWidth 32 ||| b.toBitVec.setWidth 32 <<< 8 ||| c.toBitVec.setWidth 32 <<< 16) d 24 (by rw [o2, o1, e0, e1, e2]; omega)) (by rw [o2, o1, e0, e1, e2, e3]; omega)
  rw [o3, o2, o1, e0, e1, e2, e3]; omega
theorem crc_refFour {I : Imm} {x : BitVec 32} : Spec Try.prog 22 [.int .u32 ((x).toNat : Int)] I [] (fun v J L => I = J ∧ ∃ b, v = .slice (some ⟨b, 0, none⟩) 4 4 ∧ L = [(b, row 5 (bytesV (four x)))]) := by
  refine Spec.of Try.func22 rfl Try.ntmps22 (Nat.le_of_ble_eq_true rfl) (fun F => ?_)
  try simp only [List.cons_append, List.nil_append, List.append_assoc]
  dsimp only [argsEnv]
  refine WP.seq ?_
  refine WP.region [0] rfl ?_
  refine WP.val rfl rfl rfl rfl (Yld.assign rfl rfl) ?_
  refine WP.nil ?_
  refine WP.next ?_
  refine WP.seq ?_
  refine WP.region [0, 1, 2, 3, 4, 5, 6, 7, 8, 9, 10, 11, 12, 13, 14, 15] rfl ?_
  refine WP.val rfl rfl rfl rfl (Yld.move rfl rfl) ?_
  refine WP.val rfl rfl rfl rfl (Yld.rem32 x 256#32 (by decide) rfl rfl rfl) ?_
  refine WP.val rfl rfl rfl rfl (Yld.conv32_8 (x % 256#32) rfl ty_un_22 ty_ik_5 rfl) ?_
  refine WP.val rfl rfl rfl rfl (Yld.move rfl rfl) ?_
  refine WP.val rfl rfl rfl rfl (Yld.quo32 x 256#32 (by decide) rfl rfl rfl) ?_
  refine WP.val rfl rfl rfl rfl (Yld.rem32 (x / 256#32) 256#32 (by decide) rfl rfl rfl) ?_
  refine WP.val rfl rfl rfl rfl (Yld.conv32_8 (x / 256#32 % 256#32) rfl ty_un_22 ty_ik_5 rfl) ?_
  refine WP.val rfl rfl rfl rfl (Yld.move rfl rfl) ?_
  refine WP.val rfl rfl rfl rfl (Yld.quo32 x 65536#32 (by decide) rfl rfl rfl) ?_
  refine WP.val rfl rfl rfl rfl (Yld.rem32 (x / 65536#32) 256#32 (by decide) rfl rfl rfl) ?_
  refine WP.val rfl rfl rfl rfl (Yld.conv32_8 (x / 65536#32 % 256#32) rfl ty_un_22 ty_ik_5 rfl) ?_
  refine WP.val rfl rfl rfl rfl (Yld.move rfl rfl) ?_
  refine WP.val rfl rfl rfl rfl (Yld.quo32 x 16777216#32 (by decide) rfl rfl rfl) ?_
  refine WP.val rfl rfl rfl rfl (Yld.conv32_8 (x / 16777216#32) rfl ty_un_22 ty_ik_5 rfl) ?_
  refine WP.loud rfl rfl ?_
  refine Op.buildSlice rfl ty_sl_23 ty_el2_23 rfl rfl rfl rfl (vs := [_, _, _, _]) rfl (segs := [(0, [_]), (1, [_]), (2, [_]), (3, [_])]) (cs := bytesV [⟨(x % 256#32).setWidth 8⟩, ⟨(x / 256#32 % 256#32).setWidth 8⟩, ⟨(x / 65536#32 % 256#32).setWidth 8⟩, ⟨(x / 16777216#32).setWidth 8⟩]) rfl rfl (by repeat (first | exact SetSeg.nil | apply SetSeg.one | exact SetAt.zero | apply SetAt.succ)) (fun bf => ?_)
  rw [four_div]
  refine WP.val rfl rfl rfl rfl (Yld.assign rfl rfl) ?_
  refine WP.nil ?_
  refine WP.sub [(0, _), (2, _)] ?_ ⟨rfl, rfl, trivial⟩
  refine WP.next ?_
  refine WP.ret ?_
  refine WP.fin .ret (.inr rfl) (res1 rfl rfl) [(bf, row 5 (bytesV (four x)))] (by repeat (first | exact Take.nil | apply Take.cons | apply Take.app | exact Rm.chunk | exact Rm.here | apply Rm.skip | apply Rm.skipS | apply Take.all)) (by repeat (first | exact Leave.done | apply Leave.drop | apply Leave.dropS)) (Imm.le_refl _) ?_
  exact ⟨rfl, bf, rfl, rfl⟩

theorem crc_refNumber {I : Imm} {bs : List UInt8} {vb : Value} (hb : SlRd (fun b o => I.blk b = some o) vb bs.length 1 (bytesV bs)) (h4 : 4 ≤ bs.length) : Spec Try.prog 25 [vb] I [] (fun v J L => v = .int .i64 ((word bs).toNat : Int) ∧ I = J ∧ L = []) := by
  refine Spec.of Try.func25 rfl Try.ntmps25 (Nat.le_of_ble_eq_true rfl) (fun F => ?_)
  try simp only [List.cons_append, List.nil_append, List.append_assoc]
  dsimp only [argsEnv]
  refine WP.seq ?_
  refine WP.region [0] rfl ?_
  refine WP.val rfl rfl rfl rfl (Yld.assign rfl rfl) ?_
  refine WP.nil ?_
  refine WP.next ?_
  refine WP.seq ?_
  obtain ⟨bb, kb, cb, Tb, frb, arrb, rfl, hcb, hbb, hb4⟩ := hb.get (by omega)
  have e0 := take_cells hb4 0 (byteV (bs.getD 0 0)) (by simp [bytesV, List.getD_eq_getElem?_getD, show 0 < bs.length by omega]) (by rw [bytesV_len]; omega)
  rw [Array.getElem?_toList] at e0
  have t0 := ((bs.getD 0 0)).toNat_lt
  have e1 := take_cells hb4 1 (byteV (bs.getD 1 0)) (by simp [bytesV, List.getD_eq_getElem?_getD, show 1 < bs.length by omega]) (by rw [bytesV_len]; omega)
  rw [Array.getElem?_toList] at e1
  have t1 := ((bs.getD 1 0)).toNat_lt
  have e2 := take_cells hb4 2 (byteV (bs.getD 2 0)) (by simp [bytesV, List.getD_eq_getElem?_getD, show 2 < bs.length by omega]) (by rw [bytesV_len]; omega)
  rw [Array.getElem?_toList] at e2
  have t2 := ((bs.getD 2 0)).toNat_lt
  have e3 := take_cells hb4 3 (byteV (bs.getD 3 0)) (by simp [bytesV, List.getD_eq_getElem?_getD, show 3 < bs.length by omega]) (by rw [bytesV_len]; omega)
  rw [Array.getElem?_toList] at e3
  have t3 := ((bs.getD 3 0)).toNat_lt
  refine WQ.startAll Trymixed (by kernel_rfl) _ rfl ?_
  refine WQ.val rfl rfl rfl (Yld.move rfl rfl) ?_
  refine WQ.val rfl rfl rfl (Yld.indexAddr (i := 0) rfl ty_sl_23 rfl rfl (by omega)) ?_
  refine WQ.val rfl rfl rfl (Yld.loadC rfl ty_sc_5 rfl (There.i hbb) e0) ?_
  refine WQ.val rfl rfl rfl (Yld.conv64 (a := ((bs.getD 0 0).toNat : Int)) rfl ty_un_5 ty_ik_3 rfl (by omega)) ?_
  refine WQ.val rfl rfl rfl (Yld.move rfl rfl) ?_
  refine WQ.val rfl rfl rfl (Yld.indexAddr (i := 1) rfl ty_sl_23 rfl rfl (by omega)) ?_
  refine WQ.val rfl rfl rfl (Yld.loadC rfl ty_sc_5 rfl (There.i hbb) e1) ?_
  refine WQ.val rfl rfl rfl (Yld.conv64 (a := ((bs.getD 1 0).toNat : Int)) rfl ty_un_5 ty_ik_3 rfl (by omega)) ?_
  refine WQ.val rfl rfl rfl (Yld.mul64 rfl rfl rfl (by omega)) ?_
  refine WQ.val rfl rfl rfl (Yld.add64 rfl rfl rfl (by omega)) ?_
  refine WQ.val rfl rfl rfl (Yld.move rfl rfl) ?_
  refine WQ.val rfl rfl rfl (Yld.indexAddr (i := 2) rfl ty_sl_23 rfl rfl (by omega)) ?_
  refine WQ.val rfl rfl rfl (Yld.loadC rfl ty_sc_5 rfl (There.i hbb) e2) ?_
  refine WQ.val rfl rfl rfl (Yld.conv64 (a := ((bs.getD 2 0).toNat : Int)) rfl ty_un_5 ty_ik_3 rfl (by omega)) ?_
  refine WQ.val rfl rfl rfl (Yld.mul64 rfl rfl rfl (by omega)) ?_
  refine WQ.val rfl rfl rfl (Yld.add64 rfl rfl rfl (by omega)) ?_
  refine WQ.val rfl rfl rfl (Yld.move rfl rfl) ?_
  refine WQ.val rfl rfl rfl (Yld.indexAddr (i := 3) rfl ty_sl_23 rfl rfl (by omega)) ?_
  refine WQ.val rfl rfl rfl (Yld.loadC rfl ty_sc_5 rfl (There.i hbb) e3) ?_
  refine WQ.val rfl rfl rfl (Yld.conv64 (a := ((bs.getD 3 0).toNat : Int)) rfl ty_un_5 ty_ik_3 rfl (by omega)) ?_
  refine WQ.val rfl rfl rfl (Yld.mul64 rfl rfl rfl (by omega)) ?_
  refine WQ.val rfl rfl rfl (Yld.add64 rfl rfl rfl (by omega)) ?_
  refine WQ.val rfl rfl rfl (Yld.assign rfl rfl) ?_
  refine WQ.nil ?_
  refine WP.sub [(0, _), (2, _)] ?_ ⟨rfl, rfl, trivial⟩
  refine WP.next ?_
  refine WP.ret ?_
  refine WP.fin .ret (.inr rfl) (res1 rfl rfl) [] (by repeat (first | exact Take.nil | apply Take.cons | apply Take.app | exact Rm.chunk | exact Rm.here | apply Rm.skip | apply Rm.skipS | apply Take.all)) (by repeat (first | exact Leave.done | apply Leave.drop | apply Leave.dropS)) (Imm.le_refl _) ?_
  exact ⟨congrArg (Value.int .i64) (by have := word_sum bs; omega), rfl, rfl⟩

theorem crc_refFrame {I : Imm} {bs : List UInt8} {vb : Value} (hb : SlRd (fun b o => I.blk b = some o) vb bs.length 1 (bytesV bs)) (hbl : bs.length ≤ 140737488355320) : Spec Try.prog 16 [vb] I [] (fun v J L => I = J ∧ Own 5 1 v (bytesV (frame bs)) (frame bs).length L) := by
  refine Spec.of Try.func16 rfl Try.ntmps16 (Nat.le_of_ble_eq_true rfl) (fun F => ?_)
  try simp only [List.cons_append, List.nil_append, List.append_assoc]
  dsimp only [argsEnv]
  refine WP.seq ?_
  refine WP.region [0] rfl ?_
  refine WP.val rfl rfl rfl rfl (Yld.assign rfl rfl) ?_
  refine WP.nil ?_
  refine WP.next ?_
  refine WP.seq ?_
  refine WP.region [0, 1, 2, 3, 4] rfl ?_
  refine WP.val rfl rfl rfl rfl (Yld.move rfl rfl) ?_
  refine WP.val rfl rfl rfl rfl (Yld.lenR hb rfl ty_sl_23 rfl) ?_
  refine WP.val rfl rfl rfl rfl (Yld.conv64_32 bs.length rfl ty_un_3 ty_ik_22 rfl) ?_
  refine WP.loud rfl rfl ?_
  refine Op.call crc_refFour rfl Try.func22 rfl rfl rfl rfl (by repeat (first | exact Take.nil | apply Take.cons | apply Take.app | exact Rm.chunk | exact Rm.here | apply Rm.skip | apply Rm.skipS | apply Take.all)) ?_
  rintro v J L1 hJ ⟨rfl, b1, rfl, rfl⟩
  clear hJ; try simp only [List.cons_append, List.nil_append, List.append_assoc]
  refine WP.share (fun J1 hJ1 hb1 => ?_)
  have hb' := hb.mono (im_mono hJ1)
  refine WP.val rfl rfl rfl rfl (Yld.assign rfl rfl) ?_
  refine WP.nil ?_
  refine WP.sub [(0, _), (2, _), (3, _)] ?_ ⟨rfl, rfl, rfl, trivial⟩
  refine WP.next ?_
  refine WP.seq ?_
  refine WP.region [0, 1, 2, 3, 4, 5] rfl ?_
  refine WP.val rfl rfl rfl rfl (Yld.move rfl rfl) ?_
  refine WP.loud rfl rfl ?_
  refine Op.call (crc_refOf (Im_lit (l := four (BitVec.ofNat 32 bs.length)) (sp := []) (c := 4) (by rw [List.append_nil]; exact hb1) (Nat.le_refl _)) (Nat.le_of_ble_eq_true rfl)) rfl Try.func13 rfl rfl rfl rfl (by repeat (first | exact Take.nil | apply Take.cons | apply Take.app | exact Rm.chunk | exact Rm.here | apply Rm.skip | apply Rm.skipS | apply Take.all)) ?_
  rintro v J L1 hJ ⟨rfl, rfl, rfl⟩
  clear hJ; try simp only [List.cons_append, List.nil_append, List.append_assoc]
  refine WP.val rfl rfl rfl rfl (Yld.move rfl rfl) ?_
  refine WP.loud rfl rfl ?_
  refine Op.call (crc_refAdd hb' (by omega) (s := crcOf (four (BitVec.ofNat 32 bs.length)))) rfl Try.func14 rfl rfl rfl rfl (by repeat (first | exact Take.nil | apply Take.cons | apply Take.app | exact Rm.chunk | exact Rm.here | apply Rm.skip | apply Rm.skipS | apply Take.all)) ?_
  rintro v J L1 hJ ⟨rfl, rfl, rfl⟩
  clear hJ; try simp only [List.cons_append, List.nil_append, List.append_assoc]
  refine WP.loud rfl rfl ?_
  refine Op.call crc_refFour rfl Try.func22 rfl rfl rfl rfl (by repeat (first | exact Take.nil | apply Take.cons | apply Take.app | exact Rm.chunk | exact Rm.here | apply Rm.skip | apply Rm.skipS | apply Take.all)) ?_
  rintro v J L1 hJ ⟨rfl, b2, rfl, rfl⟩
  clear hJ; try simp only [List.cons_append, List.nil_append, List.append_assoc]
  refine WP.share (fun J2 hJ2 hb2 => ?_)
  have hb'' := hb'.mono (im_mono hJ2)
  have hb1' := hJ2.2 _ _ hb1
  refine WP.val rfl rfl rfl rfl (Yld.assign rfl rfl) ?_
  refine WP.nil ?_
  refine WP.sub [(0, _), (2, _), (3, _), (4, _)] ?_ ⟨rfl, rfl, rfl, rfl, trivial⟩
  refine WP.next ?_
  refine WP.seq ?_
  refine WP.region [0, 1, 2] rfl ?_
  refine WP.val rfl rfl rfl rfl (Yld.move rfl rfl) ?_
  refine WP.loud rfl rfl ?_
  refine Op.append rfl ty_sl_23 ty_el_23 rfl rfl rfl rfl rfl .none0 ((Im_lit (l := four (BitVec.ofNat 32 bs.length)) (sp := []) (c := 4) (by rw [List.append_nil]; exact hb1') (Nat.le_refl _)).mono (fun b o h => .inr h)) (by repeat (first | exact Take.nil | apply Take.cons | apply Take.app | exact Rm.chunk | exact Rm.here | apply Rm.skip | apply Rm.skipS | apply Take.all)) (bytesV_one _) (by simp [four]) (by simp [four]) (fun vx Lx hx => ?_)
  try simp only [List.cons_append, List.nil_append, List.append_assoc]
  refine WP.val rfl rfl rfl rfl (Yld.assign rfl rfl) ?_
  refine WP.nil ?_
  refine WP.sub [(0, _), (2, _), (3, _), (4, _), (5, _)] ?_ ⟨rfl, rfl, rfl, rfl, rfl, trivial⟩
  refine WP.next ?_
  refine WP.seq ?_
  refine WP.region [0, 1, 2, 3] rfl ?_
  refine WP.val rfl rfl rfl rfl (Yld.move rfl rfl) ?_
  refine WP.val rfl rfl rfl rfl (Yld.move rfl rfl) ?_
  refine WP.loud rfl rfl ?_
  refine Op.append rfl ty_sl_23 ty_el_23 rfl rfl rfl rfl rfl hx ((Im_lit (l := four (crcAdd (crcOf (four (BitVec.ofNat 32 bs.length))) bs)) (sp := []) (c := 4) (by rw [List.append_nil]; exact hb2) (Nat.le_refl _)).mono (fun b o h => .inr h)) (by repeat (first | exact Take.nil | apply Take.cons | apply Take.app | exact Rm.chunk | exact Rm.here | apply Rm.skip | apply Rm.skipS | apply Take.all)) (bytesV_one _) (by simp [four]) (by simp [four]) (fun vy Ly hy => ?_)
  try simp only [List.cons_append, List.nil_append, List.append_assoc]
  refine WP.val rfl rfl rfl rfl (Yld.assign rfl rfl) ?_
  refine WP.nil ?_
  refine WP.sub [(0, _), (2, _), (3, _), (4, _), (5, _)] ?_ ⟨rfl, rfl, rfl, rfl, rfl, trivial⟩
  refine WP.next ?_
  refine WP.seq ?_
  refine WP.region [0, 1, 2, 3] rfl ?_
  refine WP.val rfl rfl rfl rfl (Yld.move rfl rfl) ?_
  refine WP.val rfl rfl rfl rfl (Yld.move rfl rfl) ?_
  refine WP.loud rfl rfl ?_
  refine Op.append rfl ty_sl_23 ty_el_23 rfl rfl rfl rfl rfl hy (hb''.mono (fun b o h => .inr h)) (by repeat (first | exact Take.nil | apply Take.cons | apply Take.app | exact Rm.chunk | exact Rm.here | apply Rm.skip | apply Rm.skipS | apply Take.all)) (bytesV_one _) (by simp [four]; omega) (by simp [four]; omega) (fun vz Lz hz => ?_)
  try simp only [List.cons_append, List.nil_append, List.append_assoc]
  refine WP.val rfl rfl rfl rfl (Yld.assign rfl rfl) ?_
  refine WP.nil ?_
  refine WP.sub [(0, _), (2, _), (3, _), (4, _), (5, _)] ?_ ⟨rfl, rfl, rfl, rfl, rfl, trivial⟩
  refine WP.back (Imm.le_trans hJ1 hJ2) ?_
  refine WP.next ?_
  refine WP.ret ?_
  refine WP.fin .ret (.inr rfl) (res1 rfl rfl) (Lz ++ []) (by repeat (first | exact Take.nil | apply Take.cons | apply Take.app | exact Rm.chunk | exact Rm.here | apply Rm.skip | apply Rm.skipS | apply Take.all)) (by repeat (first | exact Leave.done | apply Leave.drop | apply Leave.dropS)) (Imm.le_refl _) ?_
  refine ⟨rfl, ?_⟩
  have ez : [] ++ bytesV (four (BitVec.ofNat 32 bs.length)) ++ bytesV (four (crcAdd (crcOf (four (BitVec.ofNat 32 bs.length))) bs)) ++ bytesV bs = bytesV (frame bs) := by simp [bytesV, frame]
  have el : 0 + (four (BitVec.ofNat 32 bs.length)).length + (four (crcAdd (crcOf (four (BitVec.ofNat 32 bs.length))) bs)).length + bs.length = (frame bs).length := by simp [frame, four]; omega
  rw [ez, el] at hz
  simpa using hz

theorem crc_refUnframe {I : Imm} {bs : List UInt8} {vb : Value} {most : Int} (hb : SlRd (fun b o => I.blk b = some o) vb bs.length 1 (bytesV bs)) (hbl : bs.length ≤ 140737488355320) : Spec Try.prog 18 [vb, .int .i64 most] I [] (fun v J L => I = J ∧ ∃ v1 v2, v = .tuple #[v1, v2, .int .i64 (unframe bs most).2.2] ∧ SlRd (fun b o => I.blk b = some o) v1 (unframe bs most).1.length 1 (bytesV (unframe bs most).1) ∧ SlRd (fun b o => I.blk b = some o) v2 (unframe bs most).2.1.length 1 (bytesV (unframe bs most).2.1) ∧ L = []) := by
  refine Spec.of Try.func18 rfl Try.ntmps18 (Nat.le_of_ble_eq_true rfl) (fun F => ?_)
  try simp only [List.cons_append, List.nil_append, List.append_assoc]
  dsimp only [argsEnv]
  refine WP.seq ?_
  refine WP.region [0, 1, 2] rfl ?_
  refine WP.val rfl rfl rfl rfl (Yld.assign rfl rfl) ?_
  refine WP.val rfl rfl rfl rfl (Yld.assign rfl rfl) ?_
  refine WP.val rfl rfl rfl rfl (Yld.assign rfl rfl) ?_
  refine WP.nil ?_
  refine WP.next ?_
  refine WP.seq ?_
  refine WP.seq ?_
  refine WP.region [0, 1, 2] rfl ?_
  refine WP.val rfl rfl rfl rfl (Yld.move rfl rfl) ?_
  refine WP.val rfl rfl rfl rfl (Yld.lenR hb rfl ty_sl_23 rfl) ?_
  refine WP.split rfl rfl rfl rfl (Yld.lss rfl rfl rfl) (fun hl8 => ?_) (fun hl8 => ?_)
  · refine WP.nil ?_
    refine WP.sub [(0, _), (1, _), (4, _), (5, _), (6, _), (10, _)] ?_ ⟨rfl, rfl, rfl, rfl, rfl, rfl, trivial⟩
    refine WP.next ?_
    refine WP.condT rfl ?_
    refine WP.seq ?_
    refine WP.region [0, 1, 2] rfl ?_
    refine WP.val rfl rfl rfl rfl (Yld.assign rfl rfl) ?_
    refine WP.val rfl rfl rfl rfl (Yld.assign rfl rfl) ?_
    refine WP.val rfl rfl rfl rfl (Yld.assign rfl rfl) ?_
    refine WP.nil ?_
    refine WP.next ?_
    refine WP.ret ?_
    refine WP.fin .ret (.inr rfl) (res3 rfl rfl rfl rfl) [] (by repeat (first | exact Take.nil | apply Take.cons | apply Take.app | exact Rm.chunk | exact Rm.here | apply Rm.skip | apply Rm.skipS | apply Take.all)) (by repeat (first | exact Leave.done | apply Leave.drop | apply Leave.dropS)) (Imm.le_refl _) ?_
    have hr : unframe bs most = ([], [], 20) := by unfold unframe; rw [if_pos (by omega)]
    rw [hr]; exact ⟨rfl, _, _, rfl, (show SlRd _ (.slice none 0 0) ([] : List UInt8).length 1 (bytesV []) from ⟨none, 0, rfl, Nat.le_refl _, rfl, .inl rfl⟩), (show SlRd _ (.slice none 0 0) ([] : List UInt8).length 1 (bytesV []) from ⟨none, 0, rfl, Nat.le_refl _, rfl, .inl rfl⟩), rfl⟩
  · refine WP.nil ?_
    refine WP.sub [(0, _), (1, _), (4, _), (5, _), (6, _), (10, _)] ?_ ⟨rfl, rfl, rfl, rfl, rfl, rfl, trivial⟩
    refine WP.next ?_
    refine WP.condF rfl ?_
    refine WP.skip ?_
    refine WP.next ?_
    refine WP.seq ?_
    have s2 := sub_rd (l := 0) (h := 4) hb (by omega) (by omega)
    have s2' : SlRd (fun b o => I.blk b = some o) (subSl 1 0 4 vb) (bs.take 4).length 1 (bytesV (bs.take 4)) := s2
    have w4 : word (bs.take 4) = word bs := by simp [word, List.getD_eq_getElem?_getD, List.getElem?_take]
    refine WP.region [0, 1, 2, 3] rfl ?_
    refine WP.val rfl rfl rfl rfl (Yld.move rfl rfl) ?_
    refine WP.val rfl rfl rfl rfl (Yld.sliceR (l := 0) (h := 4) hb rfl ty_sl_23 rfl Env.lim0 (Env.limS (n := 4) rfl) (by omega) (by omega)) ?_
    refine WP.loud rfl rfl ?_
    refine Op.call (crc_refNumber s2' (by rw [List.length_take]; omega)) rfl Try.func25 rfl rfl rfl rfl (by repeat (first | exact Take.nil | apply Take.cons | apply Take.app | exact Rm.chunk | exact Rm.here | apply Rm.skip | apply Rm.skipS | apply Take.all)) ?_
    rintro v J L1 hJ ⟨rfl, rfl, rfl⟩
    clear hJ; try simp only [List.cons_append, List.nil_append, List.append_assoc]
    rw [w4]
    refine WP.val rfl rfl rfl rfl (Yld.assign rfl rfl) ?_
    refine WP.nil ?_
    refine WP.sub [(0, _), (1, _), (4, _), (5, _), (6, _), (7, _), (10, _)] ?_ ⟨rfl, rfl, rfl, rfl, rfl, rfl, rfl, trivial⟩
    refine WP.next ?_
    refine WP.seq ?_
    refine WP.seq ?_
    refine WP.region [0, 1, 2] rfl ?_
    refine WP.val rfl rfl rfl rfl (Yld.move rfl rfl) ?_
    refine WP.val rfl rfl rfl rfl (Yld.move rfl rfl) ?_
    refine WP.split rfl rfl rfl rfl (Yld.gtr rfl rfl rfl) (fun g1 => ?_) (fun g1 => ?_)
    · refine WP.nil ?_
      refine WP.sub [(0, _), (1, _), (4, _), (5, _), (6, _), (7, _), (10, _), (16, _)] ?_ ⟨rfl, rfl, rfl, rfl, rfl, rfl, rfl, rfl, trivial⟩
      refine WP.next ?_
      refine WP.condT rfl ?_
      refine WP.seq ?_
      refine WP.region [0, 1, 2] rfl ?_
      refine WP.val rfl rfl rfl rfl (Yld.assign rfl rfl) ?_
      refine WP.val rfl rfl rfl rfl (Yld.assign rfl rfl) ?_
      refine WP.val rfl rfl rfl rfl (Yld.assign rfl rfl) ?_
      refine WP.nil ?_
      refine WP.next ?_
      refine WP.ret ?_
      refine WP.fin .ret (.inr rfl) (res3 rfl rfl rfl rfl) [] (by repeat (first | exact Take.nil | apply Take.cons | apply Take.app | exact Rm.chunk | exact Rm.here | apply Rm.skip | apply Rm.skipS | apply Take.all)) (by repeat (first | exact Leave.done | apply Leave.drop | apply Leave.dropS)) (Imm.le_refl _) ?_
      have hr : unframe bs most = ([], [], 2) := by unfold unframe; rw [if_neg (by omega), if_pos g1]
      rw [hr]; exact ⟨rfl, _, _, rfl, (show SlRd _ (.slice none 0 0) ([] : List UInt8).length 1 (bytesV []) from ⟨none, 0, rfl, Nat.le_refl _, rfl, .inl rfl⟩), (show SlRd _ (.slice none 0 0) ([] : List UInt8).length 1 (bytesV []) from ⟨none, 0, rfl, Nat.le_refl _, rfl, .inl rfl⟩), rfl⟩
    · refine WP.nil ?_
      refine WP.sub [(0, _), (1, _), (4, _), (5, _), (6, _), (7, _), (10, _), (16, _)] ?_ ⟨rfl, rfl, rfl, rfl, rfl, rfl, rfl, rfl, trivial⟩
      refine WP.next ?_
      refine WP.condF rfl ?_
      refine WP.skip ?_
      refine WP.next ?_
      refine WP.seq ?_
      refine WP.seq ?_
      refine WP.region [0, 1, 2, 3, 4] rfl ?_
      refine WP.val rfl rfl rfl rfl (Yld.move rfl rfl) ?_
      refine WP.val rfl rfl rfl rfl (Yld.move rfl rfl) ?_
      refine WP.val rfl rfl rfl rfl (Yld.lenR hb rfl ty_sl_23 rfl) ?_
      refine WP.val rfl rfl rfl rfl (Yld.sub64 rfl rfl rfl (by omega)) ?_
      refine WP.split rfl rfl rfl rfl (Yld.gtr rfl rfl rfl) (fun g2 => ?_) (fun g2 => ?_)
      · refine WP.nil ?_
        refine WP.sub [(0, _), (1, _), (4, _), (5, _), (6, _), (7, _), (10, _), (16, _), (21, _)] ?_ ⟨rfl, rfl, rfl, rfl, rfl, rfl, rfl, rfl, rfl, trivial⟩
        refine WP.next ?_
        refine WP.condT rfl ?_
        refine WP.seq ?_
        refine WP.region [0, 1, 2] rfl ?_
        refine WP.val rfl rfl rfl rfl (Yld.assign rfl rfl) ?_
        refine WP.val rfl rfl rfl rfl (Yld.assign rfl rfl) ?_
        refine WP.val rfl rfl rfl rfl (Yld.assign rfl rfl) ?_
        refine WP.nil ?_
        refine WP.next ?_
        refine WP.ret ?_
        refine WP.fin .ret (.inr rfl) (res3 rfl rfl rfl rfl) [] (by repeat (first | exact Take.nil | apply Take.cons | apply Take.app | exact Rm.chunk | exact Rm.here | apply Rm.skip | apply Rm.skipS | apply Take.all)) (by repeat (first | exact Leave.done | apply Leave.drop | apply Leave.dropS)) (Imm.le_refl _) ?_
        have hr : unframe bs most = ([], [], 20) := by unfold unframe; rw [if_neg (by omega), if_neg g1, if_pos g2]
        rw [hr]; exact ⟨rfl, _, _, rfl, (show SlRd _ (.slice none 0 0) ([] : List UInt8).length 1 (bytesV []) from ⟨none, 0, rfl, Nat.le_refl _, rfl, .inl rfl⟩), (show SlRd _ (.slice none 0 0) ([] : List UInt8).length 1 (bytesV []) from ⟨none, 0, rfl, Nat.le_refl _, rfl, .inl rfl⟩), rfl⟩
      · refine WP.nil ?_
        refine WP.sub [(0, _), (1, _), (4, _), (5, _), (6, _), (7, _), (10, _), (16, _), (21, _)] ?_ ⟨rfl, rfl, rfl, rfl, rfl, rfl, rfl, rfl, rfl, trivial⟩
        refine WP.next ?_
        refine WP.condF rfl ?_
        refine WP.skip ?_
        refine WP.next ?_
        refine WP.seq ?_
        refine WP.seq ?_
        have hwn : 8 + (word bs).toNat ≤ bs.length := by omega
        have s1 := sub_rd (l := 4) (h := 8) hb (by omega) (by omega)
        have s3 := sub_rd (l := 8) (h := 8 + (word bs).toNat) hb (by omega) (by omega)
        have z3 : 8 + (word bs).toNat - 8 = (word bs).toNat := by omega
        rw [z3] at s3
        have w8 : word ((bs.drop 4).take (8 - 4)) = word (bs.drop 4) := by simp [word, List.getD_eq_getElem?_getD, List.getElem?_take]
        refine WQ.startAll Trymixed (by kernel_rfl) _ rfl ?_
        refine WQ.val rfl rfl rfl (Yld.move rfl rfl) ?_
        refine WQ.val rfl rfl rfl (Yld.sliceR (l := 4) (h := 8) hb rfl ty_sl_23 rfl (Env.limS (n := 4) rfl) (Env.limS (n := 8) rfl) (by omega) (by omega)) ?_
        refine WQ.call (crc_refNumber s1 (by rw [List.length_take, List.length_drop]; omega)) (by rintro v' J L1 ⟨rfl, rfl, rfl⟩; exact ⟨rfl, rfl, rfl⟩) rfl Try.func25 rfl rfl rfl rfl rfl (by repeat (first | exact Take.nil | apply Take.cons | apply Take.app | exact Rm.chunk | exact Rm.here | apply Rm.skip | apply Rm.skipS | apply Take.all)) ?_
        rw [w8]
        refine WQ.val rfl rfl rfl (Yld.conv64_32' (word (bs.drop 4)) rfl ty_un_3 ty_ik_22 rfl) ?_
        refine WQ.val rfl rfl rfl (Yld.move rfl rfl) ?_
        refine WQ.val rfl rfl rfl (Yld.sliceR (l := 0) (h := 4) hb rfl ty_sl_23 rfl Env.lim0 (Env.limS (n := 4) rfl) (by omega) (by omega)) ?_
        refine WQ.call (crc_refOf s2' (by simp; omega)) (by rintro v' J L1 ⟨rfl, rfl, rfl⟩; exact ⟨rfl, rfl, rfl⟩) rfl Try.func13 rfl rfl rfl rfl rfl (by repeat (first | exact Take.nil | apply Take.cons | apply Take.app | exact Rm.chunk | exact Rm.here | apply Rm.skip | apply Rm.skipS | apply Take.all)) ?_
        refine WQ.val rfl rfl rfl (Yld.move rfl rfl) ?_
        refine WQ.val rfl rfl rfl (Yld.move rfl rfl) ?_
        refine WQ.val rfl rfl rfl (Yld.add64 rfl rfl rfl (by omega)) ?_
        refine WQ.val rfl rfl rfl (Yld.sliceR (l := 8) (h := 8 + (word bs).toNat) hb rfl ty_sl_23 rfl (Env.limS (n := 8) rfl) (Env.limS (n := 8 + (word bs).toNat) (congrArg (fun z => some (Value.int .i64 z)) (by omega))) (by omega) (by omega)) ?_
        refine WQ.call (crc_refAdd s3 (by simp; omega) (s := crcOf (bs.take 4))) (by rintro v' J L1 ⟨rfl, rfl, rfl⟩; exact ⟨rfl, rfl, rfl⟩) rfl Try.func14 rfl rfl rfl rfl rfl (by repeat (first | exact Take.nil | apply Take.cons | apply Take.app | exact Rm.chunk | exact Rm.here | apply Rm.skip | apply Rm.skipS | apply Take.all)) ?_
        refine WQ.split rfl rfl rfl (Yld.neq rfl rfl rfl) (fun g3 => ?_) (fun g3 => ?_)
        · refine WQ.nil ?_
          refine WP.sub [(0, _), (1, _), (4, _), (5, _), (6, _), (7, _), (10, _), (16, _), (21, _), (34, _)] ?_ ⟨rfl, rfl, rfl, rfl, rfl, rfl, rfl, rfl, rfl, rfl, trivial⟩
          refine WP.next ?_
          refine WP.condT rfl ?_
          refine WP.seq ?_
          refine WP.region [0, 1, 2] rfl ?_
          refine WP.val rfl rfl rfl rfl (Yld.assign rfl rfl) ?_
          refine WP.val rfl rfl rfl rfl (Yld.assign rfl rfl) ?_
          refine WP.val rfl rfl rfl rfl (Yld.assign rfl rfl) ?_
          refine WP.nil ?_
          refine WP.next ?_
          refine WP.ret ?_
          refine WP.fin .ret (.inr rfl) (res3 rfl rfl rfl rfl) [] (by repeat (first | exact Take.nil | apply Take.cons | apply Take.app | exact Rm.chunk | exact Rm.here | apply Rm.skip | apply Rm.skipS | apply Take.all)) (by repeat (first | exact Leave.done | apply Leave.drop | apply Leave.dropS)) (Imm.le_refl _) ?_
          have hr : unframe bs most = ([], [], 21) := by unfold unframe; rw [if_neg (by omega), if_neg g1, if_neg g2, if_pos (fun h => g3 (by rw [h]))]
          rw [hr]; exact ⟨rfl, _, _, rfl, (show SlRd _ (.slice none 0 0) ([] : List UInt8).length 1 (bytesV []) from ⟨none, 0, rfl, Nat.le_refl _, rfl, .inl rfl⟩), (show SlRd _ (.slice none 0 0) ([] : List UInt8).length 1 (bytesV []) from ⟨none, 0, rfl, Nat.le_refl _, rfl, .inl rfl⟩), rfl⟩
        · refine WQ.nil ?_
          refine WP.sub [(0, _), (1, _), (4, _), (5, _), (6, _), (7, _), (10, _), (16, _), (21, _), (34, _)] ?_ ⟨rfl, rfl, rfl, rfl, rfl, rfl, rfl, rfl, rfl, rfl, trivial⟩
          refine WP.next ?_
          refine WP.condF rfl ?_
          refine WP.skip ?_
          refine WP.next ?_
          refine WP.seq ?_
          have s4 := sub_rd (l := 8 + (word bs).toNat) (h := bs.length) hb (by omega) (Nat.le_refl _)
          have z4 : (bs.drop (8 + (word bs).toNat)).take (bs.length - (8 + (word bs).toNat)) = bs.drop (8 + (word bs).toNat) := List.take_of_length_le (by simp)
          rw [z4] at s4
          refine WQ.startAll Trymixed (by kernel_rfl) _ rfl ?_
          refine WQ.val rfl rfl rfl (Yld.move rfl rfl) ?_
          refine WQ.val rfl rfl rfl (Yld.move rfl rfl) ?_
          refine WQ.val rfl rfl rfl (Yld.add64 rfl rfl rfl (by omega)) ?_
          refine WQ.val rfl rfl rfl (Yld.sliceR (l := 8) (h := 8 + (word bs).toNat) hb rfl ty_sl_23 rfl (Env.limS (n := 8) rfl) (Env.limS (n := 8 + (word bs).toNat) (congrArg (fun z => some (Value.int .i64 z)) (by omega))) (by omega) (by omega)) ?_
          refine WQ.val rfl rfl rfl (Yld.move rfl rfl) ?_
          refine WQ.val rfl rfl rfl (Yld.move rfl rfl) ?_
          refine WQ.val rfl rfl rfl (Yld.add64 rfl rfl rfl (by omega)) ?_
          refine WQ.val rfl rfl rfl (Yld.sliceR (l := 8 + (word bs).toNat) (h := bs.length) hb rfl ty_sl_23 rfl (Env.limS (n := 8 + (word bs).toNat) (congrArg (fun z => some (Value.int .i64 z)) (by omega))) Env.lim0 (by omega) (by omega)) ?_
          refine WQ.val rfl rfl rfl (Yld.assign rfl rfl) ?_
          refine WQ.val rfl rfl rfl (Yld.assign rfl rfl) ?_
          refine WQ.val rfl rfl rfl (Yld.assign rfl rfl) ?_
          refine WQ.nil ?_
          refine WP.sub [(0, _), (1, _), (4, _), (5, _), (6, _), (7, _), (10, _), (16, _), (21, _), (34, _)] ?_ ⟨rfl, rfl, rfl, rfl, rfl, rfl, rfl, rfl, rfl, rfl, trivial⟩
          refine WP.next ?_
          refine WP.ret ?_
          refine WP.fin .ret (.inr rfl) (res3 rfl rfl rfl rfl) [] (by repeat (first | exact Take.nil | apply Take.cons | apply Take.app | exact Rm.chunk | exact Rm.here | apply Rm.skip | apply Rm.skipS | apply Take.all)) (by repeat (first | exact Leave.done | apply Leave.drop | apply Leave.dropS)) (Imm.le_refl _) ?_
          have hr : unframe bs most = ((bs.drop 8).take (word bs).toNat, bs.drop (8 + (word bs).toNat), 0) := by unfold unframe; rw [if_neg (by omega), if_neg g1, if_neg g2, if_neg (fun h => h (u32_inj (Classical.not_not.1 g3)))]
          rw [hr]; exact ⟨rfl, _, _, rfl, s3, s4, rfl⟩


end Go.Hp
