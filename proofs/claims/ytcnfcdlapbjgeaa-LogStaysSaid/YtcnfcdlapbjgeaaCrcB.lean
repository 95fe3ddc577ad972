import Derived.Test.YtcnfcdlapbjgeaaCrcA
set_option linter.unusedVariables false
set_option linter.unusedSimpArgs false
namespace Go.Hp
open Go Go.Proofs
theorem crc_Add {I : Imm} {bs : List UInt8} {vb : Value} (hb : SlRd (fun b o => I.blk b = some o) vb bs.length 1 (bytesV bs)) (hbl : bs.length ≤ 1152921504606846976) {s : BitVec 32} : Spec Try.prog 72 [.int .u32 ((s).toNat : Int), vb] I [] (fun v J L => v = .int .u32 ((crcAdd s bs).toNat : Int) ∧ I = J ∧ L = []) := by
 refine Spec.of Try.func72 rfl Try.ntmps72 (Nat.le_of_ble_eq_true rfl) (fun F => ?_)
 try simp only [nf]
 dsimp only [argsEnv]
 refine WP.seq ?_
 refine WP.region [0] rfl ?_
 refine WP.mv rfl rfl ?_
 refine WP.nil ?_
 refine WP.next ?_
 refine WP.seq ?_
 refine WP.region [0, 1, 2] rfl ?_
 refine WP.loud rfl rfl ?_
 refine Op.cl (crc_nibbles _) rfl Try.func73 rfl rfl rfl rfl ?_
 rintro v J L1 - ⟨rfl, rfl, rfl⟩
 try simp only [nf]
 refine WP.loud rfl rfl ?_
 refine Op.alloc rfl rfl rfl ty_zr_142 (fun bt => ?_)
 refine WP.loud rfl rfl ?_
 refine Op.sA rfl rfl ty_sz_142 rfl rfl rfl (u32s_one _) rfl ?_
 refine WP.nil ?_
 refine WP.sub [(0, _), (1, _), (4, _), (5, _)] ?_ ⟨rfl, rfl, rfl, rfl, trivial⟩
 refine WP.next ?_
 refine WP.seq ?_
 refine WP.region [0, 1, 2] rfl ?_
 refine WP.mv rfl rfl ?_
 refine WP.vl rfl (Yld.not32 s rfl rfl) ?_
 refine WP.mv rfl rfl ?_
 refine WP.nil ?_
 refine WP.sub [(0, _), (1, _), (4, _), (5, _), (6, _)] ?_ ⟨rfl, rfl, rfl, rfl, rfl, trivial⟩
 refine WP.next ?_
 refine WP.seq ?_
 refine WP.seq ?_
 refine WP.region [0, 1, 2] rfl ?_
 refine WP.mv rfl rfl ?_
 refine WP.vl rfl (Yld.lenR hb rfl ty_sl_46 rfl) ?_
 refine WP.mv rfl rfl ?_
 refine WP.nil ?_
 refine WP.next ?_
 refine WP.block ?_
 refine WP.loop (X := Nat) (fun i : Nat => [(5, .pointer (some ⟨bt, 0, none⟩)), (6, .int .u32 ((((bs.take i).foldl byteStep (~~~s))).toNat : Int)), (12, vb), (13, .int .i64 (bs.length : Int)), (14, .int .i64 (i : Int))]) (fun _ => I) (fun _ => (bt, row 142 (u32s tabs)) :: F) (fun i => i ≤ bs.length) (fun i => bs.length - i) 0 (Nat.zero_le _) ⟨rfl, rfl, rfl, rfl, rfl, trivial⟩ rfl (by (try dsimp only); repeat (first | exact Rm.chunk | exact Rm.here | exact Rm.nil0 | apply Rm.skip | apply Rm.skipS | apply PX.cons | (apply PX.done; (repeat (first | exact Leave.done | apply Leave.drop | apply Leave.dropS)); done) | apply PX.app)) ?_
 intro i hi0
 try dsimp only
 try simp only [nf]
 refine WP.seq ?_
 refine WP.region [0] rfl ?_
 refine WP.split rfl rfl rfl rfl (Yld.lss rfl rfl rfl) (fun hlt => ?_) (fun hlt => ?_)
 ·have hi : i < bs.length := by omega
  have hlen := hb.len
  obtain ⟨bb, kb, cb, Tb, frb, arrb, rfl, hcb, hbb, hb4⟩ := hb.get (by omega)
  have eb := take_cells hb4 i (byteV bs[i]) (by simp [bytesV, hi]) (by rw [bytesV_len]; exact hi)
  rw [Array.getElem?_toList] at eb
  refine WP.nil ?_
  refine WP.next ?_
  refine WP.seq ?_
  refine WP.condT rfl ?_
  refine WP.skip ?_
  refine WP.next ?_
  refine WP.seq ?_
  refine WP.block ?_
  refine WP.seq ?_
  refine WP.region [0, 1, 2] rfl ?_
  refine WP.vl rfl (Yld.indexAddr rfl ty_sl_46 rfl rfl (by omega)) ?_
  refine WP.vl rfl (Yld.loadC rfl ty_sc_5 rfl (There.i hbb) (by rw [Nat.mul_one]; exact eb)) ?_
  refine WP.mv rfl rfl ?_
  refine WP.nil ?_
  refine WP.sub [(5, _), (6, _), (8, _), (12, _), (13, _), (14, _), (15, _)] ?_ ⟨rfl, rfl, rfl, rfl, rfl, rfl, rfl, trivial⟩
  refine WP.next ?_
  refine WP.seq ?_
  refine WP.region [0, 1, 2, 3, 4] rfl ?_
  iterate 2 refine WP.mv rfl rfl ?_
  refine WP.vl rfl (Yld.conv8_32 bs[i] rfl ty_un_5 ty_ik_138 rfl) ?_
  refine WP.vl rfl (Yld.xor32 ((bs.take i).foldl byteStep (~~~s)) (bs[i].toBitVec.setWidth 32) rfl rfl rfl) ?_
  refine WP.mv rfl rfl ?_
  refine WP.nil ?_
  refine WP.sub [(5, _), (6, _), (8, _), (12, _), (13, _), (14, _), (15, _)] ?_ ⟨rfl, rfl, rfl, rfl, rfl, rfl, rfl, trivial⟩
  refine WP.next ?_
  refine WP.seq ?_
  refine WP.region [0, 1, 2, 3, 4, 5, 6, 7] rfl ?_
  refine WP.mv rfl rfl ?_
  refine WP.vl rfl (Yld.and32 (((bs.take i).foldl byteStep (~~~s)) ^^^ bs[i].toBitVec.setWidth 32) 15#32 rfl rfl rfl) ?_
  refine WP.vl rfl (Yld.indexAddrA rfl ty_ar_142 rfl rfl (and15 _)) ?_
  refine WP.vl rfl (Yld.ld rfl ty_sc_138 rfl (tabs_at (and15 _))) ?_
  refine WP.mv rfl rfl ?_
  refine WP.vl rfl (Yld.shr32 (((bs.take i).foldl byteStep (~~~s)) ^^^ bs[i].toBitVec.setWidth 32) 4 rfl rfl rfl (by decide)) ?_
  refine WP.vl rfl (Yld.xor32 (tab ((((bs.take i).foldl byteStep (~~~s)) ^^^ bs[i].toBitVec.setWidth 32) &&& 15#32).toNat) ((((bs.take i).foldl byteStep (~~~s)) ^^^ bs[i].toBitVec.setWidth 32) >>> 4) rfl rfl rfl) ?_
  refine WP.mv rfl rfl ?_
  refine WP.nil ?_
  refine WP.sub [(5, _), (6, _), (8, _), (12, _), (13, _), (14, _), (15, _)] ?_ ⟨rfl, rfl, rfl, rfl, rfl, rfl, rfl, trivial⟩
  refine WP.next ?_
  refine WP.region [0, 1, 2, 3, 4, 5, 6, 7] rfl ?_
  refine WP.mv rfl rfl ?_
  refine WP.vl rfl (Yld.and32 (nib (((bs.take i).foldl byteStep (~~~s)) ^^^ bs[i].toBitVec.setWidth 32)) 15#32 rfl rfl rfl) ?_
  refine WP.vl rfl (Yld.indexAddrA rfl ty_ar_142 rfl rfl (and15 _)) ?_
  refine WP.vl rfl (Yld.ld rfl ty_sc_138 rfl (tabs_at (and15 _))) ?_
  refine WP.mv rfl rfl ?_
  refine WP.vl rfl (Yld.shr32 (nib (((bs.take i).foldl byteStep (~~~s)) ^^^ bs[i].toBitVec.setWidth 32)) 4 rfl rfl rfl (by decide)) ?_
  refine WP.vl rfl (Yld.xor32 (tab ((nib (((bs.take i).foldl byteStep (~~~s)) ^^^ bs[i].toBitVec.setWidth 32)) &&& 15#32).toNat) ((nib (((bs.take i).foldl byteStep (~~~s)) ^^^ bs[i].toBitVec.setWidth 32)) >>> 4) rfl rfl rfl) ?_
  refine WP.mv rfl rfl ?_
  refine WP.nil ?_
  refine WP.sub [(5, _), (6, _), (8, _), (12, _), (13, _), (14, _), (15, _)] ?_ ⟨rfl, rfl, rfl, rfl, rfl, rfl, rfl, trivial⟩
  refine WP.leave ?_
  refine WP.next ?_
  refine WP.region [0, 1] rfl ?_
  refine WP.vl rfl (Yld.add64 rfl rfl rfl (by omega)) ?_
  refine WP.mv rfl rfl ?_
  refine WP.nil ?_
  refine WP.sub [(5, _), (6, _), (8, _), (12, _), (13, _), (14, _), (15, _)] ?_ ⟨rfl, rfl, rfl, rfl, rfl, rfl, rfl, trivial⟩
  exact WP.ag (i + 1) (by omega) (by omega) ⟨rfl, (congrArg (fun z : BitVec 32 => some (Value.int .u32 (z.toNat : Int))) (by rw [List.take_succ_eq_append_getElem hi, List.foldl_append]; rfl)), rfl, rfl, rfl, trivial⟩ rfl
 ·obtain rfl : i = bs.length := by omega
  rw [List.take_length]
  refine WP.nil ?_
  refine WP.next ?_
  refine WP.seq ?_
  refine WP.condF rfl ?_
  refine WP.exit ?_
  refine WP.thenE ?_
  refine WP.thenE ?_
  refine WP.hit ?_
  refine WP.next ?_
  refine WP.seq ?_
  refine WP.region [0, 1, 2] rfl ?_
  refine WP.mv rfl rfl ?_
  refine WP.vl rfl (Yld.not32 (bs.foldl byteStep (~~~s)) rfl rfl) ?_
  refine WP.mv rfl rfl ?_
  refine WP.nil ?_
  refine WP.sub [(4, _), (5, _), (6, _), (12, _), (13, _), (14, _), (15, _)] ?_ ⟨rfl, rfl, rfl, rfl, rfl, rfl, rfl, trivial⟩
  refine WP.next ?_
  refine WP.ret ?_
  refine WP.fn .ret (.inr rfl) (res1 rfl rfl) [] (Imm.le_refl _) ?_
  exact ⟨rfl, rfl, rfl⟩

theorem crc_Of {I : Imm} {bs : List UInt8} {vb : Value} (hb : SlRd (fun b o => I.blk b = some o) vb bs.length 1 (bytesV bs)) (hbl : bs.length ≤ 1152921504606846976) : Spec Try.prog 70 [vb] I [] (fun v J L => v = .int .u32 ((crcOf bs).toNat : Int) ∧ I = J ∧ L = []) := by
 refine Spec.of Try.func70 rfl Try.ntmps70 (Nat.le_of_ble_eq_true rfl) (fun F => ?_)
 try simp only [nf]
 dsimp only [argsEnv]
 refine WP.seq ?_
 refine WP.region [0] rfl ?_
 refine WP.mv rfl rfl ?_
 refine WP.nil ?_
 refine WP.next ?_
 refine WP.seq ?_
 refine WP.region [0, 1, 2] rfl ?_
 refine WP.mv rfl rfl ?_
 refine WP.loud rfl rfl ?_
 refine Op.cl (crc_Add hb hbl (s := 0#32)) rfl Try.func72 rfl rfl rfl rfl ?_
 rintro v J L1 - ⟨rfl, rfl, rfl⟩
 try simp only [nf]
 refine WP.mv rfl rfl ?_
 refine WP.nil ?_
 refine WP.sub [(0, _), (2, _)] ?_ ⟨rfl, rfl, trivial⟩
 refine WP.next ?_
 refine WP.ret ?_
 refine WP.fn .ret (.inr rfl) (res1 rfl rfl) [] (Imm.le_refl _) ?_
 exact ⟨rfl, rfl, rfl⟩


def four (x : BitVec 32) : List UInt8 := [⟨x.setWidth 8⟩, ⟨(x >>> 8).setWidth 8⟩, ⟨(x >>> 16).setWidth 8⟩, ⟨(x >>> 24).setWidth 8⟩]
def word (l : List UInt8) : BitVec 32 := (l.getD 0 0).toBitVec.setWidth 32 ||| (l.getD 1 0).toBitVec.setWidth 32 <<< 8 ||| (l.getD 2 0).toBitVec.setWidth 32 <<< 16 ||| (l.getD 3 0).toBitVec.setWidth 32 <<< 24

theorem bytes0' (n : Nat) : (List.replicate n (Value.int .u8 0).cells.toList).flatten = bytesV (List.replicate n (0 : UInt8)) := by
 induction n with
 | zero => rfl
 | succ n ih => rw [List.replicate_succ, List.flatten_cons, ih]; simp [Value.cells, List.replicate_succ, bytesV, byteV]

end Go.Hp
