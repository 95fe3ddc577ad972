import Derived.Test.YtgcbhbcmohcdpaaGreatHpBits
import Derived.Test.YtgcbhbcmohcdpaaGreatTy
import Derived.Test.YtgcbhbcmohcdpaaGreatHpBytes
import Derived.Test.YtgcbhbcmohcdpaaGreatHpNum
set_option linter.unusedVariables false
set_option linter.unusedSimpArgs false
namespace Go.Hp
open Go Go.Proofs

/-- One bit of a sum, one half of a byte, a byte. -/
def bit (x : BitVec 32) : BitVec 32 := if x &&& 1#32 = 1#32 then (x >>> 1) ^^^ 2197175160#32 else x >>> 1
def bits : Nat → BitVec 32 → BitVec 32
 | 0, x => x
 | k + 1, x => bits k (bit x)
def tab (i : Nat) : BitVec 32 := bits 4 (BitVec.ofNat 32 i)
def tabs : List (BitVec 32) := (List.range 16).map tab
def nib (x : BitVec 32) : BitVec 32 := tab (x &&& 15#32).toNat ^^^ (x >>> 4)
def byteStep (x : BitVec 32) (c : UInt8) : BitVec 32 := nib (nib (x ^^^ c.toBitVec.setWidth 32))
def crcAdd (s : BitVec 32) (b : List UInt8) : BitVec 32 := ~~~(b.foldl byteStep (~~~s))
def crcOf (b : List UInt8) : BitVec 32 := crcAdd 0#32 b
def u32s (l : List (BitVec 32)) : List Value := l.map fun x => .int .u32 (x.toNat : Int)
theorem bits_succ (k : Nat) (x : BitVec 32) : bits (k + 1) x = bit (bits k x) := by
 induction k generalizing x with
 | zero => rfl
 | succ k ih => rw [bits, ih]; rfl
theorem u32_inj {x y : BitVec 32} (h : (x.toNat : Int) = (y.toNat : Int)) : x = y := BitVec.eq_of_toNat_eq (by omega)
theorem tabs_at {i : Nat} (h : i < 16) : (u32s tabs)[0 + i * 1]? = some (.int .u32 ((tab i).toNat : Int)) := by
 simp [u32s, tabs, h]
theorem and15 (x : BitVec 32) : (x &&& 15#32).toNat < 16 := by
 rw [BitVec.toNat_and]
 exact Nat.lt_of_le_of_lt Nat.and_le_right (by decide)
theorem u32s_len (l : List (BitVec 32)) : (u32s l).length = l.length := List.length_map _
theorem u32s_one (l : List (BitVec 32)) : (u32s l).all (·.oneCell') = true := by simp [u32s, List.all_eq_true, Value.oneCell']
/-- The table up to i. -/
def part (i : Nat) : List (BitVec 32) := (List.range i).map tab ++ List.replicate (16 - i) 0#32
theorem part_len {i : Nat} (h : i ≤ 16) : (part i).length = 16 := by simp [part]; omega
theorem part_set {i : Nat} (h : i < 16) : SetAt (u32s (part i)) (0 + i * 1) (.int .u32 ((tab i).toNat : Int)) (u32s (part (i + 1))) := by
 have hs := SetAt.sym (l := u32s (part i)) (k := 0 + i * 1) (v := .int .u32 ((tab i).toNat : Int)) (by rw [u32s_len, part_len (by omega)]; omega)
 have e : (u32s (part i)).set (0 + i * 1) (.int .u32 ((tab i).toNat : Int)) = u32s (part (i + 1)) := by
  rw [Nat.zero_add, Nat.mul_one, u32s, ← List.map_set, u32s]
  congr 1
  unfold part
  rw [List.range_succ, List.map_append, List.set_append_right _ _ (by simp)]
  rw [show 16 - i = (16 - (i + 1)) + 1 by omega, List.replicate_succ]
  simp
 rwa [e] at hs
theorem part_0 : u32s (part 0) = [.int .u32 0, .int .u32 0, .int .u32 0, .int .u32 0, .int .u32 0, .int .u32 0, .int .u32 0, .int .u32 0, .int .u32 0, .int .u32 0, .int .u32 0, .int .u32 0, .int .u32 0, .int .u32 0, .int .u32 0, .int .u32 0] := rfl
theorem crc_nibbles (I : Imm) : Spec Tryz.prog 169 [] I [] (fun v J L => v = .agg (u32s tabs).toArray ∧ I = J ∧ L = []) := by
 refine Spec.of Tryz.func169 rfl Tryz.ntmps169 (Nat.le_of_ble_eq_true rfl) (fun F => ?_)
 try simp only [nf]
 dsimp only [argsEnv]
 refine WP.seq ?_; refine WP.region [0] rfl ?_; refine WP.loud rfl rfl ?_; refine Op.alloc rfl rfl rfl ty_zr_271 (fun b0 => ?_)
 refine WP.nil (WP.next (WP.seq ?_))
 refine WP.region [0] rfl ?_; refine WP.loud rfl rfl ?_; refine Op.alloc rfl rfl rfl ty_zr_271 (fun bt => ?_)
 refine WP.nil (WP.next (WP.seq (WP.seq ?_)))
 refine WP.region [0] rfl ?_; refine WP.mv rfl rfl ?_; refine WP.nil (WP.next (WP.block ?_))
 rw [← part_0]
 refine WP.loop (X := Nat) (fun i : Nat => [(0, .pointer (some ⟨b0, 0, none⟩)), (1, .pointer (some ⟨bt, 0, none⟩)), (5, .int .i64 (i : Int))]) (fun _ => I) (fun i => (bt, row 271 (u32s (part i))) :: (b0, row 271 (u32s (part 0))) :: F) (fun i => i ≤ 16) (fun i => 16 - i) 0 (Nat.zero_le _) ⟨rfl, rfl, rfl, trivial⟩ rfl zP ?_; intro i hi
 try dsimp only
 try simp only [nf]
 refine WP.seq ?_; refine WP.region [0] rfl ?_; refine WP.split rfl rfl rfl rfl (Yld.lss rfl rfl rfl) (fun h16 => ?_) (fun h16 => ?_)
 ·refine WP.nil ?_
  refine WP.next (WP.seq ?_)
  refine WP.condT rfl ?_; refine WP.skip (WP.next (WP.seq (WP.block (WP.seq ?_))))
  refine WP.region [0, 1] rfl ?_; iterate 2 refine WP.mv rfl rfl ?_
  refine WP.nil ?_; refine WP.sub [(0, _), (1, _), (2, _), (5, _), (6, _)] ?_ ⟨rfl, rfl, rfl, rfl, rfl, trivial⟩
  refine WP.next (WP.seq ?_)
  refine WP.region [0, 1, 2] rfl ?_; refine WP.mv rfl rfl ?_; refine WP.vl rfl (Yld.conv64_32 i rfl ty_un_3 ty_ik_260 rfl) ?_; refine WP.mv rfl rfl ?_; refine WP.nil ?_; refine WP.sub [(0, _), (1, _), (2, _), (3, _), (5, _), (6, _)] ?_ ⟨rfl, rfl, rfl, rfl, rfl, rfl, trivial⟩
  refine WP.next (WP.seq (WP.seq ?_))
  refine WP.region [0] rfl ?_; refine WP.mv rfl rfl ?_; refine WP.nil (WP.next (WP.block ?_))
  refine WP.loop (X := Nat) (fun k : Nat => [(0, .pointer (some ⟨b0, 0, none⟩)), (1, .pointer (some ⟨bt, 0, none⟩)), (2, .int .i64 (i : Int)), (3, .int .u32 ((bits k (BitVec.ofNat 32 i)).toNat : Int)), (5, .int .i64 (i : Int)), (10, .int .i64 (k : Int))]) (fun _ => I) (fun _ => (bt, row 271 (u32s (part i))) :: (b0, row 271 (u32s (part 0))) :: F) (fun k => k ≤ 4) (fun k => 4 - k) 0 (Nat.zero_le _) ⟨rfl, rfl, rfl, rfl, rfl, rfl, trivial⟩ rfl zP ?_; intro k hk
  try dsimp only
  try simp only [nf]
  refine WP.seq ?_; refine WP.region [0] rfl ?_; refine WP.split rfl rfl rfl rfl (Yld.lss rfl rfl rfl) (fun h4 => ?_) (fun h4 => ?_)
  ·refine WP.nil ?_
   refine WP.next (WP.seq ?_)
   refine WP.condT rfl ?_; refine WP.skip (WP.next (WP.seq (WP.block (WP.seq ?_))))
   refine WP.region [0, 1, 2] rfl ?_; refine WP.mv rfl rfl ?_; refine WP.vl rfl (Yld.and32 (bits k (BitVec.ofNat 32 i)) 1#32 rfl rfl rfl) ?_; refine WP.mv rfl rfl ?_; refine WP.nil ?_; refine WP.sub [(0, _), (1, _), (2, _), (3, _), (4, _), (5, _), (10, _), (11, _)] ?_ ⟨rfl, rfl, rfl, rfl, rfl, rfl, rfl, rfl, trivial⟩
   refine WP.next (WP.seq ?_)
   refine WP.region [0, 1, 2] rfl ?_; refine WP.mv rfl rfl ?_; refine WP.vl rfl (Yld.shr32 (bits k (BitVec.ofNat 32 i)) 1 rfl rfl rfl (by decide)) ?_; refine WP.mv rfl rfl ?_; refine WP.nil ?_; refine WP.sub [(0, _), (1, _), (2, _), (3, _), (4, _), (5, _), (10, _), (11, _)] ?_ ⟨rfl, rfl, rfl, rfl, rfl, rfl, rfl, rfl, trivial⟩
   refine WP.next (WP.seq ?_)
   refine WP.region [0, 1] rfl ?_; refine WP.mv rfl rfl ?_; refine WP.split rfl rfl rfl rfl (Yld.eql rfl rfl rfl) (fun hb => ?_) (fun hb => ?_)
   ·refine WP.nil ?_
    refine WP.sub [(0, _), (1, _), (2, _), (3, _), (4, _), (5, _), (10, _), (11, _), (17, _)] ?_ ⟨rfl, rfl, rfl, rfl, rfl, rfl, rfl, rfl, rfl, trivial⟩
    refine WP.next ?_; refine WP.condT rfl ?_; refine WP.region [0, 1, 2] rfl ?_; refine WP.mv rfl rfl ?_; refine WP.vl rfl (Yld.xor32 (bits k (BitVec.ofNat 32 i) >>> 1) 2197175160#32 rfl rfl rfl) ?_; refine WP.mv rfl rfl ?_; refine WP.nil ?_; refine WP.sub [(0, _), (1, _), (2, _), (3, _), (4, _), (5, _), (10, _), (11, _), (17, _)] ?_ ⟨rfl, rfl, rfl, rfl, rfl, rfl, rfl, rfl, rfl, trivial⟩
    refine WP.leave (WP.next ?_)
    refine WP.region [0, 1] rfl ?_; refine WP.vl rfl (Yld.add64 rfl rfl rfl (by omega)) ?_; refine WP.mv rfl rfl ?_; refine WP.nil ?_; refine WP.sub [(0, _), (1, _), (2, _), (3, _), (4, _), (5, _), (10, _), (11, _), (17, _)] ?_ ⟨rfl, rfl, rfl, rfl, rfl, rfl, rfl, rfl, rfl, trivial⟩
    exact WP.ag (k + 1) (by omega) (by omega) ⟨rfl, rfl, rfl, (congrArg (fun z : BitVec 32 => some (Value.int .u32 (z.toNat : Int))) (by rw [bits_succ]; simp only [bit]; rw [if_pos (u32_inj hb)])), rfl, rfl, trivial⟩ rfl
   ·refine WP.nil ?_
    refine WP.sub [(0, _), (1, _), (2, _), (3, _), (4, _), (5, _), (10, _), (11, _), (17, _)] ?_ ⟨rfl, rfl, rfl, rfl, rfl, rfl, rfl, rfl, rfl, trivial⟩
    refine WP.next ?_; refine WP.condF rfl ?_; refine WP.skip (WP.leave (WP.next ?_))
    refine WP.region [0, 1] rfl ?_; refine WP.vl rfl (Yld.add64 rfl rfl rfl (by omega)) ?_; refine WP.mv rfl rfl ?_; refine WP.nil ?_; refine WP.sub [(0, _), (1, _), (2, _), (3, _), (4, _), (5, _), (10, _), (11, _), (17, _)] ?_ ⟨rfl, rfl, rfl, rfl, rfl, rfl, rfl, rfl, rfl, trivial⟩
    exact WP.ag (k + 1) (by omega) (by omega) ⟨rfl, rfl, rfl, (congrArg (fun z : BitVec 32 => some (Value.int .u32 (z.toNat : Int))) (by rw [bits_succ]; simp only [bit]; rw [if_neg (fun h => hb (by rw [h]; rfl))])), rfl, rfl, trivial⟩ rfl
  ·obtain rfl : k = 4 := by omega
   refine WP.nil (WP.next (WP.seq ?_))
   refine WP.condF rfl ?_; refine WP.exit (WP.thenE (WP.thenE (WP.hit (WP.next ?_))))
   refine WP.region [0, 1, 2, 3] rfl ?_; iterate 2 refine WP.mv rfl rfl ?_
   refine WP.vl rfl (Yld.indexAddrA rfl ty_ar_271 rfl rfl (by omega)) ?_; refine WP.loud rfl rfl ?_; refine Op.store1 rfl rfl ty_sz_260 rfl rfl rfl (by repeat (first | exact Upd.head | apply Upd.tail | apply Upd.tailS)) (part_set (by omega)) ?_; refine WP.nil ?_; refine WP.sub [(0, _), (1, _), (2, _), (3, _), (5, _), (10, _), (11, _)] ?_ ⟨rfl, rfl, rfl, rfl, rfl, rfl, rfl, trivial⟩
   refine WP.leave (WP.next ?_)
   refine WP.region [0, 1] rfl ?_; refine WP.vl rfl (Yld.add64 rfl rfl rfl (by omega)) ?_; refine WP.mv rfl rfl ?_; refine WP.nil ?_; refine WP.sub [(0, _), (1, _), (2, _), (3, _), (5, _), (10, _), (11, _)] ?_ ⟨rfl, rfl, rfl, rfl, rfl, rfl, rfl, trivial⟩
   exact WP.ag (i + 1) (by omega) (by omega) ⟨rfl, rfl, rfl, trivial⟩ rfl
 ·obtain rfl : i = 16 := by omega
  refine WP.nil (WP.next (WP.seq ?_))
  refine WP.condF rfl ?_; refine WP.exit (WP.thenE (WP.thenE (WP.hit (WP.next (WP.seq ?_)))))
  refine WP.region [0, 1] rfl ?_; refine WP.vl rfl (Yld.lda rfl ty_ag_271 rfl rfl) ?_; refine WP.loud rfl rfl ?_; refine Op.sA rfl rfl ty_sz_271 rfl rfl rfl (u32s_one _) rfl ?_; refine WP.nil ?_; refine WP.sub [(0, _), (1, _), (5, _), (6, _)] ?_ ⟨rfl, rfl, rfl, rfl, trivial⟩
  refine WP.next (WP.ret ?_)
  refine WP.fn .ret (.inr rfl) (resC rfl ty_ag_271 rfl zM rfl) [] (Imm.le_refl _) ?_; exact ⟨rfl, rfl, rfl⟩

theorem crc_Add {I : Imm} {bs : List UInt8} {vb : Value} (hb : SlRd (fun b o => I.blk b = some o) vb bs.length 1 (bytesV bs)) (hbl : bs.length ≤ 1152921504606846976) {s : BitVec 32} : Spec Tryz.prog 164 [.int .u32 ((s).toNat : Int), vb] I [] (fun v J L => v = .int .u32 ((crcAdd s bs).toNat : Int) ∧ I = J ∧ L = []) := by
 refine Spec.of Tryz.func164 rfl Tryz.ntmps164 (Nat.le_of_ble_eq_true rfl) (fun F => ?_)
 try simp only [nf]
 dsimp only [argsEnv]
 refine WP.seq ?_; refine WP.region [0] rfl ?_; refine WP.mv rfl rfl ?_; refine WP.nil (WP.next (WP.seq ?_))
 refine WP.region [0, 1, 2] rfl ?_; refine WP.loud rfl rfl ?_; refine Op.cl (crc_nibbles _) rfl Tryz.func169 rfl rfl rfl rfl ?_; rintro v J L1 - ⟨rfl, rfl, rfl⟩
 try simp only [nf]
 refine WP.loud rfl rfl ?_; refine Op.alloc rfl rfl rfl ty_zr_271 (fun bt => ?_)
 refine WP.loud rfl rfl ?_; refine Op.sA rfl rfl ty_sz_271 rfl rfl rfl (u32s_one _) rfl ?_; refine WP.nil ?_; refine WP.sub [(0, _), (1, _), (4, _), (5, _)] ?_ ⟨rfl, rfl, rfl, rfl, trivial⟩
 refine WP.next (WP.seq ?_)
 refine WP.region [0, 1, 2] rfl ?_; refine WP.mv rfl rfl ?_; refine WP.vl rfl (Yld.not32 s rfl rfl) ?_; refine WP.mv rfl rfl ?_; refine WP.nil ?_; refine WP.sub [(0, _), (1, _), (4, _), (5, _), (6, _)] ?_ ⟨rfl, rfl, rfl, rfl, rfl, trivial⟩
 refine WP.next (WP.seq (WP.seq ?_))
 refine WP.region [0, 1, 2] rfl ?_; refine WP.mv rfl rfl ?_; refine WP.vl rfl (Yld.lenR hb rfl ty_sl_25 rfl) ?_; refine WP.mv rfl rfl ?_; refine WP.nil (WP.next (WP.block ?_))
 refine WP.loop (X := Nat) (fun i : Nat => [(5, .pointer (some ⟨bt, 0, none⟩)), (6, .int .u32 ((((bs.take i).foldl byteStep (~~~s))).toNat : Int)), (12, vb), (13, .int .i64 (bs.length : Int)), (14, .int .i64 (i : Int))]) (fun _ => I) (fun _ => (bt, row 271 (u32s tabs)) :: F) (fun i => i ≤ bs.length) (fun i => bs.length - i) 0 (Nat.zero_le _) ⟨rfl, rfl, rfl, rfl, rfl, trivial⟩ rfl zP ?_; intro i hi0
 try dsimp only
 try simp only [nf]
 refine WP.seq ?_; refine WP.region [0] rfl ?_; refine WP.split rfl rfl rfl rfl (Yld.lss rfl rfl rfl) (fun hlt => ?_) (fun hlt => ?_)
 ·have hi : i < bs.length := by omega
  have hlen := hb.len
  obtain ⟨bb, kb, cb, Tb, frb, arrb, rfl, hcb, hbb, hb4⟩ := hb.get (by omega)
  have eb := take_cells hb4 i (byteV bs[i]) (by simp [bytesV, hi]) (by rw [bytesV_len]; exact hi)
  rw [Array.getElem?_toList] at eb
  refine WP.nil (WP.next (WP.seq ?_))
  refine WP.condT rfl ?_; refine WP.skip (WP.next (WP.seq (WP.block (WP.seq ?_))))
  refine WP.region [0, 1, 2] rfl ?_; refine WP.vl rfl (Yld.indexAddr rfl ty_sl_25 rfl rfl (by omega)) ?_; refine WP.vl rfl (Yld.loadC rfl ty_sc_5 rfl (There.i hbb) (by rw [Nat.mul_one]; exact eb)) ?_; refine WP.mv rfl rfl ?_; refine WP.nil ?_; refine WP.sub [(5, _), (6, _), (8, _), (12, _), (13, _), (14, _), (15, _)] ?_ ⟨rfl, rfl, rfl, rfl, rfl, rfl, rfl, trivial⟩
  refine WP.next (WP.seq ?_)
  refine WP.region [0, 1, 2, 3, 4] rfl ?_; iterate 2 refine WP.mv rfl rfl ?_
  refine WP.vl rfl (Yld.conv8_32 bs[i] rfl ty_un_5 ty_ik_260 rfl) ?_; refine WP.vl rfl (Yld.xor32 ((bs.take i).foldl byteStep (~~~s)) (bs[i].toBitVec.setWidth 32) rfl rfl rfl) ?_; refine WP.mv rfl rfl ?_; refine WP.nil ?_; refine WP.sub [(5, _), (6, _), (8, _), (12, _), (13, _), (14, _), (15, _)] ?_ ⟨rfl, rfl, rfl, rfl, rfl, rfl, rfl, trivial⟩
  refine WP.next (WP.seq ?_)
  refine WP.region [0, 1, 2, 3, 4, 5, 6, 7] rfl ?_; refine WP.mv rfl rfl ?_; refine WP.vl rfl (Yld.and32 (((bs.take i).foldl byteStep (~~~s)) ^^^ bs[i].toBitVec.setWidth 32) 15#32 rfl rfl rfl) ?_; refine WP.vl rfl (Yld.indexAddrA rfl ty_ar_271 rfl rfl (and15 _)) ?_; refine WP.vl rfl (Yld.ld rfl ty_sc_260 rfl (tabs_at (and15 _))) ?_; refine WP.mv rfl rfl ?_; refine WP.vl rfl (Yld.shr32 (((bs.take i).foldl byteStep (~~~s)) ^^^ bs[i].toBitVec.setWidth 32) 4 rfl rfl rfl (by decide)) ?_; refine WP.vl rfl (Yld.xor32 (tab ((((bs.take i).foldl byteStep (~~~s)) ^^^ bs[i].toBitVec.setWidth 32) &&& 15#32).toNat) ((((bs.take i).foldl byteStep (~~~s)) ^^^ bs[i].toBitVec.setWidth 32) >>> 4) rfl rfl rfl) ?_; refine WP.mv rfl rfl ?_; refine WP.nil ?_; refine WP.sub [(5, _), (6, _), (8, _), (12, _), (13, _), (14, _), (15, _)] ?_ ⟨rfl, rfl, rfl, rfl, rfl, rfl, rfl, trivial⟩
  refine WP.next ?_; refine WP.region [0, 1, 2, 3, 4, 5, 6, 7] rfl ?_; refine WP.mv rfl rfl ?_; refine WP.vl rfl (Yld.and32 (nib (((bs.take i).foldl byteStep (~~~s)) ^^^ bs[i].toBitVec.setWidth 32)) 15#32 rfl rfl rfl) ?_; refine WP.vl rfl (Yld.indexAddrA rfl ty_ar_271 rfl rfl (and15 _)) ?_; refine WP.vl rfl (Yld.ld rfl ty_sc_260 rfl (tabs_at (and15 _))) ?_; refine WP.mv rfl rfl ?_; refine WP.vl rfl (Yld.shr32 (nib (((bs.take i).foldl byteStep (~~~s)) ^^^ bs[i].toBitVec.setWidth 32)) 4 rfl rfl rfl (by decide)) ?_; refine WP.vl rfl (Yld.xor32 (tab ((nib (((bs.take i).foldl byteStep (~~~s)) ^^^ bs[i].toBitVec.setWidth 32)) &&& 15#32).toNat) ((nib (((bs.take i).foldl byteStep (~~~s)) ^^^ bs[i].toBitVec.setWidth 32)) >>> 4) rfl rfl rfl) ?_; refine WP.mv rfl rfl ?_; refine WP.nil ?_; refine WP.sub [(5, _), (6, _), (8, _), (12, _), (13, _), (14, _), (15, _)] ?_ ⟨rfl, rfl, rfl, rfl, rfl, rfl, rfl, trivial⟩
  refine WP.leave (WP.next ?_)
  refine WP.region [0, 1] rfl ?_; refine WP.vl rfl (Yld.add64 rfl rfl rfl (by omega)) ?_; refine WP.mv rfl rfl ?_; refine WP.nil ?_; refine WP.sub [(5, _), (6, _), (8, _), (12, _), (13, _), (14, _), (15, _)] ?_ ⟨rfl, rfl, rfl, rfl, rfl, rfl, rfl, trivial⟩
  exact WP.ag (i + 1) (by omega) (by omega) ⟨rfl, (congrArg (fun z : BitVec 32 => some (Value.int .u32 (z.toNat : Int))) (by rw [List.take_succ_eq_append_getElem hi, List.foldl_append]; rfl)), rfl, rfl, rfl, trivial⟩ rfl
 ·obtain rfl : i = bs.length := by omega
  rw [List.take_length]
  refine WP.nil (WP.next (WP.seq ?_))
  refine WP.condF rfl ?_; refine WP.exit (WP.thenE (WP.thenE (WP.hit (WP.next (WP.seq ?_)))))
  refine WP.region [0, 1, 2] rfl ?_; refine WP.mv rfl rfl ?_; refine WP.vl rfl (Yld.not32 (bs.foldl byteStep (~~~s)) rfl rfl) ?_; refine WP.mv rfl rfl ?_; refine WP.nil ?_; refine WP.sub [(4, _), (5, _), (6, _), (12, _), (13, _), (14, _), (15, _)] ?_ ⟨rfl, rfl, rfl, rfl, rfl, rfl, rfl, trivial⟩
  refine WP.next (WP.ret ?_)
  refine WP.fn .ret (.inr rfl) (res1 rfl rfl) [] (Imm.le_refl _) ?_; exact ⟨rfl, rfl, rfl⟩

theorem crc_Of {I : Imm} {bs : List UInt8} {vb : Value} (hb : SlRd (fun b o => I.blk b = some o) vb bs.length 1 (bytesV bs)) (hbl : bs.length ≤ 1152921504606846976) : Spec Tryz.prog 154 [vb] I [] (fun v J L => v = .int .u32 ((crcOf bs).toNat : Int) ∧ I = J ∧ L = []) := by
 refine Spec.of Tryz.func154 rfl Tryz.ntmps154 (Nat.le_of_ble_eq_true rfl) (fun F => ?_)
 try simp only [nf]
 dsimp only [argsEnv]
 refine WP.seq ?_; refine WP.region [0] rfl ?_; refine WP.mv rfl rfl ?_; refine WP.nil (WP.next (WP.seq ?_))
 refine WP.region [0, 1, 2] rfl ?_; refine WP.mv rfl rfl ?_; refine WP.loud rfl rfl ?_; refine Op.cl (crc_Add hb hbl (s := 0#32)) rfl Tryz.func164 rfl rfl rfl rfl ?_; rintro v J L1 - ⟨rfl, rfl, rfl⟩
 try simp only [nf]
 refine WP.mv rfl rfl ?_; refine WP.nil ?_; refine WP.sub [(0, _), (2, _)] ?_ ⟨rfl, rfl, trivial⟩
 refine WP.next (WP.ret ?_)
 refine WP.fn .ret (.inr rfl) (res1 rfl rfl) [] (Imm.le_refl _) ?_; exact ⟨rfl, rfl, rfl⟩


theorem bytes0' (n : Nat) : (List.replicate n (Value.int .u8 0).cells.toList).flatten = bytesV (List.replicate n (0 : UInt8)) := by
 induction n with
 | zero => rfl
 | succ n ih => rw [List.replicate_succ, List.flatten_cons, ih]; simp [Value.cells, List.replicate_succ, bytesV, byteV]
theorem slices_Grow {I : Imm} {m : Nat} (h0 : 0 < m) (hm : m ≤ 140737488355328) : Spec Tryz.prog 163 [.slice none 0 0, .int .i64 (m : Int)] I [] (fun v J L => I = J ∧ Own 5 1 v [] 0 L) := by
 refine Spec.of Tryz.func163 rfl Tryz.ntmps163 (Nat.le_of_ble_eq_true rfl) (fun F => ?_)
 try simp only [nf]
 dsimp only [argsEnv]
 refine WP.seq ?_; refine WP.region [0] rfl ?_; refine WP.mv rfl rfl ?_; refine WP.nil (WP.next (WP.seq (WP.seq ?_)))
 refine WP.region [0, 1] rfl ?_; refine WP.mv rfl rfl ?_; refine WP.vl rfl (Yld.lss rfl rfl rfl false (decide_eq_false (by omega))) ?_; refine WP.nil ?_; refine WP.sub [(0, _), (1, _), (4, _), (6, _)] ?_ ⟨rfl, rfl, rfl, rfl, trivial⟩
 refine WP.next ?_; refine WP.condF rfl ?_; refine WP.skip (WP.next (WP.seq (WP.seq ?_)))
 refine WP.region [0, 1, 2, 3, 4, 5, 6, 7] rfl ?_; iterate 2 refine WP.mv rfl rfl ?_
 refine WP.vl rfl (Yld.cap rfl ty_sl_25 rfl) ?_; refine WP.mv rfl rfl ?_; refine WP.vl rfl (Yld.len rfl ty_sl_25 rfl) ?_; iterate 2 refine WP.vl rfl (Yld.sub64 rfl rfl rfl (by omega)) ?_
 refine WP.mv rfl rfl ?_; refine WP.nil ?_; refine WP.sub [(0, _), (1, _), (4, _), (6, _)] ?_ ⟨rfl, rfl, rfl, rfl, trivial⟩
 refine WP.next (WP.seq ?_)
 refine WP.region [0, 1] rfl ?_; refine WP.mv rfl rfl ?_; refine WP.vl rfl (Yld.gtr rfl rfl rfl true (decide_eq_true (by omega))) ?_; refine WP.nil ?_; refine WP.sub [(0, _), (1, _), (4, _), (6, _), (16, _)] ?_ ⟨rfl, rfl, rfl, rfl, rfl, trivial⟩
 refine WP.next ?_; refine WP.condT rfl ?_; refine WP.region [0, 1, 2, 3, 4, 5, 6, 7, 8, 9] rfl ?_; iterate 2 refine WP.mv rfl rfl ?_
 refine WP.vl rfl (Yld.cap rfl ty_sl_25 rfl) ?_; refine WP.vl rfl (Yld.slice (h := 0) rfl ty_sl_25 rfl Env.lim0 (Env.limS rfl) (Nat.le_refl _) (Nat.le_refl _)) ?_; refine WP.mv rfl rfl ?_; refine WP.loud rfl rfl ?_; refine Op.appendZ (m := m) rfl ty_sl_25 Tryz.underlying3 ty_el_25 rfl rfl rfl rfl (congrArg (fun z => some (Value.int .i64 z)) (by omega)) h0 (by decide) (by omega) (by omega) (fun bg cg sg h1 h2 => ?_)
 refine WP.mv rfl rfl ?_; refine WP.vl rfl (Yld.len rfl ty_sl_25 rfl) ?_; refine WP.vl rfl (Yld.slice (h := 0) rfl ty_sl_25 rfl Env.lim0 (Env.limS rfl) (Nat.le_refl _) (Nat.zero_le _)) ?_; refine WP.mv rfl rfl ?_; refine WP.nil ?_; refine WP.sub [(0, _), (1, _), (4, _), (6, _), (16, _)] ?_ ⟨rfl, rfl, rfl, rfl, rfl, trivial⟩
 refine WP.next (WP.seq ?_)
 refine WP.region [0, 1] rfl ?_; iterate 2 refine WP.mv rfl rfl ?_
 refine WP.nil ?_; refine WP.sub [(0, _), (1, _), (4, _), (6, _), (16, _)] ?_ ⟨rfl, rfl, rfl, rfl, rfl, trivial⟩
 refine WP.next (WP.ret ?_)
 refine WP.fn .ret (.inr rfl) (res1 rfl rfl) [(bg, row 5 _)] (Imm.le_refl _) ?_; have e : (if cg = 0 then (some ⟨bg, 0, none⟩ : Option Addr) else (some ⟨bg, 0, none⟩ : Option Addr).map (·.add (0 * 1))) = some ⟨bg, 0, none⟩ := by split <;> simp [add_at]
 refine ⟨rfl, ?_⟩
 simp only [subSl, e, Nat.sub_zero]
 exact Own.blk (T := 5) (sz := 1) (xs := []) (sp := sg) rfl (by simpa using h2) (Nat.zero_le _)


theorem fst_at {ls : List (Value × List UInt8)} {i : Nat} (h : i < ls.length) : (ls.map (·.1))[0 + i * 1]? = some ls[i].1 := by simp [h]
def total (ls : List (Value × List UInt8)) : Nat := (ls.flatMap (·.2)).length
theorem total_take_le (ls : List (Value × List UInt8)) (i : Nat) : total (ls.take i) ≤ total ls := by
 unfold total
 conv => rhs; rw [← List.take_append_drop i ls, List.flatMap_append, List.length_append]
 exact Nat.le_add_right _ _
theorem total_succ {ls : List (Value × List UInt8)} {i : Nat} (h : i < ls.length) : total (ls.take (i + 1)) = total (ls.take i) + ls[i].2.length := by
 unfold total
 rw [List.take_succ_eq_append_getElem h, List.flatMap_append, List.length_append]; simp
structure CX where
 i : Nat
 v : Value
 L : Chunks
structure CX.ok (ls : List (Value × List UInt8)) (t : CX) : Prop where
 le : t.i ≤ ls.length
 ow : Own 5 1 t.v (bytesV ((ls.take t.i).flatMap (·.2))) (total (ls.take t.i)) t.L
theorem slices_Concat {I : Imm} {bx : Nat} {ls : List (Value × List UInt8)} (hls : ∀ e ∈ ls, SlRd (fun b o => I.blk b = some o) e.1 e.2.length 1 (bytesV e.2)) (h0 : 0 < total ls) (hm : total ls ≤ 140737488355328) (hn : ls.length ≤ 1152921504606846976) : Spec Tryz.prog 152 [.slice (some ⟨bx, 0, none⟩) ls.length ls.length] I [(bx, row 25 (ls.map (·.1)))] (fun v J L => I = J ∧ Own 5 1 v (bytesV (ls.flatMap (·.2))) (total ls) L) := by
 refine Spec.of Tryz.func152 rfl Tryz.ntmps152 (Nat.le_of_ble_eq_true rfl) (fun F => ?_)
 try simp only [nf]
 dsimp only [argsEnv]
 refine WP.seq ?_; refine WP.region [0] rfl ?_; refine WP.mv rfl rfl ?_; refine WP.nil (WP.next (WP.seq ?_))
 refine WP.region [0] rfl ?_; refine WP.mv rfl rfl ?_; refine WP.nil (WP.next (WP.seq (WP.seq ?_)))
 refine WP.region [0, 1, 2] rfl ?_; refine WP.mv rfl rfl ?_; refine WP.vl rfl (Yld.len rfl ty_sl_116 rfl) ?_; refine WP.mv rfl rfl ?_; refine WP.nil (WP.next (WP.block ?_))
 refine WP.loop (X := Nat) (fun i : Nat => [(0, .slice (some ⟨bx, 0, none⟩) ls.length ls.length), (3, .int .i64 (total (ls.take i) : Int)), (9, .slice (some ⟨bx, 0, none⟩) ls.length ls.length), (10, .int .i64 (ls.length : Int)), (11, .int .i64 (i : Int))]) (fun _ => I) (fun _ => (bx, row 25 (ls.map (·.1))) :: F) (fun i => i ≤ ls.length) (fun i => ls.length - i) 0 (Nat.zero_le _) ⟨rfl, rfl, rfl, rfl, rfl, trivial⟩ rfl zP ?_
 intro i hi0
 try dsimp only
 try simp only [nf]
 refine WP.seq ?_; refine WP.region [0] rfl ?_; refine WP.split rfl rfl rfl rfl (Yld.lss rfl rfl rfl) (fun hlt => ?_) (fun hlt => ?_)
 ·have hi : i < ls.length := by omega
  have htl := total_take_le ls (i + 1)
  have hts := total_succ hi
  refine WP.nil (WP.next (WP.seq ?_))
  refine WP.condT rfl ?_; refine WP.skip (WP.next (WP.seq (WP.block (WP.seq ?_))))
  refine WP.region [0, 1, 2] rfl ?_; refine WP.vl rfl (Yld.indexAddr rfl ty_sl_116 rfl rfl (by omega)) ?_; refine WP.vl rfl (Yld.ld rfl ty_sc_25 rfl (fst_at hi)) ?_; refine WP.mv rfl rfl ?_; refine WP.nil ?_; refine WP.sub [(0, _), (3, _), (5, _), (9, _), (10, _), (11, _), (12, _)] ?_ ⟨rfl, rfl, rfl, rfl, rfl, rfl, rfl, trivial⟩
  refine WP.next (WP.seq ?_)
  refine WP.region [0, 1, 2, 3, 4] rfl ?_; iterate 2 refine WP.mv rfl rfl ?_
  refine WP.vl rfl (Yld.lenR (hls _ (List.getElem_mem hi)) rfl ty_sl_25 rfl) ?_; refine WP.vl rfl (Yld.add64 rfl rfl rfl (by omega)) ?_; refine WP.mv rfl rfl ?_; refine WP.nil ?_; refine WP.sub [(0, _), (3, _), (5, _), (9, _), (10, _), (11, _), (12, _)] ?_ ⟨rfl, rfl, rfl, rfl, rfl, rfl, rfl, trivial⟩
  refine WP.next (WP.seq ?_)
  refine WP.region [0, 1] rfl ?_; refine WP.mv rfl rfl ?_; refine WP.vl rfl (Yld.lss rfl rfl rfl false (decide_eq_false (by omega))) ?_; refine WP.nil ?_; refine WP.sub [(0, _), (3, _), (5, _), (9, _), (10, _), (11, _), (12, _), (20, _)] ?_ ⟨rfl, rfl, rfl, rfl, rfl, rfl, rfl, rfl, trivial⟩
  refine WP.next ?_; refine WP.condF rfl ?_; refine WP.skip (WP.leave (WP.next ?_))
  refine WP.region [0, 1] rfl ?_; refine WP.vl rfl (Yld.add64 rfl rfl rfl (by omega)) ?_; refine WP.mv rfl rfl ?_; refine WP.nil ?_; refine WP.sub [(0, _), (3, _), (5, _), (9, _), (10, _), (11, _), (12, _), (20, _)] ?_ ⟨rfl, rfl, rfl, rfl, rfl, rfl, rfl, rfl, trivial⟩
  exact WP.ag (i + 1) hi (by omega) ⟨rfl, (congrArg (fun z => some (Value.int .i64 z)) (by rw [total_succ hi]; omega)), rfl, rfl, rfl, trivial⟩ rfl
 ·obtain rfl : i = ls.length := by omega
  rw [List.take_length]
  refine WP.nil (WP.next (WP.seq ?_))
  refine WP.condF rfl ?_; refine WP.exit (WP.thenE (WP.thenE (WP.hit (WP.next (WP.seq ?_)))))
  refine WP.region [0, 1, 2] rfl ?_; refine WP.mv rfl rfl ?_; refine WP.loud rfl rfl ?_; refine Op.cl (slices_Grow (m := total ls) h0 hm) rfl Tryz.func163 rfl rfl rfl rfl ?_; rintro v J Lg - ⟨rfl, hgrow⟩
  try simp only [nf]
  refine WP.mv rfl rfl ?_; refine WP.nil ?_; refine WP.sub [(0, _), (3, _), (6, _), (9, _), (10, _), (11, _), (12, _)] ?_ ⟨rfl, rfl, rfl, rfl, rfl, rfl, rfl, trivial⟩
  refine WP.next (WP.seq (WP.seq ?_))
  refine WP.region [0, 1, 2] rfl ?_; refine WP.mv rfl rfl ?_; refine WP.vl rfl (Yld.len rfl ty_sl_116 rfl) ?_; refine WP.mv rfl rfl ?_; refine WP.nil (WP.next (WP.block ?_))
  refine WP.loop (X := CX) (fun t : CX => [(6, t.v), (25, .slice (some ⟨bx, 0, none⟩) ls.length ls.length), (26, .int .i64 (ls.length : Int)), (27, .int .i64 (t.i : Int))]) (fun _ => I) (fun t => (bx, row 25 (ls.map (·.1))) :: (t.L ++ F)) (fun t => t.ok ls) (fun t => ls.length - t.i) ⟨0, v, Lg⟩ ⟨Nat.zero_le _, hgrow⟩ ⟨rfl, rfl, rfl, rfl, trivial⟩ rfl zP ?_
  rintro ⟨i, vg, Lg⟩ ⟨hle, hgrow⟩
  try dsimp only
  try simp only [nf]
  refine WP.seq ?_; refine WP.region [0] rfl ?_; refine WP.split rfl rfl rfl rfl (Yld.lss rfl rfl rfl) (fun hlt => ?_) (fun hlt => ?_)
  ·simp only at hle hgrow
   have hi : i < ls.length := by first | omega | (simp only at hlt; omega)
   have htl := total_take_le ls (i + 1)
   have hts := total_succ hi
   refine WP.nil (WP.next (WP.seq ?_))
   refine WP.condT rfl ?_; refine WP.skip (WP.next (WP.seq (WP.block (WP.seq ?_))))
   refine WP.region [0, 1, 2] rfl ?_; refine WP.vl rfl (Yld.indexAddr rfl ty_sl_116 rfl rfl (by omega)) ?_; refine WP.vl rfl (Yld.ld rfl ty_sc_25 rfl (fst_at hi)) ?_; refine WP.mv rfl rfl ?_; refine WP.nil ?_; refine WP.sub [(6, _), (8, _), (25, _), (26, _), (27, _), (28, _)] ?_ ⟨rfl, rfl, rfl, rfl, rfl, rfl, trivial⟩
   refine WP.next ?_; refine WP.region [0, 1, 2, 3] rfl ?_; iterate 2 refine WP.mv rfl rfl ?_
   refine WP.loud rfl rfl ?_; refine Op.append rfl ty_sl_25 ty_el_25 rfl rfl rfl rfl rfl hgrow ((hls _ (List.getElem_mem hi)).mono (fun b o h => .inr h)) zT (bytesV_one _) (by omega) (by omega) (fun v' Lo' hown => ?_)
   have hown' : Own 5 1 v' (bytesV ((ls.take (i + 1)).flatMap (·.2))) (total (ls.take (i + 1))) Lo' := by rw [hts, List.take_succ_eq_append_getElem hi, List.flatMap_append, bytesV_app]; simpa using hown
   try simp only [nf]
   refine WP.mv rfl rfl ?_; refine WP.nil ?_; refine WP.sub [(6, _), (8, _), (25, _), (26, _), (27, _), (28, _)] ?_ ⟨rfl, rfl, rfl, rfl, rfl, rfl, trivial⟩
   refine WP.leave (WP.next ?_)
   refine WP.region [0, 1] rfl ?_; refine WP.vl rfl (Yld.add64 rfl rfl rfl (by omega)) ?_; refine WP.mv rfl rfl ?_; refine WP.nil ?_; refine WP.sub [(6, _), (8, _), (25, _), (26, _), (27, _), (28, _)] ?_ ⟨rfl, rfl, rfl, rfl, rfl, rfl, trivial⟩
   exact WP.ag ⟨i + 1, v', Lo'⟩ ⟨hi, hown'⟩ (by simp only; omega) ⟨rfl, rfl, rfl, rfl, trivial⟩ rfl
  ·simp only at hle hgrow
   obtain rfl : i = ls.length := by first | omega | (simp only at hlt; omega)
   rw [List.take_length] at hgrow
   refine WP.nil (WP.next (WP.seq ?_))
   refine WP.condF rfl ?_; refine WP.exit (WP.thenE (WP.thenE (WP.hit (WP.next (WP.seq ?_)))))
   refine WP.region [0, 1] rfl ?_; iterate 2 refine WP.mv rfl rfl ?_
   refine WP.nil ?_; refine WP.sub [(2, _), (6, _), (25, _), (26, _), (27, _), (28, _)] ?_ ⟨rfl, rfl, rfl, rfl, rfl, rfl, trivial⟩
   refine WP.next (WP.ret ?_)
   refine WP.fn .ret (.inr rfl) (res1 rfl rfl) (Lg ++ []) (Imm.le_refl _) ?_; exact ⟨rfl, by simpa using hgrow⟩


/-- A disk. -/
structure Dk where
 plat : List UInt8
 now : List UInt8
 waits : List (Nat × List UInt8)
 left : Int
 off : Bool
 writes : Int
 syncs : Int
def wcell (x : Nat × List UInt8) : List Value := .int .i64 (x.1 : Int) :: bytesV x.2
def wcells (l : List (Nat × List UInt8)) : List Value := l.flatMap wcell
structure Dk.ok (n : Nat) (x : Dk) : Prop where
 n1 : 1 ≤ n
 n2 : n ≤ 8192
 lp : x.plat.length = n * 64
 ln : x.now.length = n * 64
 hw : ∀ e ∈ x.waits, e.1 < n ∧ e.2.length = 64
 hl : -1 ≤ x.left ∧ x.left ≤ 9223372036854775807
inductive IsDisk (d n : Nat) (x : Dk) : Chunks → Prop
 | mk {bp bn : Nat} {vw : Value} {Lw : Chunks} (ok : x.ok n) (ow : Own 249 65 vw (wcells x.waits) x.waits.length Lw) :
  IsDisk d n x ((d, row 115 [.slice (some ⟨bp, 0, none⟩) (n * 64) (n * 64), .slice (some ⟨bn, 0, none⟩) (n * 64) (n * 64), vw, .int .i64 x.left, .bool x.off, .int .i64 x.writes, .int .i64 x.syncs]) :: (bp, row 5 (bytesV x.plat)) :: (bn, row 5 (bytesV x.now)) :: Lw)
def Im (I : Imm) : Nat → Obj → Prop := fun b o => I.blk b = some o
theorem Im.there {I : Imm} {L : Chunks} (b : Nat) (o : Obj) (h : Im I b o) : There I L b o := There.i h
theorem wcell_len {e : Nat × List UInt8} (h : e.2.length = 64) : (wcell e).length = 65 := by simp [wcell, bytesV_len, h]
theorem wcell_one (e : Nat × List UInt8) : (wcell e).all (·.oneCell') = true := by
 simp only [wcell, List.all_cons, bytesV_one, Bool.and_true]; rfl
theorem wcells_app (l m : List (Nat × List UInt8)) : wcells (l ++ m) = wcells l ++ wcells m := by simp [wcells]
theorem bytes0 (n : Nat) : (List.replicate n (Value.int .u8 0).cells.toList).flatten = bytesV (List.replicate n (0 : UInt8)) := by
 induction n with
 | zero => rfl
 | succ n ih => rw [List.replicate_succ, List.flatten_cons, ih]; simp [Value.cells, List.replicate_succ, bytesV, byteV]

def Dk.new (n : Nat) : Dk := ⟨List.replicate (n * 64) 0, List.replicate (n * 64) 0, [], -1, false, 0, 0⟩
theorem Dk.new_ok {n : Nat} (h1 : 1 ≤ n) (h2 : n ≤ 8192) : (Dk.new n).ok n := ⟨h1, h2, by simp [Dk.new], by simp [Dk.new], by simp [Dk.new], by simp [Dk.new]⟩
theorem disk_New {I : Imm} {n : Nat} (h1 : 1 ≤ n) (h2 : n ≤ 8192) : Spec Tryz.prog 37 [.int .i64 (n : Int)] I [] (fun v' J L => I = J ∧ ∃ d, v' = .tuple #[.pointer (some ⟨d, 0, none⟩), .int .i64 0] ∧ IsDisk d n (Dk.new n) L) := by
 refine Spec.of Tryz.func37 rfl Tryz.ntmps37 (Nat.le_of_ble_eq_true rfl) (fun F => ?_)
 try simp only [nf]
 dsimp only [argsEnv]
 refine WP.seq ?_; refine WP.region [0, 1] rfl ?_; iterate 2 refine WP.mv rfl rfl ?_
 refine WP.nil (WP.next (WP.seq (WP.seq ?_)))
 refine WP.region [0, 1, 2, 3, 4, 5] rfl ?_; refine WP.mv rfl rfl ?_; refine WP.vl rfl (Yld.lss rfl rfl rfl false (decide_eq_false (by omega))) ?_; refine WP.mv rfl rfl ?_; refine WP.valG rfl rfl rfl rfl rfl rfl rfl (Yld.move rfl rfl) ?_; refine WP.valG rfl rfl rfl rfl rfl rfl rfl (Yld.gtr rfl rfl rfl false (decide_eq_false (by omega))) ?_; refine WP.vl rfl (Yld.pickF rfl rfl rfl) ?_; refine WP.nil ?_; refine WP.sub [(0, _), (2, _), (3, _), (10, _)] ?_ ⟨rfl, rfl, rfl, rfl, trivial⟩
 refine WP.next ?_; refine WP.condF rfl ?_; refine WP.skip (WP.next (WP.seq ?_))
 refine WP.region [0, 1, 2] rfl ?_; refine WP.mv rfl rfl ?_; refine WP.vl rfl (Yld.mul64 rfl rfl rfl (by omega)) ?_; refine WP.mv rfl rfl ?_; refine WP.nil ?_; refine WP.sub [(0, _), (2, _), (3, _), (4, _), (10, _)] ?_ ⟨rfl, rfl, rfl, rfl, rfl, trivial⟩
 refine WP.next (WP.seq ?_)
 refine WD.start Tryzmixed 5 (fun _ _ => False) (fun _ _ => False) (fun _ _ h => h.elim) (fun _ _ h => h.elim) 8 [false, false, false, false, false, false, false, false] rfl rfl ?_; refine WD.vl (i := 0) rfl (Yld.move rfl rfl) ?_; refine WD.vl (i := 2) rfl (Yld.move rfl rfl) ?_; refine WD.both (i := 1) (j := 3) zK rfl rfl ?_ ?_
 ·refine WP.oper rfl rfl ?_
  refine Op.make (l := n * 64) (c := n * 64) rfl ty_sl_25 ty_el_25 rfl rfl rfl (congrArg (fun z => some (Value.int .i64 z)) (by omega)) (congrArg (fun z => some (Value.int .i64 z)) (by omega)) (Nat.le_refl _) (by omega) (by omega) (fun bp => ?_)
  rw [bytes0]
  refine WD.go (.inr (fun _ _ h => h.elim)) (fun _ _ h => h.elim) ?_; refine WD.loud (i := 3) zK rfl rfl rfl ?_; refine Op.make (l := n * 64) (c := n * 64) rfl ty_sl_25 ty_el_25 rfl rfl rfl (congrArg (fun z => some (Value.int .i64 z)) (by omega)) (congrArg (fun z => some (Value.int .i64 z)) (by omega)) (Nat.le_refl _) (by omega) (by omega) (fun bn => ?_)
  rw [bytes0]
  refine WD.go (.inr (fun _ _ h => h.elim)) (fun _ _ h => h.elim) ?_; refine WD.vl (i := 4) rfl (Yld.buildS (pl := [(0, 0, 1), (1, 1, 1), (3, 3, 1)]) rfl ty_zr_115 ty_zd_115 zK rfl (vs := [_, _, _]) rfl (segs := [(0, [_]), (1, [_]), (3, [_])]) rfl rfl zS) ?_; refine WD.loud (i := 5) zK rfl rfl rfl ?_; refine Op.box rfl rfl rfl rfl rfl (fun d => ?_)
  refine WD.go (.inl rfl) (fun _ _ h => h.elim) ?_; refine WD.vl (i := 6) rfl (Yld.assign rfl rfl) ?_; refine WD.vl (i := 7) rfl (Yld.assign rfl rfl) ?_; refine WD.done zK ?_; refine WP.sub [(0, _), (2, _), (3, _), (4, _), (10, _)] ?_ ⟨rfl, rfl, rfl, rfl, rfl, trivial⟩
  refine WP.next (WP.ret ?_)
  refine WP.fn .ret (.inr rfl) (res2 rfl rfl rfl) [(d, row 115 _), (bp, row 5 _), (bn, row 5 _)] (Imm.le_refl _) ?_; exact ⟨rfl, d, rfl, .mk (vw := .slice none 0 0) (Lw := []) (Dk.new_ok h1 h2) .none0⟩
 ·refine WP.oper rfl rfl ?_
  refine Op.make (l := n * 64) (c := n * 64) rfl ty_sl_25 ty_el_25 rfl rfl rfl (congrArg (fun z => some (Value.int .i64 z)) (by omega)) (congrArg (fun z => some (Value.int .i64 z)) (by omega)) (Nat.le_refl _) (by omega) (by omega) (fun bn => ?_)
  rw [bytes0]
  refine WD.go (.inr (fun _ _ h => h.elim)) (fun _ _ h => h.elim) ?_; refine WD.loud (i := 1) zK rfl rfl rfl ?_; refine Op.make (l := n * 64) (c := n * 64) rfl ty_sl_25 ty_el_25 rfl rfl rfl (congrArg (fun z => some (Value.int .i64 z)) (by omega)) (congrArg (fun z => some (Value.int .i64 z)) (by omega)) (Nat.le_refl _) (by omega) (by omega) (fun bp => ?_)
  rw [bytes0]
  refine WD.go (.inr (fun _ _ h => h.elim)) (fun _ _ h => h.elim) ?_; refine WD.vl (i := 4) rfl (Yld.buildS (pl := [(0, 0, 1), (1, 1, 1), (3, 3, 1)]) rfl ty_zr_115 ty_zd_115 zK rfl (vs := [_, _, _]) rfl (segs := [(0, [_]), (1, [_]), (3, [_])]) rfl rfl zS) ?_; refine WD.loud (i := 5) zK rfl rfl rfl ?_; refine Op.box rfl rfl rfl rfl rfl (fun d => ?_)
  refine WD.go (.inl rfl) (fun _ _ h => h.elim) ?_; refine WD.vl (i := 6) rfl (Yld.assign rfl rfl) ?_; refine WD.vl (i := 7) rfl (Yld.assign rfl rfl) ?_; refine WD.done zK ?_; refine WP.sub [(0, _), (2, _), (3, _), (4, _), (10, _)] ?_ ⟨rfl, rfl, rfl, rfl, rfl, trivial⟩
  refine WP.next (WP.ret ?_)
  refine WP.fn .ret (.inr rfl) (res2 rfl rfl rfl) [(d, row 115 _), (bp, row 5 _), (bn, row 5 _)] (Imm.le_refl _) ?_; exact ⟨rfl, d, rfl, .mk (vw := .slice none 0 0) (Lw := []) (Dk.new_ok h1 h2) .none0⟩

theorem disk_Sectors {I : Imm} {d n : Nat} {x : Dk} {L : Chunks} (hd : IsDisk d n x L) : Spec Tryz.prog 49 [.pointer (some ⟨d, 0, none⟩)] I L (fun v' J L' => v' = .int .i64 (n : Int) ∧ I = J ∧ L = L') := by
 cases hd with
 | @mk bp bn vw Lw ok ow =>
 obtain ⟨n1, n2, lp, ln, hw, hl⟩ := id ok
 obtain ⟨Aw, cw, rfl, hcw⟩ := ow.slice
 refine Spec.of Tryz.func49 rfl Tryz.ntmps49 (Nat.le_of_ble_eq_true rfl) (fun F => ?_)
 try simp only [nf]
 dsimp only [argsEnv]
 refine WP.seq ?_; refine WP.region [0] rfl ?_; refine WP.mv rfl rfl ?_; refine WP.nil (WP.next (WP.seq ?_))
 refine WP.region [0, 1, 2, 3, 4, 5, 6] rfl ?_; refine WP.mv rfl rfl ?_; refine WP.vl rfl (Yld.nilCheck rfl rfl) ?_; refine WP.vl rfl (Yld.fieldAddr rfl ty_fd_115_0 rfl) ?_; refine WP.vl rfl (Yld.ld rfl ty_sc_25 rfl rfl) ?_; refine WP.vl rfl (Yld.len rfl ty_sl_25 rfl) ?_; refine WP.vl rfl (Yld.quo64 rfl rfl rfl (by omega)) ?_; refine WP.mv rfl rfl ?_; refine WP.nil ?_; refine WP.sub [(0, _), (2, _)] ?_ ⟨rfl, rfl, trivial⟩
 refine WP.next (WP.ret ?_)
 refine WP.fn .ret (.inr rfl) (res1 rfl rfl) ((d, row 115 [.slice (some ⟨bp, 0, none⟩) (n * 64) (n * 64), .slice (some ⟨bn, 0, none⟩) (n * 64) (n * 64), _, .int .i64 x.left, .bool x.off, .int .i64 x.writes, .int .i64 x.syncs]) :: (bp, row 5 (bytesV x.plat)) :: (bn, row 5 (bytesV x.now)) :: Lw) (Imm.le_refl _) ?_; exact ⟨congrArg (Value.int .i64) (by omega), rfl, rfl⟩

theorem disk_has {I : Imm} {d n : Nat} {x : Dk} {L : Chunks} (hd : IsDisk d n x L) {at_ many : Int} (h0 : 0 ≤ at_) : Spec Tryz.prog 138 [.pointer (some ⟨d, 0, none⟩), .int .i64 at_, .int .i64 many] I L (fun v' J L' => v' = .bool (decide (many = 0 ∨ (at_ ≤ n ∧ many ≤ n - at_))) ∧ I = J ∧ L = L') := by
 cases hd with
 | @mk bp bn vw Lw ok ow =>
 obtain ⟨n1, n2, lp, ln, hw, hl⟩ := id ok
 obtain ⟨Aw, cw, rfl, hcw⟩ := ow.slice
 refine Spec.of Tryz.func138 rfl Tryz.ntmps138 (Nat.le_of_ble_eq_true rfl) (fun F => ?_)
 try simp only [nf]
 dsimp only [argsEnv]
 refine WP.seq ?_; refine WP.region [0] rfl ?_; refine WP.mv rfl rfl ?_; refine WP.nil (WP.next (WP.seq ?_))
 refine WP.region [0, 1, 2, 3, 4, 5, 6, 7, 8, 9, 10, 11, 12, 13, 14, 15, 16] rfl ?_; refine WP.mv rfl rfl ?_; refine WP.split rfl rfl rfl rfl (Yld.eql rfl rfl rfl) (fun h1 => ?_) (fun h1 => ?_)
 ·refine WP.mv rfl rfl ?_
  iterate 12 refine WP.passG rfl rfl rfl rfl rfl rfl rfl rfl ?_
  refine WP.vl rfl (Yld.pickT rfl rfl rfl) ?_; refine WP.mv rfl rfl ?_; refine WP.nil ?_; refine WP.sub [(0, _), (1, _), (2, _), (6, _)] ?_ ⟨rfl, rfl, rfl, rfl, trivial⟩
  refine WP.next (WP.ret ?_)
  refine WP.fn .ret (.inr rfl) (res1 rfl rfl) ((d, row 115 [.slice (some ⟨bp, 0, none⟩) (n * 64) (n * 64), .slice (some ⟨bn, 0, none⟩) (n * 64) (n * 64), _, .int .i64 x.left, .bool x.off, .int .i64 x.writes, .int .i64 x.syncs]) :: (bp, row 5 (bytesV x.plat)) :: (bn, row 5 (bytesV x.now)) :: Lw) (Imm.le_refl _) ?_; exact ⟨congrArg Value.bool (by simp; omega), rfl, rfl⟩
 ·refine WP.mv rfl rfl ?_
  iterate 2 refine WP.valG rfl rfl rfl rfl rfl rfl rfl (Yld.move rfl rfl) ?_
  refine WP.loudG rfl rfl rfl rfl rfl ?_; refine Op.cl (disk_Sectors (.mk ok ow)) rfl Tryz.func49 rfl rfl rfl rfl ?_; rintro v J L1 - ⟨rfl, rfl, rfl⟩
  try simp only [nf]
  refine WP.splitG rfl rfl rfl rfl rfl rfl rfl (Yld.leq rfl rfl rfl) (fun h2 => ?_) (fun h2 => ?_)
  ·refine WP.valG rfl rfl rfl rfl rfl rfl rfl (Yld.move rfl rfl) ?_
   iterate 2 refine WP.valG rfl rfl rfl rfl rfl rfl rfl (Yld.move rfl rfl) ?_
   refine WP.loudG rfl rfl rfl rfl rfl ?_; refine Op.cl (disk_Sectors (.mk ok ow)) rfl Tryz.func49 rfl rfl rfl rfl ?_; rintro v J L1 - ⟨rfl, rfl, rfl⟩
   try simp only [nf]
   refine WP.valG rfl rfl rfl rfl rfl rfl rfl (Yld.move rfl rfl) ?_; refine WP.valG rfl rfl rfl rfl rfl rfl rfl (Yld.sub64 rfl rfl rfl (by omega)) ?_; refine WP.splitG rfl rfl rfl rfl rfl rfl rfl (Yld.leq rfl rfl rfl) (fun h3 => ?_) (fun h3 => ?_)
   ·refine WP.valG rfl rfl rfl rfl rfl rfl rfl (Yld.pickT rfl rfl rfl) ?_
    refine WP.vl rfl (Yld.pickF rfl rfl rfl) ?_; refine WP.mv rfl rfl ?_; refine WP.nil ?_; refine WP.sub [(0, _), (1, _), (2, _), (6, _)] ?_ ⟨rfl, rfl, rfl, rfl, trivial⟩
    refine WP.next (WP.ret ?_)
    refine WP.fn .ret (.inr rfl) (res1 rfl rfl) ((d, row 115 [.slice (some ⟨bp, 0, none⟩) (n * 64) (n * 64), .slice (some ⟨bn, 0, none⟩) (n * 64) (n * 64), _, .int .i64 x.left, .bool x.off, .int .i64 x.writes, .int .i64 x.syncs]) :: (bp, row 5 (bytesV x.plat)) :: (bn, row 5 (bytesV x.now)) :: Lw) (Imm.le_refl _) ?_; exact ⟨congrArg Value.bool (by simp; omega), rfl, rfl⟩
   ·refine WP.valG rfl rfl rfl rfl rfl rfl rfl (Yld.pickT rfl rfl rfl) ?_
    refine WP.vl rfl (Yld.pickF rfl rfl rfl) ?_; refine WP.mv rfl rfl ?_; refine WP.nil ?_; refine WP.sub [(0, _), (1, _), (2, _), (6, _)] ?_ ⟨rfl, rfl, rfl, rfl, trivial⟩
    refine WP.next (WP.ret ?_)
    refine WP.fn .ret (.inr rfl) (res1 rfl rfl) ((d, row 115 [.slice (some ⟨bp, 0, none⟩) (n * 64) (n * 64), .slice (some ⟨bn, 0, none⟩) (n * 64) (n * 64), _, .int .i64 x.left, .bool x.off, .int .i64 x.writes, .int .i64 x.syncs]) :: (bp, row 5 (bytesV x.plat)) :: (bn, row 5 (bytesV x.now)) :: Lw) (Imm.le_refl _) ?_; exact ⟨congrArg Value.bool (by simp; omega), rfl, rfl⟩
  ·refine WP.valG rfl rfl rfl rfl rfl rfl rfl (Yld.move rfl rfl) ?_
   iterate 6 refine WP.passG rfl rfl rfl rfl rfl rfl rfl rfl ?_
   refine WP.valG rfl rfl rfl rfl rfl rfl rfl (Yld.pickF rfl rfl rfl) ?_; refine WP.vl rfl (Yld.pickF rfl rfl rfl) ?_; refine WP.mv rfl rfl ?_; refine WP.nil ?_; refine WP.sub [(0, _), (1, _), (2, _), (6, _)] ?_ ⟨rfl, rfl, rfl, rfl, trivial⟩
   refine WP.next (WP.ret ?_)
   refine WP.fn .ret (.inr rfl) (res1 rfl rfl) ((d, row 115 [.slice (some ⟨bp, 0, none⟩) (n * 64) (n * 64), .slice (some ⟨bn, 0, none⟩) (n * 64) (n * 64), _, .int .i64 x.left, .bool x.off, .int .i64 x.writes, .int .i64 x.syncs]) :: (bp, row 5 (bytesV x.plat)) :: (bn, row 5 (bytesV x.now)) :: Lw) (Imm.le_refl _) ?_; exact ⟨congrArg Value.bool (by simp; omega), rfl, rfl⟩


def Dk.cut (x : Dk) (a : Int) : Dk := { x with left := if -1 < a then a else -1 }
theorem Dk.cut_ok {n : Nat} {x : Dk} (h : x.ok n) {a : Int} (ha : a ≤ 9223372036854775807) : (x.cut a).ok n := ⟨h.n1, h.n2, h.lp, h.ln, h.hw, by simp only [Dk.cut]; split <;> omega⟩
def Dk.sync (x : Dk) : Dk := if x.off then x else { x with plat := x.now, waits := [], syncs := IntKind.i64.wrap (x.syncs + 1) }
theorem Dk.sync_ok {n : Nat} {x : Dk} (h : x.ok n) : x.sync.ok n := by
 unfold Dk.sync
 split
 ·exact h
 ·exact ⟨h.n1, h.n2, h.ln, h.ln, by simp, h.hl⟩
def Dk.read (x : Dk) (n : Nat) (at_ many : Int) : List UInt8 × Int :=
 if x.off then ([], 4) else if at_ < 0 ∨ many < 0 ∨ ¬ (many = 0 ∨ (at_ ≤ n ∧ many ≤ n - at_)) then ([], 1) else ((x.now.drop (at_.toNat * 64)).take (many.toNat * 64), 0)
theorem disk_Sync {I : Imm} {d n : Nat} {x : Dk} {L : Chunks} (hd : IsDisk d n x L) : Spec Tryz.prog 121 [.pointer (some ⟨d, 0, none⟩)] I L (fun v' J L' => v' = .int .i64 (if x.off then 4 else 0) ∧ I = J ∧ IsDisk d n x.sync L') := by
 cases hd with
 | @mk bp bn vw Lw ok ow =>
 obtain ⟨n1, n2, lp, ln, hw, hl⟩ := id ok
 obtain ⟨Aw, cw, rfl, hcw⟩ := ow.slice
 refine Spec.of Tryz.func121 rfl Tryz.ntmps121 (Nat.le_of_ble_eq_true rfl) (fun F => ?_)
 try simp only [nf]
 dsimp only [argsEnv]
 refine WP.seq ?_; refine WP.region [0] rfl ?_; refine WP.mv rfl rfl ?_; refine WP.nil (WP.next (WP.seq (WP.seq ?_)))
 refine WP.region [0, 1, 2, 3] rfl ?_; refine WP.mv rfl rfl ?_; refine WP.vl rfl (Yld.nilCheck rfl rfl) ?_; refine WP.vl rfl (Yld.fieldAddr rfl ty_fd_115_4 rfl) ?_; refine WP.splitB rfl rfl rfl rfl (Yld.ld rfl ty_sc_4 rfl rfl) (fun hb => ?_) (fun hb => ?_)
 ·refine WP.nil ?_
  refine WP.sub [(0, _), (2, _), (6, _)] ?_ ⟨rfl, rfl, rfl, trivial⟩
  refine WP.next ?_; refine WP.condT rfl ?_; refine WP.seq ?_; refine WP.region [0] rfl ?_; refine WP.mv rfl rfl ?_; refine WP.nil (WP.next (WP.ret ?_))
  refine WP.fn .ret (.inr rfl) (res1 rfl rfl) ((d, row 115 _) :: (bp, row 5 _) :: (bn, row 5 _) :: Lw) (Imm.le_refl _) ?_; exact ⟨by simp [hb], rfl, by have e : x.sync = x := (by simp [Dk.sync, hb]); rw [e]; exact .mk ok ow⟩
 ·refine WP.nil ?_
  refine WP.sub [(0, _), (2, _), (6, _)] ?_ ⟨rfl, rfl, rfl, trivial⟩
  refine WP.next ?_; refine WP.condF rfl ?_; refine WP.skip (WP.next (WP.seq ?_))
  refine WQ.start Tryzmixed 8 zK _ rfl [8] rfl ?_; refine WQ.val rfl rfl rfl (Yld.move rfl rfl) ?_; refine WQ.val rfl rfl rfl (Yld.nilCheck rfl rfl) ?_; refine WQ.val rfl rfl rfl (Yld.fieldAddr rfl ty_fd_115_0 rfl) ?_; refine WQ.val rfl rfl rfl (Yld.ld rfl ty_sc_25 rfl rfl) ?_; refine WQ.val rfl rfl rfl (Yld.move rfl rfl) ?_; refine WQ.val rfl rfl rfl (Yld.nilCheck rfl rfl) ?_; refine WQ.val rfl rfl rfl (Yld.fieldAddr rfl ty_fd_115_1 rfl) ?_; refine WQ.val rfl rfl rfl (Yld.ld rfl ty_sc_25 rfl rfl) ?_; refine WQ.nil ?_; refine WP.loud rfl rfl ?_; refine Op.copyB (k := 0) (m := n * 64) (m2 := n * 64) (q := n * 64) (old := x.plat) (new := x.now) rfl ty_sl_25 rfl rfl rfl rfl (SlAt.blk (Nat.le_refl _)) (SlAt.rdB (l := x.now) (SlAt.blk (Nat.le_refl _)) zM (by omega)) (Nat.min_self _) (by omega) (by simp [List.take_of_length_le, ln, lp]) (by repeat (first | exact Upd.head | apply Upd.tail | apply Upd.tailS)) ?_; refine WP.nil ?_; refine WP.sub [(0, _), (2, _), (6, _)] ?_ ⟨rfl, rfl, rfl, trivial⟩
  refine WP.next (WP.seq ?_)
  refine WP.region [0, 1, 2, 3] rfl ?_; refine WP.mv rfl rfl ?_; refine WP.vl rfl (Yld.nilCheck rfl rfl) ?_; refine WP.vl rfl (Yld.fieldAddr rfl ty_fd_115_2 rfl) ?_; refine WP.loud rfl rfl ?_; refine Op.s1 rfl rfl ty_sz_113 rfl rfl rfl ?_; refine WP.nil ?_; refine WP.sub [(0, _), (2, _), (6, _)] ?_ ⟨rfl, rfl, rfl, trivial⟩
  refine WP.next (WP.seq ?_)
  refine WP.region [0, 1, 2, 3, 4, 5, 6, 7] rfl ?_; refine WP.mv rfl rfl ?_; refine WP.vl rfl (Yld.nilCheck rfl rfl) ?_; refine WP.vl rfl (Yld.fieldAddr rfl ty_fd_115_6 rfl) ?_; refine WP.vl rfl (Yld.ld rfl ty_sc_3 rfl rfl) ?_; refine WP.vl rfl (Yld.add rfl rfl rfl) ?_; refine WP.vl rfl (Yld.nilCheck rfl rfl) ?_; refine WP.vl rfl (Yld.fieldAddr rfl ty_fd_115_6 rfl) ?_; refine WP.loud rfl rfl ?_; refine Op.s1 rfl rfl ty_sz_3 rfl rfl rfl ?_; refine WP.nil ?_; refine WP.sub [(0, _), (2, _), (6, _)] ?_ ⟨rfl, rfl, rfl, trivial⟩
  refine WP.next (WP.seq ?_)
  refine WP.region [0] rfl ?_; refine WP.mv rfl rfl ?_; refine WP.nil (WP.next (WP.ret ?_))
  refine WP.fn .ret (.inr rfl) (res1 rfl rfl) [(d, row 115 _), (bp, row 5 _), (bn, row 5 _)] (Imm.le_refl _) ?_; exact ⟨by simp [hb], rfl, by have e : x.sync = { x with plat := x.now, waits := [], syncs := IntKind.i64.wrap (x.syncs + 1) } := (by simp [Dk.sync, hb]); rw [e]; exact .mk (x := { x with plat := x.now, waits := [], syncs := IntKind.i64.wrap (x.syncs + 1) }) (e ▸ Dk.sync_ok ok) (hb ▸ .none0)⟩


theorem wcell_rd {V : Nat → Obj → Prop} {b T h : Nat} {e : Nat × List UInt8} (hs : e.2.length = 64) (hb : V b (row T (wcell e))) (hh : h ≤ 64) : SlRd V (subSl 1 0 h (.slice (some ⟨b, 1, none⟩) 64 64)) (h - 0) 1 (bytesV (e.2.take h)) := by
 have := SlAt.rd (sz := 1) (SlAt.sub (sz := 1) (l := 0) (h := h) (SlAt.arr (b := b) (k := 1) (n := 64)) (Nat.zero_le _) hh) hb (by rw [wcell_len hs]; omega)
 simpa [wcell, bytesV_take] using this
theorem SlRd.dropB {V : Nat → Obj → Prop} {v : Value} {bs : List UInt8} {l : Nat} (h : SlRd V v bs.length 1 (bytesV bs)) (hl : l ≤ bs.length) : SlRd V (subSl 1 l bs.length v) (bs.drop l).length 1 (bytesV (bs.drop l)) := by
 have := h.sub hl (Nat.le_refl _)
 rw [bytesV_drop, bytesV_take, Nat.mul_one, Nat.mul_one, List.take_of_length_le (by simp)] at this
 rw [List.length_drop]; exact this
def dec (l : Int) : Int := if 0 < l then l - 1 else l
def Dk.write1 (x : Dk) (at_ : Nat) (s : List UInt8) : Dk := { x with left := dec x.left, writes := IntKind.i64.wrap (x.writes + 1), waits := x.waits ++ [(at_, s)], now := x.now.take (at_ * 64) ++ s ++ x.now.drop (at_ * 64 + 64) }
def Dk.puts : Nat → Dk → Nat → List UInt8 → Dk × Int
 | 0, x, _, _ => (x, 0)
 | k + 1, x, at_, b => if x.left = 0 then ({ x with off := true, left := -1 }, 4) else Dk.puts k (x.write1 at_ (b.take 64)) (at_ + 1) (b.drop 64)
def Dk.write (x : Dk) (n : Nat) (at_ : Int) (bs : List UInt8) : Dk × Int :=
 if x.off then (x, 4) else if at_ < 0 ∨ bs.length % 64 ≠ 0 then (x, 1)
 else if ¬ (((bs.length / 64 : Nat) : Int) = 0 ∨ (at_ ≤ n ∧ ((bs.length / 64 : Nat) : Int) ≤ n - at_)) then (x, 3) else Dk.puts (bs.length / 64) x at_.toNat bs
theorem Dk.write1_ok {n at_ : Nat} {x : Dk} {s : List UInt8} (h : x.ok n) (hs : s.length = 64) (ha : at_ < n) : (x.write1 at_ s).ok n := by
 obtain ⟨n1, n2, lp, ln, hw, hl⟩ := h
 refine ⟨n1, n2, lp, by simp [Dk.write1, ln, hs]; omega, ?_, ?_⟩
 ·intro e he
  simp only [Dk.write1, List.mem_append, List.mem_singleton] at he
  rcases he with he | rfl
  ·exact hw e he
  ·exact ⟨ha, hs⟩
 ·simp only [Dk.write1, dec]; split <;> omega
structure WX where
 y : Dk
 at_ : Nat
 bs : List UInt8
 v : Value
 vw : Value
 Lw : Chunks
structure WX.ok (I : Imm) (n : Nat) (r : Dk × Int) (t : WX) : Prop where
 ok : t.y.ok n
 sl : SlRd (Im I) t.v t.bs.length 1 (bytesV t.bs)
 md : t.bs.length % 64 = 0
 rm : t.bs.length = 0 ∨ t.at_ + t.bs.length / 64 ≤ n
 ow : Own 249 65 t.vw (wcells t.y.waits) t.y.waits.length t.Lw
 eq : Dk.puts (t.bs.length / 64) t.y t.at_ t.bs = r
 wl : t.y.waits.length + t.bs.length / 64 ≤ 1954687338000
 bl : t.bs.length ≤ 1152921504606846976
theorem WX.next {I : Imm} {n : Nat} {r : Dk × Int} {y : Dk} {at_ : Nat} {bs : List UInt8} {v vw vw' : Value} {Lw Lw' : Chunks} (h : (⟨y, at_, bs, v, vw, Lw⟩ : WX).ok I n r) (hp : 0 < bs.length) (hz : ¬ y.left = 0)
  (ho : Own 249 65 vw' (wcells y.waits ++ wcell (at_, bs.take 64)) (y.waits.length + 1) Lw') : (⟨y.write1 at_ (bs.take 64), at_ + 1, bs.drop 64, subSl 1 64 bs.length v, vw', Lw'⟩ : WX).ok I n r := by
 obtain ⟨g1, g2, g3, g4, g5, g6, g7, g8⟩ := h
 simp only at g1 g2 g3 g4 g5 g6 g7 g8
 have hk : bs.length / 64 = (bs.drop 64).length / 64 + 1 := by rw [List.length_drop]; omega
 have ht : (bs.take 64).length = 64 := by rw [List.length_take]; omega
 refine ⟨Dk.write1_ok g1 ht (by omega), g2.dropB (by omega), by rw [List.length_drop]; omega, ?_, ?_, ?_, ?_, ?_⟩
 ·simp only [List.length_drop]; omega
 ·simp only [Dk.write1, wcells_app, List.length_append, List.length_cons, List.length_nil]
  simpa [wcells] using ho
 ·rw [hk, Dk.puts, if_neg hz] at g6; exact g6
 ·simp only [Dk.write1, List.length_append, List.length_cons, List.length_nil, List.length_drop]; omega
 ·simp only [List.length_drop]; omega
theorem disk_Write {I : Imm} {d n : Nat} {x : Dk} {L : Chunks} (hd : IsDisk d n x L) {at_0 : Int} {bs0 : List UInt8} {vb : Value} (hbs : SlRd (Im I) vb bs0.length 1 (bytesV bs0)) (hwb : x.waits.length + 8192 ≤ 1954687338000) (hbl : bs0.length ≤ 1152921504606846976) : Spec Tryz.prog 120 [.pointer (some ⟨d, 0, none⟩), .int .i64 at_0, vb] I L (fun v' J L' => v' = .int .i64 (x.write n at_0 bs0).2 ∧ I = J ∧ IsDisk d n (x.write n at_0 bs0).1 L') := by
 cases hd with
 | @mk bp bn vw Lw ok ow =>
 obtain ⟨n1, n2, lp, ln, hw, hl⟩ := id ok
 obtain ⟨Aw, cw, rfl, hcw⟩ := ow.slice
 refine Spec.of Tryz.func120 rfl Tryz.ntmps120 (Nat.le_of_ble_eq_true rfl) (fun F => ?_)
 try simp only [nf]
 dsimp only [argsEnv]
 refine WP.seq ?_; refine WP.region [0] rfl ?_; refine WP.mv rfl rfl ?_; refine WP.nil (WP.next (WP.seq (WP.block (WP.seq ?_))))
 refine WP.region [0, 1, 2, 3, 4] rfl ?_; refine WP.mv rfl rfl ?_; refine WP.vl rfl (Yld.nilCheck rfl rfl) ?_; refine WP.vl rfl (Yld.fieldAddr rfl ty_fd_115_4 rfl) ?_; refine WP.splitB rfl rfl rfl rfl (Yld.ld rfl ty_sc_4 rfl rfl) (fun hb => ?_) (fun hb => ?_)
 ·refine WP.mv rfl rfl ?_
  refine WP.nil ?_; refine WP.sub [(0, _), (1, _), (2, _), (6, _), (8, _)] ?_ ⟨rfl, rfl, rfl, rfl, rfl, trivial⟩
  refine WP.next ?_; refine WP.condT rfl ?_; refine WP.seq ?_; refine WP.region [0] rfl ?_; refine WP.mv rfl rfl ?_; refine WP.nil (WP.next (WP.ret ?_))
  refine WP.fn .ret (.inr rfl) (res1 rfl rfl) ((d, row 115 _) :: (bp, row 5 _) :: (bn, row 5 _) :: Lw) (Imm.le_refl _) ?_; have hr : x.write n at_0 bs0 = (x, 4) := by simp [Dk.write, hb]
  rw [hr]; exact ⟨rfl, rfl, .mk ok ow⟩
 ·refine WP.mv rfl rfl ?_
  refine WP.nil ?_; refine WP.sub [(0, _), (1, _), (2, _), (6, _), (8, _)] ?_ ⟨rfl, rfl, rfl, rfl, rfl, trivial⟩
  refine WP.next ?_; refine WP.condF rfl ?_; refine WP.seq ?_; refine WP.region [0, 1, 2, 3, 4, 5, 6, 7, 8] rfl ?_; refine WP.mv rfl rfl ?_; refine WP.split rfl rfl rfl rfl (Yld.lss rfl rfl rfl) (fun h1 => ?_) (fun h1 => ?_)
  ·refine WP.mv rfl rfl ?_
   iterate 4 refine WP.passG rfl rfl rfl rfl rfl rfl rfl rfl ?_
   refine WP.vl rfl (Yld.pickT rfl rfl rfl) ?_; refine WP.mv rfl rfl ?_; refine WP.nil ?_; refine WP.sub [(0, _), (1, _), (2, _), (6, _), (8, _), (13, _)] ?_ ⟨rfl, rfl, rfl, rfl, rfl, rfl, trivial⟩
   refine WP.next ?_; refine WP.condT rfl ?_; refine WP.seq ?_; refine WP.region [0] rfl ?_; refine WP.mv rfl rfl ?_; refine WP.nil (WP.next (WP.ret ?_))
   refine WP.fn .ret (.inr rfl) (res1 rfl rfl) ((d, row 115 _) :: (bp, row 5 _) :: (bn, row 5 _) :: Lw) (Imm.le_refl _) ?_; have hr : x.write n at_0 bs0 = (x, 1) := by simp [Dk.write, hb, h1]
   rw [hr]; exact ⟨rfl, rfl, .mk ok ow⟩
  ·refine WP.mv rfl rfl ?_
   refine WP.valG rfl rfl rfl rfl rfl rfl rfl (Yld.move rfl rfl) ?_; refine WP.valG rfl rfl rfl rfl rfl rfl rfl (Yld.lenR hbs rfl ty_sl_25 rfl) ?_; refine WP.valG rfl rfl rfl rfl rfl rfl rfl (Yld.rem64 rfl rfl rfl (by omega)) ?_; refine WP.splitG rfl rfl rfl rfl rfl rfl rfl (Yld.neq rfl rfl rfl) (fun h3 => ?_) (fun h3 => ?_)
   ·refine WP.vl rfl (Yld.pickF rfl rfl rfl) ?_
    refine WP.mv rfl rfl ?_; refine WP.nil ?_; refine WP.sub [(0, _), (1, _), (2, _), (6, _), (8, _), (13, _)] ?_ ⟨rfl, rfl, rfl, rfl, rfl, rfl, trivial⟩
    refine WP.next ?_; refine WP.condT rfl ?_; refine WP.seq ?_; refine WP.region [0] rfl ?_; refine WP.mv rfl rfl ?_; refine WP.nil (WP.next (WP.ret ?_))
    refine WP.fn .ret (.inr rfl) (res1 rfl rfl) ((d, row 115 _) :: (bp, row 5 _) :: (bn, row 5 _) :: Lw) (Imm.le_refl _) ?_; have hr : x.write n at_0 bs0 = (x, 1) := by simp only [Dk.write, hb, Bool.false_eq_true, if_false]; rw [if_pos (Or.inr (by omega))]
    rw [hr]; exact ⟨rfl, rfl, .mk ok ow⟩
   ·refine WP.vl rfl (Yld.pickF rfl rfl rfl) ?_
    refine WP.mv rfl rfl ?_; refine WP.nil ?_; refine WP.sub [(0, _), (1, _), (2, _), (6, _), (8, _), (13, _)] ?_ ⟨rfl, rfl, rfl, rfl, rfl, rfl, trivial⟩
    refine WP.next ?_; refine WP.condF rfl ?_; refine WP.seq ?_; refine WP.region [0, 1, 2, 3, 4, 5, 6, 7] rfl ?_; iterate 3 refine WP.mv rfl rfl ?_
    refine WP.vl rfl (Yld.lenR hbs rfl ty_sl_25 rfl) ?_; refine WP.vl rfl (Yld.quo64 rfl rfl rfl (by omega)) ?_; refine WP.loud rfl rfl ?_; refine Op.cl (disk_has (.mk ok ow) (by omega)) rfl Tryz.func138 rfl rfl rfl rfl ?_; rintro v J L1 - ⟨rfl, rfl, rfl⟩
    try simp only [nf]
    refine WP.vl rfl (Yld.not rfl rfl) ?_; refine WP.mv rfl rfl ?_; refine WP.nil ?_; refine WP.sub [(0, _), (1, _), (2, _), (6, _), (8, _), (13, _), (22, _)] ?_ ⟨rfl, rfl, rfl, rfl, rfl, rfl, rfl, trivial⟩
    refine WP.next ?_; refine WP.cond rfl (fun ht => ?_) (fun ht => ?_)
    ·refine WP.seq ?_
     refine WP.region [0] rfl ?_; refine WP.mv rfl rfl ?_; refine WP.nil (WP.next (WP.ret ?_))
     refine WP.fn .ret (.inr rfl) (res1 rfl rfl) ((d, row 115 _) :: (bp, row 5 _) :: (bn, row 5 _) :: Lw) (Imm.le_refl _) ?_; have hr : x.write n at_0 bs0 = (x, 3) := by have hh : ¬ (((bs0.length / 64 : Nat) : Int) = 0 ∨ (at_0 ≤ n ∧ ((bs0.length / 64 : Nat) : Int) ≤ n - at_0)) := (fun h => by rw [decide_eq_true (show (bs0.length : Int) / 64 = 0 ∨ (at_0 ≤ n ∧ (bs0.length : Int) / 64 ≤ n - at_0) by omega)] at ht; cases ht); simp only [Dk.write, hb, Bool.false_eq_true, if_false]; rw [if_neg (by omega), if_pos hh]
     rw [hr]; exact ⟨rfl, rfl, .mk ok ow⟩
    ·refine WP.skip ?_
     refine WP.leave (WP.next (WP.seq (WP.block ?_)))
     have hh : ((bs0.length / 64 : Nat) : Int) = 0 ∨ (at_0 ≤ n ∧ ((bs0.length / 64 : Nat) : Int) ≤ n - at_0) := Classical.byContradiction fun h => by rw [decide_eq_false (show ¬ ((bs0.length : Int) / 64 = 0 ∨ (at_0 ≤ n ∧ (bs0.length : Int) / 64 ≤ n - at_0)) by omega)] at ht; cases ht
     have hr0 : x.write n at_0 bs0 = Dk.puts (bs0.length / 64) x at_0.toNat bs0 := by simp only [Dk.write, hb, Bool.false_eq_true, if_false]; rw [if_neg (by omega), if_neg (fun h => h hh)]
     refine WP.loop (X := WX) (fun t : WX => [(0, .pointer (some ⟨d, 0, none⟩)), (1, .int .i64 (t.at_ : Int)), (2, t.v), (6, .int .i64 0)]) (fun _ => I) (fun t : WX => (d, row 115 [.slice (some ⟨bp, 0, none⟩) (n * 64) (n * 64), .slice (some ⟨bn, 0, none⟩) (n * 64) (n * 64), t.vw, .int .i64 t.y.left, .bool t.y.off, .int .i64 t.y.writes, .int .i64 t.y.syncs]) :: (bp, row 5 (bytesV t.y.plat)) :: (bn, row 5 (bytesV t.y.now)) :: (t.Lw ++ F)) (fun t => t.ok I n (x.write n at_0 bs0)) (fun t => t.bs.length) ⟨x, at_0.toNat, bs0, vb, .slice Aw x.waits.length cw, Lw⟩ ⟨ok, hbs, by simp only; omega, by simp only; omega, ow, hr0.symm, by simp only; omega, hbl⟩ ⟨rfl, (congrArg (fun z => some (Value.int .i64 z)) (by simp only; omega)), rfl, rfl, trivial⟩ rfl zP ?_; rintro ⟨y, at_, bs, v, vw, Lw'⟩ hx
     try dsimp only
     try simp only [nf]
     refine WP.seq (WP.seq ?_)
     refine WP.region [0, 1, 2] rfl ?_; refine WP.mv rfl rfl ?_; refine WP.vl rfl (Yld.lenR hx.sl rfl ty_sl_25 rfl) ?_; refine WP.split rfl rfl rfl rfl (Yld.gtr rfl rfl rfl) (fun hgt => ?_) (fun hgt => ?_)
     ·obtain ⟨g1, g2, g3, g4, g5, g6, g7, g8⟩ := id hx
      simp only at g1 g2 g3 g4 g5 g6 g7 g8
      have hgt' : 0 < bs.length := by simp only at hgt; omega
      have gl := g1.ln
      refine WP.nil ?_; refine WP.sub [(0, _), (1, _), (2, _), (6, _), (32, _)] ?_ ⟨rfl, rfl, rfl, rfl, rfl, trivial⟩
      refine WP.next ?_; refine WP.condT rfl ?_; refine WP.skip (WP.next (WP.seq (WP.block (WP.seq (WP.seq ?_)))))
      refine WP.region [0, 1, 2, 3, 4] rfl ?_; refine WP.mv rfl rfl ?_; refine WP.vl rfl (Yld.nilCheck rfl rfl) ?_; refine WP.vl rfl (Yld.fieldAddr rfl ty_fd_115_3 rfl) ?_; refine WP.vl rfl (Yld.ld rfl ty_sc_3 rfl rfl) ?_; refine WP.split rfl rfl rfl rfl (Yld.eql rfl rfl rfl) (fun hz => ?_) (fun hz => ?_)
      ·refine WP.nil ?_
       refine WP.sub [(0, _), (1, _), (2, _), (6, _), (32, _), (41, _)] ?_ ⟨rfl, rfl, rfl, rfl, rfl, rfl, trivial⟩
       refine WP.next ?_; refine WP.condT rfl ?_; refine WP.seq ?_; refine WP.region [0, 1, 2, 3, 4, 5, 6, 7] rfl ?_; iterate 2 refine WP.mv rfl rfl ?_
       refine WP.vl rfl (Yld.nilCheck rfl rfl) ?_; refine WP.vl rfl (Yld.fieldAddr rfl ty_fd_115_4 rfl) ?_; refine WP.loud rfl rfl ?_; refine Op.s1 rfl rfl ty_sz_4 rfl rfl rfl ?_; refine WP.vl rfl (Yld.nilCheck rfl rfl) ?_; refine WP.vl rfl (Yld.fieldAddr rfl ty_fd_115_3 rfl) ?_; refine WP.loud rfl rfl ?_; refine Op.s1 rfl rfl ty_sz_3 rfl rfl rfl ?_; refine WP.nil ?_; refine WP.sub [(0, _), (1, _), (2, _), (6, _), (32, _), (41, _)] ?_ ⟨rfl, rfl, rfl, rfl, rfl, rfl, trivial⟩
       refine WP.next (WP.seq ?_)
       refine WP.region [0] rfl ?_; refine WP.mv rfl rfl ?_; refine WP.nil (WP.next (WP.ret ?_))
       refine WP.fn .ret (.inr rfl) (res1 rfl rfl) ((d, row 115 _) :: (bp, row 5 _) :: (bn, row 5 _) :: Lw') (Imm.le_refl _) ?_; have hr : x.write n at_0 bs0 = ({ y with off := true, left := -1 }, 4) := by rw [← g6, show bs.length / 64 = (bs.length / 64 - 1) + 1 by omega, Dk.puts, if_pos hz]
       rw [hr]; exact ⟨rfl, rfl, .mk (x := { y with off := true, left := -1 }) ⟨g1.n1, g1.n2, g1.lp, g1.ln, g1.hw, by simp⟩ g5⟩
      ·refine WP.nil ?_
       refine WP.sub [(0, _), (1, _), (2, _), (6, _), (32, _), (41, _)] ?_ ⟨rfl, rfl, rfl, rfl, rfl, rfl, trivial⟩
       refine WP.next ?_; refine WP.condF rfl ?_; refine WP.skip (WP.next ?_)
       refine WP.cut (X := Int) (fun _ => [(0, .pointer (some ⟨d, 0, none⟩)), (1, .int .i64 (at_ : Int)), (2, v), (6, .int .i64 0)]) (fun _ => I) (fun l => (d, row 115 [.slice (some ⟨bp, 0, none⟩) (n * 64) (n * 64), .slice (some ⟨bn, 0, none⟩) (n * 64) (n * 64), vw, .int .i64 l, .bool y.off, .int .i64 y.writes, .int .i64 y.syncs]) :: (bp, row 5 (bytesV y.plat)) :: (bn, row 5 (bytesV y.now)) :: (Lw' ++ F)) (fun l => l = dec y.left) ?_ ?_
       ·skip
        refine WP.seq ?_; refine WP.region [0, 1, 2, 3, 4] rfl ?_; refine WP.mv rfl rfl ?_; refine WP.vl rfl (Yld.nilCheck rfl rfl) ?_; refine WP.vl rfl (Yld.fieldAddr rfl ty_fd_115_3 rfl) ?_; refine WP.vl rfl (Yld.ld rfl ty_sc_3 rfl rfl) ?_; refine WP.split rfl rfl rfl rfl (Yld.gtr rfl rfl rfl) (fun hp => ?_) (fun hp => ?_)
        ·refine WP.nil ?_
         refine WP.sub [(0, _), (1, _), (2, _), (6, _), (32, _), (41, _), (52, _)] ?_ ⟨rfl, rfl, rfl, rfl, rfl, rfl, rfl, trivial⟩
         refine WP.next ?_; refine WP.condT rfl ?_; refine WP.region [0, 1, 2, 3, 4, 5, 6, 7] rfl ?_; refine WP.mv rfl rfl ?_; refine WP.vl rfl (Yld.nilCheck rfl rfl) ?_; refine WP.vl rfl (Yld.fieldAddr rfl ty_fd_115_3 rfl) ?_; refine WP.vl rfl (Yld.ld rfl ty_sc_3 rfl rfl) ?_; refine WP.vl rfl (Yld.sub64 rfl rfl rfl (by have := g1.hl; omega)) ?_; refine WP.vl rfl (Yld.nilCheck rfl rfl) ?_; refine WP.vl rfl (Yld.fieldAddr rfl ty_fd_115_3 rfl) ?_; refine WP.loud rfl rfl ?_; refine Op.s1 rfl rfl ty_sz_3 rfl rfl rfl ?_; refine WP.nil ?_; refine WP.sub [(0, _), (1, _), (2, _), (6, _), (32, _), (41, _), (52, _)] ?_ ⟨rfl, rfl, rfl, rfl, rfl, rfl, rfl, trivial⟩
         exact WP.mt (y.left - 1) (by simp [dec, hp]) ⟨rfl, rfl, rfl, rfl, trivial⟩ rfl
        ·refine WP.nil ?_
         refine WP.sub [(0, _), (1, _), (2, _), (6, _), (32, _), (41, _), (52, _)] ?_ ⟨rfl, rfl, rfl, rfl, rfl, rfl, rfl, trivial⟩
         refine WP.next ?_; refine WP.condF rfl ?_; refine WP.skip ?_; exact WP.mt (y.left) (by simp [dec, hp]) ⟨rfl, rfl, rfl, rfl, trivial⟩ rfl
       ·rintro l rfl
        refine WP.seq ?_; refine WP.region [0, 1, 2, 3, 4, 5, 6, 7] rfl ?_; refine WP.mv rfl rfl ?_; refine WP.vl rfl (Yld.nilCheck rfl rfl) ?_; refine WP.vl rfl (Yld.fieldAddr rfl ty_fd_115_5 rfl) ?_; refine WP.vl rfl (Yld.ld rfl ty_sc_3 rfl rfl) ?_; refine WP.vl rfl (Yld.add rfl rfl rfl) ?_; refine WP.vl rfl (Yld.nilCheck rfl rfl) ?_; refine WP.vl rfl (Yld.fieldAddr rfl ty_fd_115_5 rfl) ?_; refine WP.loud rfl rfl ?_; refine Op.s1 rfl rfl ty_sz_3 rfl rfl rfl ?_; refine WP.nil ?_; refine WP.sub [(0, _), (1, _), (2, _), (6, _)] ?_ ⟨rfl, rfl, rfl, rfl, trivial⟩
        refine WP.next (WP.seq ?_)
        obtain ⟨b, kk, c, T, fr, arr, hv, hc, hbb, hv4⟩ := g2.get hgt'
        subst hv
        have hs64 : (bs.take 64).length = 64 := by rw [List.length_take]; omega
        have hv64 : (arr.toList.drop kk).take 64 = bytesV (bs.take 64) := by rw [← bytesV_take, ← hv4, List.take_take, bytesV_len]; congr 1; omega
        refine WP.region [0, 1, 2, 3, 4, 5, 6] rfl ?_; iterate 2 refine WP.mv rfl rfl ?_
        refine WP.vl rfl (Yld.toArr rfl ty_ar_244 rfl (by omega)) ?_; refine WP.vl rfl (Yld.loadAggC rfl ty_ag_244 rfl (There.i hbb) hv64 (by rw [bytesV_len]; exact hs64)) ?_; refine WP.vl rfl (Yld.buildS (pl := [(0, 0, 1), (1, 1, 64)]) rfl ty_zr_249 ty_zd_249 zK rfl (vs := [_, _]) rfl (segs := [(0, [_]), (1, bytesV (bs.take 64))]) (by simp only [List.map_cons, List.map_nil, bytesV_len, hs64]; rfl) rfl (.one .zero (.seg (l1 := wcell (at_, bs.take 64)) (Nat.le_of_eq (by rw [bytesV_len, hs64]; rfl)) (by rw [bytesV_len, hs64]; exact (List.append_nil _).symm) .nil))) ?_; refine WP.loud rfl rfl ?_; refine Op.alloc rfl rfl rfl ty_zr_249 (fun b7 => ?_)
        refine WP.loud rfl rfl ?_; refine Op.sA rfl rfl ty_sz_249 rfl rfl (wcell_len hs64) (wcell_one _) rfl ?_; refine WP.nil ?_; refine WP.sub [(0, _), (1, _), (2, _), (6, _), (7, _)] ?_ ⟨rfl, rfl, rfl, rfl, rfl, trivial⟩
        refine WP.next (WP.seq ?_)
        refine WD.start Tryzmixed 10 (There I [(d, row 115 [.slice (some ⟨bp, 0, none⟩) (n * 64) (n * 64), .slice (some ⟨bn, 0, none⟩) (n * 64) (n * 64), vw, .int .i64 (dec y.left), .bool y.off, .int .i64 (IntKind.i64.wrap (y.writes + 1)), .int .i64 y.syncs]), (b7, row 249 (wcell (at_, bs.take 64)))]) (fun _ _ => False) (.cons zM (.cons zM .nil)) (fun _ _ h => h.elim) 11 [false, false, false, false, false, false, false, false, false, false, false] rfl rfl ?_; refine WD.vl (i := 0) rfl (Yld.move rfl rfl) ?_; refine WD.vl (i := 1) rfl (Yld.move rfl rfl) ?_; refine WD.vl (i := 2) rfl (Yld.nilCheck rfl rfl) ?_; refine WD.vl (i := 3) rfl (Yld.fieldAddr rfl ty_fd_115_2 rfl) ?_; refine WD.val1 (i := 4) rfl rfl rfl rfl zK rfl zK (Yld.load rfl ty_sc_113 rfl (.inl zM) rfl) ?_; refine WD.val1 (i := 5) rfl rfl rfl rfl zK rfl zK (Yld.loadAll rfl ty_ag_249 rfl (.inl zM) (wcell_len hs64)) ?_; refine WD.loud (i := 6) zK rfl rfl rfl ?_; refine Op.buildSlice rfl ty_sl_113 ty_el2_113 rfl rfl rfl rfl (vs := [_]) rfl (segs := [(0, wcell (at_, bs.take 64))]) (cs := wcell (at_, bs.take 64)) (by simp only [List.map_cons, List.map_nil, wcell_len (e := (at_, bs.take 64)) hs64]) rfl (.seg (Nat.le_of_eq (by rw [wcell_len hs64]; rfl)) (by rw [wcell_len hs64]; exact (List.append_nil _).symm) .nil) (fun bs8 => ?_)
        refine WD.go (.inr (.cons zM (.cons zM .nil))) (fun _ _ h => h.elim) ?_; refine WD.loud (i := 7) zK rfl rfl rfl ?_; refine Op.append rfl ty_sl_113 ty_el_113 rfl rfl rfl rfl rfl g5 (SlRd.lit zM (wcell_len hs64) (by omega)) zT (wcell_one _) (by omega) (by omega) (fun v' Lo' hown => ?_)
        obtain ⟨A9, c9, rfl, _⟩ := hown.slice
        try simp only [nf]
        refine WD.go (.inr (.cons zM (.cons zM .nil))) (fun _ _ h => h.elim) ?_; refine WD.vl (i := 8) rfl (Yld.nilCheck rfl rfl) ?_; refine WD.vl (i := 9) rfl (Yld.fieldAddr rfl ty_fd_115_2 rfl) ?_; refine WD.loud (i := 10) zK rfl rfl rfl ?_; refine Op.s1 rfl rfl ty_sz_113 rfl rfl rfl ?_; refine WD.go (.inl rfl) (fun _ _ h => h.elim) ?_; refine WD.done zK ?_; refine WP.sub [(0, _), (1, _), (2, _), (6, _), (7, _)] ?_ ⟨rfl, rfl, rfl, rfl, rfl, trivial⟩
        refine WP.next ?_; refine WQ.start Tryzmixed 9 zK _ rfl [9] rfl ?_; refine WQ.val rfl rfl rfl (Yld.move rfl rfl) ?_; refine WQ.val rfl rfl rfl (Yld.nilCheck rfl rfl) ?_; refine WQ.val rfl rfl rfl (Yld.fieldAddr rfl ty_fd_115_1 rfl) ?_; refine WQ.val rfl rfl rfl (Yld.ld rfl ty_sc_25 rfl rfl) ?_; refine WQ.val rfl rfl rfl (Yld.move rfl rfl) ?_; refine WQ.val rfl rfl rfl (Yld.mul64 rfl rfl rfl (by omega)) ?_; refine WQ.val rfl rfl rfl (Yld.slice rfl ty_sl_25 rfl (Env.limS (n := at_ * 64) (congrArg (fun z => some (Value.int .i64 z)) (by omega))) Env.lim0 (by omega) (by omega)) ?_; refine WQ.val rfl rfl rfl (Yld.fieldAddr rfl ty_fd_249_1 rfl) ?_; refine WQ.val rfl rfl rfl (Yld.sliceA rfl ty_ar_244 rfl Env.lim0 Env.lim0 (Nat.zero_le _) (Nat.le_refl _)) ?_; refine WQ.nil ?_; refine WP.loud rfl rfl ?_; refine Op.copyB (k := 0 + at_ * 64 * 1) (m := n * 64 - at_ * 64) (m2 := 64 - 0) (q := 64) (old := y.now) (new := y.now.take (at_ * 64) ++ bs.take 64 ++ y.now.drop (at_ * 64 + 64)) (s := (bs.take 64).take 64) rfl ty_sl_25 rfl rfl rfl rfl (SlAt.sub (SlAt.blk (Nat.le_refl _)) (by omega) (by omega)) (wcell_rd (e := (at_, bs.take 64)) hs64 zM (Nat.le_refl _)) (Nat.min_eq_left (by omega)) (by omega) (by simp [List.take_take]) (by repeat (first | exact Upd.head | apply Upd.tail | apply Upd.tailS)) ?_; refine WP.nil ?_; refine WP.sub [(0, _), (1, _), (2, _), (6, _), (7, _)] ?_ ⟨rfl, rfl, rfl, rfl, rfl, trivial⟩
        refine WP.leave (WP.next ?_)
        refine WQ.startAll Tryzmixed zK _ rfl ?_; refine WQ.val rfl rfl rfl (Yld.move rfl rfl) ?_; refine WQ.val rfl rfl rfl (Yld.add64 rfl rfl rfl (by omega)) ?_; refine WQ.val rfl rfl rfl (Yld.move rfl rfl) ?_; refine WQ.val rfl rfl rfl (Yld.sliceR g2 rfl ty_sl_25 rfl (Env.limS (n := 64) rfl) Env.lim0 (by omega) (Nat.le_refl _)) ?_; iterate 2 refine WQ.val rfl rfl rfl (Yld.assign rfl rfl) ?_
        refine WQ.nil ?_; refine WP.sub [(0, _), (1, _), (2, _), (6, _), (7, _)] ?_ ⟨rfl, rfl, rfl, rfl, rfl, trivial⟩
        exact WP.ag ⟨y.write1 at_ (bs.take 64), at_ + 1, bs.drop 64, subSl 1 64 bs.length (.slice (some ⟨b, kk, none⟩) bs.length c), .slice A9 (y.waits.length + 1) c9, Lo'⟩ (WX.next hx hgt' hz hown) (by simp only [List.length_drop]; omega) ⟨rfl, rfl, rfl, rfl, trivial⟩ rfl
     ·obtain ⟨g1, g2, g3, g4, g5, g6, g7, g8⟩ := id hx
      simp only at g1 g2 g3 g4 g5 g6 g7 g8 hgt
      have hgt' : bs.length = 0 := by omega
      refine WP.nil ?_; refine WP.sub [(0, _), (1, _), (2, _), (6, _), (32, _)] ?_ ⟨rfl, rfl, rfl, rfl, rfl, trivial⟩
      refine WP.next ?_; refine WP.condF rfl ?_; refine WP.exit (WP.thenE (WP.thenE (WP.hit (WP.next (WP.seq ?_)))))
      refine WP.region [0] rfl ?_; refine WP.mv rfl rfl ?_; refine WP.nil (WP.next (WP.ret ?_))
      refine WP.fn .ret (.inr rfl) (res1 rfl rfl) ((d, row 115 _) :: (bp, row 5 _) :: (bn, row 5 _) :: Lw') (Imm.le_refl _) ?_; have hr : x.write n at_0 bs0 = (y, 0) := by rw [← g6, show bs.length / 64 = 0 by omega, Dk.puts]
      rw [hr]; exact ⟨rfl, rfl, .mk g1 g5⟩


def keepN (k : Int) : Nat := if 64 ≤ k then 64 else if k ≤ 0 then 0 else k.toNat
theorem keepN_le (k : Int) : keepN k ≤ 64 := by unfold keepN; split <;> (try split) <;> omega
def torn (p : List UInt8) (e : Nat × List UInt8) (k : Int) : List UInt8 := p.take (e.1 * 64) ++ e.2.take (keepN k) ++ p.drop (e.1 * 64 + keepN k)
def tear : List UInt8 → List (Nat × List UInt8) → List Int → List UInt8
 | p, [], _ => p
 | p, e :: es, ks => tear (torn p e (ks.headD 0)) es ks.tail
theorem torn_len {n : Nat} {p : List UInt8} {e : Nat × List UInt8} {k : Int} (hp : p.length = n * 64) (he : e.1 < n ∧ e.2.length = 64) : (torn p e k).length = n * 64 := by
 have := keepN_le k
 obtain ⟨h1, h2⟩ := he
 simp only [torn, List.length_append, List.length_take, List.length_drop, hp, h2]
 omega
def kept (m : Nat) (ks : List Int) : List Int := ks.take m ++ List.replicate (m - ks.length) 0
structure UX where
 i : Nat
 p : List UInt8
structure UX.ok (n : Nat) (x : Dk) (ks : List Int) (t : UX) : Prop where
 le : t.i ≤ x.waits.length
 lp : t.p.length = n * 64
 eq : tear t.p (x.waits.drop t.i) (ks.drop t.i) = tear x.plat x.waits ks
theorem UX.next {n : Nat} {x : Dk} {ks : List Int} {i : Nat} {p : List UInt8} (h : (⟨i, p⟩ : UX).ok n x ks) (hx : x.ok n) (hi : i < x.waits.length) : (⟨i + 1, torn p x.waits[i] ((ks.drop i).headD 0)⟩ : UX).ok n x ks := by
 obtain ⟨h1, h2, h3⟩ := h
 simp only at h1 h2 h3
 refine ⟨hi, torn_len h2 (hx.hw _ (List.getElem_mem hi)), ?_⟩
 rw [← h3, List.drop_eq_getElem_cons hi, tear, List.tail_drop]

def leP (m k i : Nat) : List UInt8 := leB m i ++ List.replicate (k - i) 0
theorem leP_len {m k i : Nat} (h : i ≤ k) : (leP m k i).length = k := by simp [leP, leB_len]; omega
theorem leP_set {m k i : Nat} (h : i < k) : SetAt (bytesV (leP m k i)) (0 + i * 1) (byteV (UInt8.ofNat (m / 2 ^ (8 * i)))) (bytesV (leP m k (i + 1))) := by
 have hs := set_byte (l := leP m k i) (k := i) (UInt8.ofNat (m / 2 ^ (8 * i))) (by rw [leP_len (by omega)]; exact h)
 have e : (leP m k i).set i (UInt8.ofNat (m / 2 ^ (8 * i))) = leP m k (i + 1) := by
  unfold leP
  rw [List.set_append_right _ _ (by rw [leB_len]; omega), leB_len, Nat.sub_self, show k - i = (k - (i + 1)) + 1 by omega, List.replicate_succ, List.set_cons_zero]
  simp [leB]
 rwa [e] at hs
theorem leP_full (m k : Nat) : leP m k k = leB m k := by simp [leP]
theorem super_put {I : Imm} {m k : Nat} (hk : 1 ≤ k ∧ k ≤ 8) (hm : m < 9223372036854775808) : Spec Tryz.prog 162 [.int .i64 (m : Int), .int .i64 (k : Int)] I [] (fun v J L => ∃ b, v = .slice (some ⟨b, 0, none⟩) k k ∧ I = J ∧ L = [(b, row 5 (bytesV (leB m k)))]) := by
 refine Spec.of Tryz.func162 rfl Tryz.ntmps162 (Nat.le_of_ble_eq_true rfl) (fun F => ?_)
 try simp only [nf]
 dsimp only [argsEnv]
 refine WP.seq ?_; refine WP.region [0] rfl ?_; refine WP.mv rfl rfl ?_; refine WP.nil (WP.next (WP.seq ?_))
 refine WP.region [0, 1, 2] rfl ?_; refine WP.mv rfl rfl ?_; refine WP.loud rfl rfl ?_; refine Op.make (l := k) (c := k) rfl ty_sl_25 ty_el_25 rfl rfl rfl rfl rfl (Nat.le_refl _) (by omega) (by omega) (fun bo => ?_)
 rw [bytes0', show List.replicate k (0 : UInt8) = leP m k 0 by simp [leP, leB]]
 refine WP.mv rfl rfl ?_; refine WP.nil ?_; refine WP.sub [(0, _), (1, _), (4, _), (5, _)] ?_ ⟨rfl, rfl, rfl, rfl, trivial⟩
 refine WP.next (WP.seq (WP.seq ?_))
 refine WP.region [0, 1, 2] rfl ?_; refine WP.mv rfl rfl ?_; refine WP.vl rfl (Yld.len rfl ty_sl_25 rfl) ?_; refine WP.mv rfl rfl ?_; refine WP.nil ?_; refine WP.sub [(0, _), (1, _), (4, _), (5, _), (10, _), (11, _)] ?_ ⟨rfl, rfl, rfl, rfl, rfl, rfl, trivial⟩
 refine WP.next (WP.block ?_)
 refine WP.loop (X := Nat) (fun i : Nat => [(0, .int .i64 (m : Int)), (5, .slice (some ⟨bo, 0, none⟩) k k), (10, .int .i64 (k : Int)), (11, .int .i64 (i : Int))]) (fun _ => I) (fun i : Nat => (bo, row 5 (bytesV (leP m k i))) :: F) (fun i => i ≤ k) (fun i => k - i) 0 (Nat.zero_le _) ⟨rfl, rfl, rfl, rfl, trivial⟩ rfl zP ?_; intro i hi0; have hi0 : i ≤ k := hi0
 try dsimp only
 try simp only [nf]
 refine WP.seq ?_; refine WP.region [0] rfl ?_; refine WP.split rfl rfl rfl rfl (Yld.lss rfl rfl rfl) (fun hlt => ?_) (fun hlt => ?_)
 ·have hi : i < k := by omega
  refine WP.nil (WP.next (WP.seq ?_))
  refine WP.condT rfl ?_; refine WP.skip (WP.next (WP.seq (WP.block (WP.seq ?_))))
  refine WP.region [0, 1] rfl ?_; iterate 2 refine WP.mv rfl rfl ?_
  refine WP.nil ?_; refine WP.sub [(0, _), (5, _), (6, _), (10, _), (11, _), (12, _)] ?_ ⟨rfl, rfl, rfl, rfl, rfl, rfl, trivial⟩
  refine WP.next ?_; refine WP.region [0, 1, 2, 3, 4, 5, 6, 7, 8] rfl ?_; iterate 4 refine WP.mv rfl rfl ?_
  refine WP.vl rfl (Yld.mul64 rfl rfl rfl (by omega)) ?_; rw [show (8 : Int) * (i : Int) = ((8 * i : Nat) : Int) by omega]
  refine WP.vl rfl (Yld.shr64 m (8 * i) rfl rfl rfl (by omega)) ?_; refine WP.vl rfl (Yld.convN8 (m / 2 ^ (8 * i)) rfl ty_un_3 ty_ik_5 rfl) ?_; refine WP.vl rfl (Yld.indexAddr (i := i) rfl ty_sl_25 rfl rfl hi) ?_; refine WP.loud rfl rfl ?_; refine Op.store1 rfl rfl ty_sz_5 rfl rfl rfl (by repeat (first | exact Upd.head | apply Upd.tail | apply Upd.tailS)) (leP_set hi) ?_; refine WP.nil ?_; refine WP.sub [(0, _), (5, _), (6, _), (10, _), (11, _), (12, _)] ?_ ⟨rfl, rfl, rfl, rfl, rfl, rfl, trivial⟩
  refine WP.leave (WP.next ?_)
  refine WP.region [0, 1] rfl ?_; refine WP.vl rfl (Yld.add64 rfl rfl rfl (by omega)) ?_; refine WP.mv rfl rfl ?_; refine WP.nil ?_; refine WP.sub [(0, _), (5, _), (6, _), (10, _), (11, _), (12, _)] ?_ ⟨rfl, rfl, rfl, rfl, rfl, rfl, trivial⟩
  exact WP.ag (i + 1) hi (show k - (i + 1) < k - i by omega) ⟨rfl, rfl, rfl, rfl, trivial⟩ rfl
 ·obtain rfl : i = k := by omega
  rw [leP_full]
  refine WP.nil (WP.next (WP.seq ?_))
  refine WP.condF rfl ?_; refine WP.exit (WP.thenE (WP.thenE (WP.hit (WP.next (WP.seq ?_)))))
  refine WP.region [0, 1] rfl ?_; iterate 2 refine WP.mv rfl rfl ?_
  refine WP.nil ?_; refine WP.sub [(0, _), (4, _), (5, _), (10, _), (11, _), (12, _)] ?_ ⟨rfl, rfl, rfl, rfl, rfl, rfl, trivial⟩
  refine WP.next (WP.ret ?_)
  refine WP.fn .ret (.inr rfl) (res1 rfl rfl) [_] (Imm.le_refl _) ?_; exact ⟨bo, rfl, rfl, rfl⟩

theorem super_in {I : Imm} {a lo hi : Int} : Spec Tryz.prog 130 [.int .i64 a, .int .i64 lo, .int .i64 hi] I [] (fun v J L => v = .bool (decide (lo ≤ a ∧ a ≤ hi)) ∧ I = J ∧ L = []) := by
 refine Spec.of Tryz.func130 rfl Tryz.ntmps130 (Nat.le_of_ble_eq_true rfl) (fun F => ?_)
 try simp only [nf]
 dsimp only [argsEnv]
 refine WP.seq ?_; refine WP.region [0] rfl ?_; refine WP.mv rfl rfl ?_; refine WP.nil (WP.next (WP.seq ?_))
 refine WP.region [0, 1, 2, 3, 4, 5, 6, 7, 8] rfl ?_; iterate 2 refine WP.mv rfl rfl ?_
 refine WP.split rfl rfl rfl rfl (Yld.geq rfl rfl rfl) (fun h1 => ?_) (fun h1 => ?_)
 ·refine WP.mv rfl rfl ?_
  iterate 2 refine WP.valG rfl rfl rfl rfl rfl rfl rfl (Yld.move rfl rfl) ?_
  refine WP.splitG rfl rfl rfl rfl rfl rfl rfl (Yld.leq rfl rfl rfl) (fun h2 => ?_) (fun h2 => ?_)
  ·refine WP.vl rfl (Yld.pickT rfl rfl rfl) ?_
   refine WP.mv rfl rfl ?_; refine WP.nil ?_; refine WP.sub [(0, _), (1, _), (2, _), (6, _)] ?_ ⟨rfl, rfl, rfl, rfl, trivial⟩
   refine WP.next (WP.ret ?_)
   refine WP.fn .ret (.inr rfl) (res1 rfl rfl) [] (Imm.le_refl _) ?_; exact ⟨congrArg Value.bool (by simp; omega), rfl, rfl⟩
  ·refine WP.vl rfl (Yld.pickT rfl rfl rfl) ?_
   refine WP.mv rfl rfl ?_; refine WP.nil ?_; refine WP.sub [(0, _), (1, _), (2, _), (6, _)] ?_ ⟨rfl, rfl, rfl, rfl, trivial⟩
   refine WP.next (WP.ret ?_)
   refine WP.fn .ret (.inr rfl) (res1 rfl rfl) [] (Imm.le_refl _) ?_; exact ⟨congrArg Value.bool (by simp; omega), rfl, rfl⟩
 ·refine WP.mv rfl rfl ?_
  iterate 3 refine WP.passG rfl rfl rfl rfl rfl rfl rfl rfl ?_
  refine WP.vl rfl (Yld.pickF rfl rfl rfl) ?_; refine WP.mv rfl rfl ?_; refine WP.nil ?_; refine WP.sub [(0, _), (1, _), (2, _), (6, _)] ?_ ⟨rfl, rfl, rfl, rfl, trivial⟩
  refine WP.next (WP.ret ?_)
  refine WP.fn .ret (.inr rfl) (res1 rfl rfl) [] (Imm.le_refl _) ?_; exact ⟨congrArg Value.bool (by simp; omega), rfl, rfl⟩


theorem super_putI {I : Imm} {a : Int} {k : Nat} (hk : 1 ≤ k ∧ k ≤ 8) (hm : 0 ≤ a ∧ a < 9223372036854775808) : Spec Tryz.prog 162 [.int .i64 a, .int .i64 (k : Int)] I [] (fun v J L => ∃ b, v = .slice (some ⟨b, 0, none⟩) k k ∧ I = J ∧ L = [(b, row 5 (bytesV (leB a.toNat k)))]) := by
 have h := super_put (I := I) (m := a.toNat) hk (by omega)
 rwa [Int.toNat_of_nonneg hm.1] at h

theorem leN_mod (m : Nat) : ∀ k, leN (leB m k) = m % 2 ^ (8 * k)
 | 0 => by simp [leB, leN, Nat.mod_one]
 | k + 1 => by
  rw [leB, leN_app, leN_mod m k, leB_len, UInt8.toNat_ofNat', show 8 * (k + 1) = 8 * k + 8 by omega, Nat.pow_add, Nat.mod_mul]
  congr 1
  exact Nat.mul_comm _ _
theorem leN_leB {m k : Nat} (h : m < 2 ^ (8 * k)) : leN (leB m k) = m := by rw [leN_mod, Nat.mod_eq_of_lt h]


def cut (bs : List UInt8) (l h : Nat) : List UInt8 := (bs.drop l).take (h - l)


theorem cut_mid {a b c : List UInt8} {l h : Nat} (ha : a.length = l) (hb : l + b.length = h) : cut (a ++ (b ++ c)) l h = b := by
 unfold cut
 rw [List.drop_append_of_le_length (by omega), List.drop_of_length_le (by omega), List.nil_append, List.take_append_of_le_length (by omega), List.take_of_length_le (by omega)]


theorem cut_len {bs : List UInt8} {l h : Nat} (hh : h ≤ bs.length) : (cut bs l h).length = h - l := by simp [cut]; omega


/-- A part. -/
structure Pt where
 place : Int
 no : Int
 index : Int
 era : Int
 parts : Int
 data : List UInt8
def ptV (p : Pt) (v : Value) : List Value := [.int .i64 p.place, .int .i64 p.no, .int .i64 p.index, .int .i64 p.era, .int .i64 p.parts, v]
def ptZ : Pt := ⟨0, 0, 0, 0, 0, []⟩
structure Pt.may (p : Pt) : Prop where
 place : 0 ≤ p.place ∧ p.place ≤ 1099511627776
 no : 1 ≤ p.no ∧ p.no ≤ 1099511627776
 era : 1 ≤ p.era ∧ p.era ≤ 4294967295
 parts : 1 ≤ p.parts ∧ p.parts ≤ 64
 index : 0 ≤ p.index ∧ p.index ≤ p.parts - 1
 data : p.data.length = 198 ∨ (p.index = p.parts - 1 ∧ 1 ≤ p.data.length ∧ p.data.length ≤ 198)
instance (p : Pt) : Decidable p.may := decidable_of_iff ((0 ≤ p.place ∧ p.place ≤ 1099511627776) ∧ (1 ≤ p.no ∧ p.no ≤ 1099511627776) ∧ (1 ≤ p.era ∧ p.era ≤ 4294967295) ∧ (1 ≤ p.parts ∧ p.parts ≤ 64) ∧ (0 ≤ p.index ∧ p.index ≤ p.parts - 1) ∧ (p.data.length = 198 ∨ (p.index = p.parts - 1 ∧ 1 ≤ p.data.length ∧ p.data.length ≤ 198))) ⟨fun h => ⟨h.1, h.2.1, h.2.2.1, h.2.2.2.1, h.2.2.2.2.1, h.2.2.2.2.2⟩, fun h => ⟨h.place, h.no, h.era, h.parts, h.index, h.data⟩⟩
theorem Pt.may.len {p : Pt} (h : p.may) : 1 ≤ p.data.length ∧ p.data.length ≤ 198 := by rcases h.data with h | h <;> omega
def phead (p : Pt) : List UInt8 := [80, 66] ++ (leB p.parts.toNat 1 ++ (leB p.index.toNat 1 ++ (leB p.data.length 2 ++ (leB p.no.toNat 6 ++ (leB p.place.toNat 6 ++ leB p.era.toNat 4)))))
theorem phead_len (p : Pt) : (phead p).length = 22 := by simp [phead, leB_len]
/-- What is summed. -/
def pin (p : Pt) : List UInt8 := phead p ++ (p.data ++ List.replicate (198 - p.data.length) 0)
theorem pin_len {p : Pt} (h : p.data.length ≤ 198) : (pin p).length = 220 := by simp [pin, phead_len]; omega
def pfull (p : Pt) : List UInt8 := pin p ++ leB (crcOf (pin p)).toNat 4
theorem pfull_len {p : Pt} (h : p.data.length ≤ 198) : (pfull p).length = 224 := by simp [pfull, pin_len h, leB_len]
def ptag (p : Pt) : List UInt8 := leB p.place.toNat 4 ++ leB p.era.toNat 4
theorem ptag_len (p : Pt) : (ptag p).length = 8 := by simp [ptag, leB_len]
def psecs (f t : List UInt8) : Nat → List UInt8
 | 0 => []
 | i + 1 => psecs f t i ++ (cut f (i * 56) ((i + 1) * 56) ++ t)
/-- A block's bytes. -/
def penc (p : Pt) : List UInt8 := psecs (pfull p) (ptag p) 4
theorem cutf_len {f : List UInt8} (hf : f.length = 224) {i : Nat} (hi : i < 4) : (cut f (i * 56) ((i + 1) * 56)).length = 56 := by rw [cut_len (by omega)]; omega
theorem psecs_len {f t : List UInt8} (hf : f.length = 224) (ht : t.length = 8) : ∀ i, i ≤ 4 → (psecs f t i).length = i * 64
 | 0, _ => by simp [psecs]
 | i + 1, h => by rw [psecs, List.length_append, List.length_append, psecs_len hf ht i (by omega), cutf_len hf (by omega), ht]; omega
theorem penc_len {p : Pt} (h : p.data.length ≤ 198) : (penc p).length = 256 := psecs_len (pfull_len h) (ptag_len p) 4 (by omega)
def strip (b : List UInt8) : Nat → List UInt8
 | 0 => []
 | i + 1 => strip b i ++ (cut b (i * 64) ((i + 1) * 64)).take 56
theorem penc_four (f t : List UInt8) : psecs f t 4 = (cut f 0 56 ++ t) ++ ((cut f 56 112 ++ t) ++ ((cut f 112 168 ++ t) ++ (cut f 168 224 ++ t))) := by simp [psecs]
theorem penc_sec {f t : List UInt8} (hf : f.length = 224) (ht : t.length = 8) {i : Nat} (hi : i < 4) : cut (psecs f t 4) (i * 64) ((i + 1) * 64) = cut f (i * 56) ((i + 1) * 56) ++ t := by
 have c : ∀ i, i < 4 → (cut f (i * 56) ((i + 1) * 56) ++ t).length = 64 := fun i hi => by rw [List.length_append, cutf_len hf hi, ht]
 have c0 : (cut f 0 56 ++ t).length = 64 := c 0 (by omega)
 have c1 : (cut f 56 112 ++ t).length = 64 := c 1 (by omega)
 have c2 : (cut f 112 168 ++ t).length = 64 := c 2 (by omega)
 have c3 : (cut f 168 224 ++ t).length = 64 := c 3 (by omega)
 rw [penc_four]
 match i, hi with
 | 0, _ => exact cut_mid (a := []) rfl (by rw [c0])
 | 1, _ => exact cut_mid c0 (by rw [c1])
 | 2, _ => rw [← List.append_assoc]; exact cut_mid (by rw [List.length_append, c0, c1]) (by rw [c2])
 | 3, _ =>
  have e : (cut f 0 56 ++ t) ++ ((cut f 56 112 ++ t) ++ ((cut f 112 168 ++ t) ++ (cut f 168 224 ++ t))) = ((cut f 0 56 ++ t) ++ ((cut f 56 112 ++ t) ++ (cut f 112 168 ++ t))) ++ ((cut f 168 224 ++ t) ++ []) := by simp
  rw [e]; exact cut_mid (by simp only [List.length_append] at c0 c1 c2 ⊢; omega) (by rw [c3])
theorem take_cut (f : List UInt8) (i : Nat) : f.take (i * 56) ++ cut f (i * 56) ((i + 1) * 56) = f.take ((i + 1) * 56) := by
 unfold cut
 rw [show (i + 1) * 56 - i * 56 = 56 by omega, show (i + 1) * 56 = i * 56 + 56 by omega, List.take_add]
theorem strip_penc {f t : List UInt8} (hf : f.length = 224) (ht : t.length = 8) : ∀ i, i ≤ 4 → strip (psecs f t 4) i = f.take (i * 56)
 | 0, _ => by simp [strip]
 | i + 1, h => by rw [strip, strip_penc hf ht i (by omega), penc_sec hf ht (by omega), List.take_append_of_le_length (by rw [cutf_len hf (by omega)]; exact Nat.le_refl _), List.take_of_length_le (l := cut f _ _) (by rw [cutf_len hf (by omega)]; exact Nat.le_refl _), take_cut]
theorem strip_full {p : Pt} (h : p.data.length ≤ 198) : strip (penc p) 4 = pfull p := by
 unfold penc
 rw [strip_penc (pfull_len h) (ptag_len p) 4 (by omega), List.take_of_length_le (by rw [pfull_len h]; decide)]
def pmany (c : List UInt8) : Nat := leN (cut c 4 6)
def byteN (c : List UInt8) (i : Nat) : Nat := (c.getD i 0).toNat
def decP (c : List UInt8) : Pt := ⟨leN (cut c 12 18), leN (cut c 6 12), byteN c 3, leN (cut c 18 22), byteN c 2, cut c 22 (22 + pmany c)⟩
/-- What a block's bytes say. -/
def pdec (b : List UInt8) : Option Pt := if b.length = 256 ∧ pmany (strip b 4) ≤ 198 ∧ (decP (strip b 4)).may ∧ penc (decP (strip b 4)) = b then some (decP (strip b 4)) else none
theorem pdec_some {b : List UInt8} (h : b.length = 256 ∧ pmany (strip b 4) ≤ 198 ∧ (decP (strip b 4)).may ∧ penc (decP (strip b 4)) = b) : pdec b = some (decP (strip b 4)) := if_pos h
theorem leB1 {m : Nat} (h : m < 256) : leB m 1 = [UInt8.ofNat m] := by simp [leB]
theorem full_dec {p : Pt} (h : p.may) : pmany (pfull p) = p.data.length ∧ decP (pfull p) = p := by
 obtain ⟨h1, h2, h3, h4, h5, h6⟩ := id h
 have hl := h.len
 have k1 : (leB p.parts.toNat 1).length = 1 := leB_len _ _
 have k2 : (leB p.index.toNat 1).length = 1 := leB_len _ _
 have k3 : (leB p.data.length 2).length = 2 := leB_len _ _
 have k4 : (leB p.no.toNat 6).length = 6 := leB_len _ _
 have k5 : (leB p.place.toNat 6).length = 6 := leB_len _ _
 have k6 : (leB p.era.toNat 4).length = 4 := leB_len _ _
 generalize hr : p.data ++ List.replicate (198 - p.data.length) 0 ++ leB (crcOf (pin p)).toNat 4 = r
 have e : pfull p = [80, 66] ++ (leB p.parts.toNat 1 ++ (leB p.index.toNat 1 ++ (leB p.data.length 2 ++ (leB p.no.toNat 6 ++ (leB p.place.toNat 6 ++ (leB p.era.toNat 4 ++ r)))))) := by rw [← hr]; simp [pfull, pin, phead]
 have c1 : cut (pfull p) 4 6 = leB p.data.length 2 := by
  rw [e, ← List.append_assoc, ← List.append_assoc]; exact cut_mid (by simp [k1, k2]) (by rw [k3])
 have c2 : cut (pfull p) 6 12 = leB p.no.toNat 6 := by
  rw [e, ← List.append_assoc, ← List.append_assoc, ← List.append_assoc]; exact cut_mid (by simp [k1, k2, k3]) (by rw [k4])
 have c3 : cut (pfull p) 12 18 = leB p.place.toNat 6 := by
  rw [e, ← List.append_assoc, ← List.append_assoc, ← List.append_assoc, ← List.append_assoc]; exact cut_mid (by simp [k1, k2, k3, k4]) (by rw [k5])
 have c4 : cut (pfull p) 18 22 = leB p.era.toNat 4 := by
  rw [e, ← List.append_assoc, ← List.append_assoc, ← List.append_assoc, ← List.append_assoc, ← List.append_assoc]; exact cut_mid (by simp [k1, k2, k3, k4, k5]) (by rw [k6])
 have hm : pmany (pfull p) = p.data.length := by unfold pmany; rw [c1, leN_leB (by omega)]
 have c5 : cut (pfull p) 22 (22 + p.data.length) = p.data := by
  have e2 : pfull p = phead p ++ (p.data ++ (List.replicate (198 - p.data.length) 0 ++ leB (crcOf (pin p)).toNat 4)) := by simp [pfull, pin]
  rw [e2]; exact cut_mid (phead_len p) rfl
 have c6 : byteN (pfull p) 2 = p.parts.toNat := by
  rw [leB1 (m := p.parts.toNat) (by omega)] at e
  unfold byteN
  rw [e]
  show (UInt8.ofNat p.parts.toNat).toNat = _
  rw [UInt8.toNat_ofNat']; omega
 have c7 : byteN (pfull p) 3 = p.index.toNat := by
  rw [leB1 (m := p.parts.toNat) (by omega), leB1 (m := p.index.toNat) (by omega)] at e
  unfold byteN
  rw [e]
  show (UInt8.ofNat p.index.toNat).toNat = _
  rw [UInt8.toNat_ofNat']; omega
 refine ⟨hm, ?_⟩
 unfold decP
 rw [hm, c2, c3, c4, c5, c6, c7, leN_leB (by omega), leN_leB (by omega), leN_leB (by omega)]
 cases p
 simp only [Pt.mk.injEq] at *
 refine ⟨?_, ?_, ?_, ?_, ?_, trivial⟩ <;> omega
/-- What was written is read. -/
theorem pdec_enc {p : Pt} (h : p.may) : pdec (penc p) = some p := by
 obtain ⟨h1, h2⟩ := full_dec h
 have e := strip_full h.len.2
 rw [pdec_some (by rw [e, h1, h2]; exact ⟨penc_len h.len.2, h.len.2, h, rfl⟩), e, h2]

end Go.Hp
