import Derived.Test.YtcnfcdlapbjgeaaHpBits
import Derived.Test.YtcnfcdlapbjgeaaTy
set_option linter.unusedVariables false
set_option linter.unusedSimpArgs false
namespace Go.Hp
open Go Go.Proofs

/-- One bit of a sum, one half of a byte, a byte. -/
def bit (x : BitVec 32) : BitVec 32 := if x &&& 1#32 = 1#32 then (x >>> 1) ^^^ 2197175160#32 else x >>> 1
def bits : Nat → BitVec 32 → BitVec 32
 | 0, x => x
 | k + 1, x => bits k (bit x)
def tab (i : Nat) : BitVec 32 := bits 4 (BitVec.ofNat 32 i)
def tabs : List (BitVec 32) := (List.range 16).map tab
def nib (x : BitVec 32) : BitVec 32 := tab (x &&& 15#32).toNat ^^^ (x >>> 4)
def byteStep (x : BitVec 32) (c : UInt8) : BitVec 32 := nib (nib (x ^^^ c.toBitVec.setWidth 32))
def crcAdd (s : BitVec 32) (b : List UInt8) : BitVec 32 := ~~~(b.foldl byteStep (~~~s))
def crcOf (b : List UInt8) : BitVec 32 := crcAdd 0#32 b
def u32s (l : List (BitVec 32)) : List Value := l.map fun x => .int .u32 (x.toNat : Int)
theorem bits_succ (k : Nat) (x : BitVec 32) : bits (k + 1) x = bit (bits k x) := by
 induction k generalizing x with
 | zero => rfl
 | succ k ih => rw [bits, ih]; rfl
theorem u32_inj {x y : BitVec 32} (h : (x.toNat : Int) = (y.toNat : Int)) : x = y := BitVec.eq_of_toNat_eq (by omega)
theorem tabs_at {i : Nat} (h : i < 16) : (u32s tabs)[0 + i * 1]? = some (.int .u32 ((tab i).toNat : Int)) := by
 simp [u32s, tabs, h]
theorem and15 (x : BitVec 32) : (x &&& 15#32).toNat < 16 := by
 rw [BitVec.toNat_and]
 exact Nat.lt_of_le_of_lt Nat.and_le_right (by decide)
theorem u32s_len (l : List (BitVec 32)) : (u32s l).length = l.length := List.length_map _
theorem u32s_one (l : List (BitVec 32)) : (u32s l).all (·.oneCell') = true := by simp [u32s, List.all_eq_true, Value.oneCell']
theorem u32_0 (n : Nat) : List.replicate n (Value.int .u32 0) = u32s (List.replicate n 0#32) := by simp [u32s]
/-- The table up to i. -/
def part (i : Nat) : List (BitVec 32) := (List.range i).map tab ++ List.replicate (16 - i) 0#32
theorem part_len {i : Nat} (h : i ≤ 16) : (part i).length = 16 := by simp [part]; omega
theorem part_set {i : Nat} (h : i < 16) : SetAt (u32s (part i)) (0 + i * 1) (.int .u32 ((tab i).toNat : Int)) (u32s (part (i + 1))) := by
 have hs := SetAt.sym (l := u32s (part i)) (k := 0 + i * 1) (v := .int .u32 ((tab i).toNat : Int)) (by rw [u32s_len, part_len (by omega)]; omega)
 have e : (u32s (part i)).set (0 + i * 1) (.int .u32 ((tab i).toNat : Int)) = u32s (part (i + 1)) := by
  rw [Nat.zero_add, Nat.mul_one, u32s, ← List.map_set, u32s]
  congr 1
  unfold part
  rw [List.range_succ, List.map_append, List.set_append_right _ _ (by simp)]
  rw [show 16 - i = (16 - (i + 1)) + 1 by omega, List.replicate_succ]
  simp
 rwa [e] at hs
theorem part_16 : part 16 = tabs := rfl
theorem part_0 : u32s (part 0) = [.int .u32 0, .int .u32 0, .int .u32 0, .int .u32 0, .int .u32 0, .int .u32 0, .int .u32 0, .int .u32 0, .int .u32 0, .int .u32 0, .int .u32 0, .int .u32 0, .int .u32 0, .int .u32 0, .int .u32 0, .int .u32 0] := rfl
theorem crc_nibbles (I : Imm) : Spec Try.prog 73 [] I [] (fun v J L => v = .agg (u32s tabs).toArray ∧ I = J ∧ L = []) := by
 refine Spec.of Try.func73 rfl Try.ntmps73 (Nat.le_of_ble_eq_true rfl) (fun F => ?_)
 try simp only [nf]
 dsimp only [argsEnv]
 refine WP.seq ?_
 refine WP.region [0] rfl ?_
 refine WP.loud rfl rfl ?_
 refine Op.alloc rfl rfl rfl ty_zr_142 (fun b0 => ?_)
 refine WP.nil ?_
 refine WP.next ?_
 refine WP.seq ?_
 refine WP.region [0] rfl ?_
 refine WP.loud rfl rfl ?_
 refine Op.alloc rfl rfl rfl ty_zr_142 (fun bt => ?_)
 refine WP.nil ?_
 refine WP.next ?_
 refine WP.seq ?_
 refine WP.seq ?_
 refine WP.region [0] rfl ?_
 refine WP.mv rfl rfl ?_
 refine WP.nil ?_
 refine WP.next ?_
 refine WP.block ?_
 rw [← part_0]
 refine WP.loop (X := Nat) (fun i : Nat => [(0, .pointer (some ⟨b0, 0, none⟩)), (1, .pointer (some ⟨bt, 0, none⟩)), (5, .int .i64 (i : Int))]) (fun _ => I) (fun i => (bt, row 142 (u32s (part i))) :: (b0, row 142 (u32s (part 0))) :: F) (fun i => i ≤ 16) (fun i => 16 - i) 0 (Nat.zero_le _) ⟨rfl, rfl, rfl, trivial⟩ rfl (by (try dsimp only); repeat (first | exact Rm.chunk | exact Rm.here | exact Rm.nil0 | apply Rm.skip | apply Rm.skipS | apply PX.cons | (apply PX.done; (repeat (first | exact Leave.done | apply Leave.drop | apply Leave.dropS)); done) | apply PX.app)) ?_
 intro i hi
 try dsimp only
 try simp only [nf]
 refine WP.seq ?_
 refine WP.region [0] rfl ?_
 refine WP.split rfl rfl rfl rfl (Yld.lss rfl rfl rfl) (fun h16 => ?_) (fun h16 => ?_)
 ·refine WP.nil ?_
  refine WP.next ?_
  refine WP.seq ?_
  refine WP.condT rfl ?_
  refine WP.skip ?_
  refine WP.next ?_
  refine WP.seq ?_
  refine WP.block ?_
  refine WP.seq ?_
  refine WP.region [0, 1] rfl ?_
  iterate 2 refine WP.mv rfl rfl ?_
  refine WP.nil ?_
  refine WP.sub [(0, _), (1, _), (2, _), (5, _), (6, _)] ?_ ⟨rfl, rfl, rfl, rfl, rfl, trivial⟩
  refine WP.next ?_
  refine WP.seq ?_
  refine WP.region [0, 1, 2] rfl ?_
  refine WP.mv rfl rfl ?_
  refine WP.vl rfl (Yld.conv64_32 i rfl ty_un_3 ty_ik_138 rfl) ?_
  refine WP.mv rfl rfl ?_
  refine WP.nil ?_
  refine WP.sub [(0, _), (1, _), (2, _), (3, _), (5, _), (6, _)] ?_ ⟨rfl, rfl, rfl, rfl, rfl, rfl, trivial⟩
  refine WP.next ?_
  refine WP.seq ?_
  refine WP.seq ?_
  refine WP.region [0] rfl ?_
  refine WP.mv rfl rfl ?_
  refine WP.nil ?_
  refine WP.next ?_
  refine WP.block ?_
  refine WP.loop (X := Nat) (fun k : Nat => [(0, .pointer (some ⟨b0, 0, none⟩)), (1, .pointer (some ⟨bt, 0, none⟩)), (2, .int .i64 (i : Int)), (3, .int .u32 ((bits k (BitVec.ofNat 32 i)).toNat : Int)), (5, .int .i64 (i : Int)), (10, .int .i64 (k : Int))]) (fun _ => I) (fun _ => (bt, row 142 (u32s (part i))) :: (b0, row 142 (u32s (part 0))) :: F) (fun k => k ≤ 4) (fun k => 4 - k) 0 (Nat.zero_le _) ⟨rfl, rfl, rfl, rfl, rfl, rfl, trivial⟩ rfl (by (try dsimp only); repeat (first | exact Rm.chunk | exact Rm.here | exact Rm.nil0 | apply Rm.skip | apply Rm.skipS | apply PX.cons | (apply PX.done; (repeat (first | exact Leave.done | apply Leave.drop | apply Leave.dropS)); done) | apply PX.app)) ?_
  intro k hk
  try dsimp only
  try simp only [nf]
  refine WP.seq ?_
  refine WP.region [0] rfl ?_
  refine WP.split rfl rfl rfl rfl (Yld.lss rfl rfl rfl) (fun h4 => ?_) (fun h4 => ?_)
  ·refine WP.nil ?_
   refine WP.next ?_
   refine WP.seq ?_
   refine WP.condT rfl ?_
   refine WP.skip ?_
   refine WP.next ?_
   refine WP.seq ?_
   refine WP.block ?_
   refine WP.seq ?_
   refine WP.region [0, 1, 2] rfl ?_
   refine WP.mv rfl rfl ?_
   refine WP.vl rfl (Yld.and32 (bits k (BitVec.ofNat 32 i)) 1#32 rfl rfl rfl) ?_
   refine WP.mv rfl rfl ?_
   refine WP.nil ?_
   refine WP.sub [(0, _), (1, _), (2, _), (3, _), (4, _), (5, _), (10, _), (11, _)] ?_ ⟨rfl, rfl, rfl, rfl, rfl, rfl, rfl, rfl, trivial⟩
   refine WP.next ?_
   refine WP.seq ?_
   refine WP.region [0, 1, 2] rfl ?_
   refine WP.mv rfl rfl ?_
   refine WP.vl rfl (Yld.shr32 (bits k (BitVec.ofNat 32 i)) 1 rfl rfl rfl (by decide)) ?_
   refine WP.mv rfl rfl ?_
   refine WP.nil ?_
   refine WP.sub [(0, _), (1, _), (2, _), (3, _), (4, _), (5, _), (10, _), (11, _)] ?_ ⟨rfl, rfl, rfl, rfl, rfl, rfl, rfl, rfl, trivial⟩
   refine WP.next ?_
   refine WP.seq ?_
   refine WP.region [0, 1] rfl ?_
   refine WP.mv rfl rfl ?_
   refine WP.split rfl rfl rfl rfl (Yld.eql rfl rfl rfl) (fun hb => ?_) (fun hb => ?_)
   ·refine WP.nil ?_
    refine WP.sub [(0, _), (1, _), (2, _), (3, _), (4, _), (5, _), (10, _), (11, _), (17, _)] ?_ ⟨rfl, rfl, rfl, rfl, rfl, rfl, rfl, rfl, rfl, trivial⟩
    refine WP.next ?_
    refine WP.condT rfl ?_
    refine WP.region [0, 1, 2] rfl ?_
    refine WP.mv rfl rfl ?_
    refine WP.vl rfl (Yld.xor32 (bits k (BitVec.ofNat 32 i) >>> 1) 2197175160#32 rfl rfl rfl) ?_
    refine WP.mv rfl rfl ?_
    refine WP.nil ?_
    refine WP.sub [(0, _), (1, _), (2, _), (3, _), (4, _), (5, _), (10, _), (11, _), (17, _)] ?_ ⟨rfl, rfl, rfl, rfl, rfl, rfl, rfl, rfl, rfl, trivial⟩
    refine WP.leave ?_
    refine WP.next ?_
    refine WP.region [0, 1] rfl ?_
    refine WP.vl rfl (Yld.add64 rfl rfl rfl (by omega)) ?_
    refine WP.mv rfl rfl ?_
    refine WP.nil ?_
    refine WP.sub [(0, _), (1, _), (2, _), (3, _), (4, _), (5, _), (10, _), (11, _), (17, _)] ?_ ⟨rfl, rfl, rfl, rfl, rfl, rfl, rfl, rfl, rfl, trivial⟩
    exact WP.ag (k + 1) (by omega) (by omega) ⟨rfl, rfl, rfl, (congrArg (fun z : BitVec 32 => some (Value.int .u32 (z.toNat : Int))) (by rw [bits_succ]; simp only [bit]; rw [if_pos (u32_inj hb)])), rfl, rfl, trivial⟩ rfl
   ·refine WP.nil ?_
    refine WP.sub [(0, _), (1, _), (2, _), (3, _), (4, _), (5, _), (10, _), (11, _), (17, _)] ?_ ⟨rfl, rfl, rfl, rfl, rfl, rfl, rfl, rfl, rfl, trivial⟩
    refine WP.next ?_
    refine WP.condF rfl ?_
    refine WP.skip ?_
    refine WP.leave ?_
    refine WP.next ?_
    refine WP.region [0, 1] rfl ?_
    refine WP.vl rfl (Yld.add64 rfl rfl rfl (by omega)) ?_
    refine WP.mv rfl rfl ?_
    refine WP.nil ?_
    refine WP.sub [(0, _), (1, _), (2, _), (3, _), (4, _), (5, _), (10, _), (11, _), (17, _)] ?_ ⟨rfl, rfl, rfl, rfl, rfl, rfl, rfl, rfl, rfl, trivial⟩
    exact WP.ag (k + 1) (by omega) (by omega) ⟨rfl, rfl, rfl, (congrArg (fun z : BitVec 32 => some (Value.int .u32 (z.toNat : Int))) (by rw [bits_succ]; simp only [bit]; rw [if_neg (fun h => hb (by rw [h]; rfl))])), rfl, rfl, trivial⟩ rfl
  ·obtain rfl : k = 4 := by omega
   refine WP.nil ?_
   refine WP.next ?_
   refine WP.seq ?_
   refine WP.condF rfl ?_
   refine WP.exit ?_
   refine WP.thenE ?_
   refine WP.thenE ?_
   refine WP.hit ?_
   refine WP.next ?_
   refine WP.region [0, 1, 2, 3] rfl ?_
   iterate 2 refine WP.mv rfl rfl ?_
   refine WP.vl rfl (Yld.indexAddrA rfl ty_ar_142 rfl rfl (by omega)) ?_
   refine WP.loud rfl rfl ?_
   refine Op.store1 rfl rfl ty_sz_138 rfl rfl rfl (by repeat (first | exact Upd.head | apply Upd.tail | apply Upd.tailS)) (part_set (by omega)) ?_
   refine WP.nil ?_
   refine WP.sub [(0, _), (1, _), (2, _), (3, _), (5, _), (10, _), (11, _)] ?_ ⟨rfl, rfl, rfl, rfl, rfl, rfl, rfl, trivial⟩
   refine WP.leave ?_
   refine WP.next ?_
   refine WP.region [0, 1] rfl ?_
   refine WP.vl rfl (Yld.add64 rfl rfl rfl (by omega)) ?_
   refine WP.mv rfl rfl ?_
   refine WP.nil ?_
   refine WP.sub [(0, _), (1, _), (2, _), (3, _), (5, _), (10, _), (11, _)] ?_ ⟨rfl, rfl, rfl, rfl, rfl, rfl, rfl, trivial⟩
   exact WP.ag (i + 1) (by omega) (by omega) ⟨rfl, rfl, rfl, trivial⟩ rfl
 ·obtain rfl : i = 16 := by omega
  refine WP.nil ?_
  refine WP.next ?_
  refine WP.seq ?_
  refine WP.condF rfl ?_
  refine WP.exit ?_
  refine WP.thenE ?_
  refine WP.thenE ?_
  refine WP.hit ?_
  refine WP.next ?_
  refine WP.seq ?_
  refine WP.region [0, 1] rfl ?_
  refine WP.vl rfl (Yld.lda rfl ty_ag_142 rfl rfl) ?_
  refine WP.loud rfl rfl ?_
  refine Op.sA rfl rfl ty_sz_142 rfl rfl rfl (u32s_one _) rfl ?_
  refine WP.nil ?_
  refine WP.sub [(0, _), (1, _), (5, _), (6, _)] ?_ ⟨rfl, rfl, rfl, rfl, trivial⟩
  refine WP.next ?_
  refine WP.ret ?_
  refine WP.fn .ret (.inr rfl) (resC rfl ty_ag_142 rfl (by repeat (first | exact There.h | exact There.i (by assumption) | apply There.t | apply There.s)) rfl) [] (Imm.le_refl _) ?_
  exact ⟨rfl, rfl, rfl⟩


end Go.Hp
