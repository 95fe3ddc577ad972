import Derived.Test.YtcnfcdlapbjgeaaCrcD
import Derived.Test.YtcnfcdlapbjgeaaDiskD
import Derived.Test.YtcnfcdlapbjgeaaHpNum
set_option linter.unusedVariables false
set_option linter.unusedSimpArgs false
namespace Go.Hp
open Go Go.Proofs

def leP (m k i : Nat) : List UInt8 := leB m i ++ List.replicate (k - i) 0
theorem leP_len {m k i : Nat} (h : i ≤ k) : (leP m k i).length = k := by simp [leP, leB_len]; omega
theorem leP_set {m k i : Nat} (h : i < k) : SetAt (bytesV (leP m k i)) (0 + i * 1) (byteV (UInt8.ofNat (m / 2 ^ (8 * i)))) (bytesV (leP m k (i + 1))) := by
 have hs := set_byte (l := leP m k i) (k := i) (UInt8.ofNat (m / 2 ^ (8 * i))) (by rw [leP_len (by omega)]; exact h)
 have e : (leP m k i).set i (UInt8.ofNat (m / 2 ^ (8 * i))) = leP m k (i + 1) := by
  unfold leP
  rw [List.set_append_right _ _ (by rw [leB_len]; omega), leB_len, Nat.sub_self, show k - i = (k - (i + 1)) + 1 by omega, List.replicate_succ, List.set_cons_zero]
  simp [leB]
 rwa [e] at hs
theorem leP_full (m k : Nat) : leP m k k = leB m k := by simp [leP]
theorem super_put {I : Imm} {m k : Nat} (hk : 1 ≤ k ∧ k ≤ 8) (hm : m < 9223372036854775808) : Spec Try.prog 69 [.int .i64 (m : Int), .int .i64 (k : Int)] I [] (fun v J L => ∃ b, v = .slice (some ⟨b, 0, none⟩) k k ∧ I = J ∧ L = [(b, row 5 (bytesV (leB m k)))]) := by
 refine Spec.of Try.func69 rfl Try.ntmps69 (Nat.le_of_ble_eq_true rfl) (fun F => ?_)
 try simp only [nf]
 dsimp only [argsEnv]
 refine WP.seq ?_
 refine WP.region [0] rfl ?_
 refine WP.mv rfl rfl ?_
 refine WP.nil ?_
 refine WP.next ?_
 refine WP.seq ?_
 refine WP.region [0, 1, 2] rfl ?_
 refine WP.mv rfl rfl ?_
 refine WP.loud rfl rfl ?_
 refine Op.make (l := k) (c := k) rfl ty_sl_46 ty_el_46 rfl rfl rfl rfl rfl (Nat.le_refl _) (by omega) (by omega) (fun bo => ?_)
 rw [bytes0', show List.replicate k (0 : UInt8) = leP m k 0 by simp [leP, leB]]
 refine WP.mv rfl rfl ?_
 refine WP.nil ?_
 refine WP.sub [(0, _), (1, _), (4, _), (5, _)] ?_ ⟨rfl, rfl, rfl, rfl, trivial⟩
 refine WP.next ?_
 refine WP.seq ?_
 refine WP.seq ?_
 refine WP.region [0, 1, 2] rfl ?_
 refine WP.mv rfl rfl ?_
 refine WP.vl rfl (Yld.len rfl ty_sl_46 rfl) ?_
 refine WP.mv rfl rfl ?_
 refine WP.nil ?_
 refine WP.sub [(0, _), (1, _), (4, _), (5, _), (10, _), (11, _)] ?_ ⟨rfl, rfl, rfl, rfl, rfl, rfl, trivial⟩
 refine WP.next ?_
 refine WP.block ?_
 refine WP.loop (X := Nat) (fun i : Nat => [(0, .int .i64 (m : Int)), (5, .slice (some ⟨bo, 0, none⟩) k k), (10, .int .i64 (k : Int)), (11, .int .i64 (i : Int))]) (fun _ => I) (fun i : Nat => (bo, row 5 (bytesV (leP m k i))) :: F) (fun i => i ≤ k) (fun i => k - i) 0 (Nat.zero_le _) ⟨rfl, rfl, rfl, rfl, trivial⟩ rfl (by (try dsimp only); repeat (first | exact Rm.chunk | exact Rm.here | exact Rm.nil0 | apply Rm.skip | apply Rm.skipS | apply PX.cons | (apply PX.done; (repeat (first | exact Leave.done | apply Leave.drop | apply Leave.dropS)); done) | apply PX.app)) ?_
 intro i hi0; have hi0 : i ≤ k := hi0
 try dsimp only
 try simp only [nf]
 refine WP.seq ?_
 refine WP.region [0] rfl ?_
 refine WP.split rfl rfl rfl rfl (Yld.lss rfl rfl rfl) (fun hlt => ?_) (fun hlt => ?_)
 ·have hi : i < k := by omega
  refine WP.nil ?_
  refine WP.next ?_
  refine WP.seq ?_
  refine WP.condT rfl ?_
  refine WP.skip ?_
  refine WP.next ?_
  refine WP.seq ?_
  refine WP.block ?_
  refine WP.seq ?_
  refine WP.region [0, 1] rfl ?_
  iterate 2 refine WP.mv rfl rfl ?_
  refine WP.nil ?_
  refine WP.sub [(0, _), (5, _), (6, _), (10, _), (11, _), (12, _)] ?_ ⟨rfl, rfl, rfl, rfl, rfl, rfl, trivial⟩
  refine WP.next ?_
  refine WP.region [0, 1, 2, 3, 4, 5, 6, 7, 8] rfl ?_
  iterate 4 refine WP.mv rfl rfl ?_
  refine WP.vl rfl (Yld.mul64 rfl rfl rfl (by omega)) ?_
  rw [show (8 : Int) * (i : Int) = ((8 * i : Nat) : Int) by omega]
  refine WP.vl rfl (Yld.shr64 m (8 * i) rfl rfl rfl (by omega)) ?_
  refine WP.vl rfl (Yld.convN8 (m / 2 ^ (8 * i)) rfl ty_un_3 ty_ik_5 rfl) ?_
  refine WP.vl rfl (Yld.indexAddr (i := i) rfl ty_sl_46 rfl rfl hi) ?_
  refine WP.loud rfl rfl ?_
  refine Op.store1 rfl rfl ty_sz_5 rfl rfl rfl (by repeat (first | exact Upd.head | apply Upd.tail | apply Upd.tailS)) (leP_set hi) ?_
  refine WP.nil ?_
  refine WP.sub [(0, _), (5, _), (6, _), (10, _), (11, _), (12, _)] ?_ ⟨rfl, rfl, rfl, rfl, rfl, rfl, trivial⟩
  refine WP.leave ?_
  refine WP.next ?_
  refine WP.region [0, 1] rfl ?_
  refine WP.vl rfl (Yld.add64 rfl rfl rfl (by omega)) ?_
  refine WP.mv rfl rfl ?_
  refine WP.nil ?_
  refine WP.sub [(0, _), (5, _), (6, _), (10, _), (11, _), (12, _)] ?_ ⟨rfl, rfl, rfl, rfl, rfl, rfl, trivial⟩
  exact WP.ag (i + 1) hi (show k - (i + 1) < k - i by omega) ⟨rfl, rfl, rfl, rfl, trivial⟩ rfl
 ·obtain rfl : i = k := by omega
  rw [leP_full]
  refine WP.nil ?_
  refine WP.next ?_
  refine WP.seq ?_
  refine WP.condF rfl ?_
  refine WP.exit ?_
  refine WP.thenE ?_
  refine WP.thenE ?_
  refine WP.hit ?_
  refine WP.next ?_
  refine WP.seq ?_
  refine WP.region [0, 1] rfl ?_
  iterate 2 refine WP.mv rfl rfl ?_
  refine WP.nil ?_
  refine WP.sub [(0, _), (4, _), (5, _), (10, _), (11, _), (12, _)] ?_ ⟨rfl, rfl, rfl, rfl, rfl, rfl, trivial⟩
  refine WP.next ?_
  refine WP.ret ?_
  refine WP.fn .ret (.inr rfl) (res1 rfl rfl) [_] (Imm.le_refl _) ?_
  exact ⟨bo, rfl, rfl, rfl⟩

theorem super_number {I : Imm} {bs : List UInt8} {vb : Value} (hb : SlRd (fun b o => I.blk b = some o) vb bs.length 1 (bytesV bs)) (h8 : bs.length ≤ 8) : Spec Try.prog 63 [vb] I [] (fun v J L => v = .int .i64 (BitVec.ofNat 64 (leN bs)).toInt ∧ I = J ∧ L = []) := by
 refine Spec.of Try.func63 rfl Try.ntmps63 (Nat.le_of_ble_eq_true rfl) (fun F => ?_)
 try simp only [nf]
 dsimp only [argsEnv]
 refine WP.seq ?_
 refine WP.region [0] rfl ?_
 refine WP.mv rfl rfl ?_
 refine WP.nil ?_
 refine WP.next ?_
 refine WP.seq ?_
 refine WP.region [0] rfl ?_
 refine WP.mv rfl rfl ?_
 refine WP.nil ?_
 refine WP.next ?_
 refine WP.seq ?_
 refine WP.seq ?_
 refine WP.region [0, 1, 2] rfl ?_
 refine WP.mv rfl rfl ?_
 refine WP.vl rfl (Yld.lenR hb rfl ty_sl_46 rfl) ?_
 refine WP.mv rfl rfl ?_
 refine WP.nil ?_
 refine WP.next ?_
 refine WP.block ?_
 refine WP.loop (X := Nat) (fun i : Nat => [(3, .int .i64 (BitVec.ofNat 64 (leN (bs.take i))).toInt), (6, vb), (7, .int .i64 (bs.length : Int)), (8, .int .i64 (i : Int))]) (fun _ => I) (fun _ => F) (fun i => i ≤ bs.length) (fun i => bs.length - i) 0 (Nat.zero_le _) ⟨rfl, rfl, rfl, rfl, trivial⟩ rfl (by (try dsimp only); repeat (first | exact Rm.chunk | exact Rm.here | exact Rm.nil0 | apply Rm.skip | apply Rm.skipS | apply PX.cons | (apply PX.done; (repeat (first | exact Leave.done | apply Leave.drop | apply Leave.dropS)); done) | apply PX.app)) ?_
 intro i hi0; have hi0 : i ≤ bs.length := hi0
 try dsimp only
 try simp only [nf]
 refine WP.seq ?_
 refine WP.region [0] rfl ?_
 refine WP.split rfl rfl rfl rfl (Yld.lss rfl rfl rfl) (fun hlt => ?_) (fun hlt => ?_)
 ·have hi : i < bs.length := by omega
  obtain ⟨bb, kb, cb, Tb, frb, arrb, rfl, hcb, hbb, hb4⟩ := hb.get (by omega)
  have eb := take_cells hb4 i (byteV bs[i]) (by simp [bytesV, hi]) (by rw [bytesV_len]; exact hi)
  rw [Array.getElem?_toList] at eb
  have hor : (BitVec.ofNat 64 (leN (bs.take i)) ||| (BitVec.ofNat 64 bs[i].toNat) <<< (8 * i)) = BitVec.ofNat 64 (leN (bs.take (i + 1))) := by have h := leN_or (l := bs.take i) bs[i] (by simp; omega); rw [List.length_take, Nat.min_eq_left (by omega)] at h; rw [h, List.take_succ_eq_append_getElem hi]
  have hbs := bv_small (m := bs[i].toNat) (by have := bs[i].toNat_lt; omega)
  refine WP.nil ?_
  refine WP.next ?_
  refine WP.seq ?_
  refine WP.condT rfl ?_
  refine WP.skip ?_
  refine WP.next ?_
  refine WP.seq ?_
  refine WP.block ?_
  refine WP.seq ?_
  refine WP.region [0, 1, 2, 3, 4] rfl ?_
  refine WP.mv rfl rfl ?_
  refine WP.vl rfl (Yld.indexAddr (i := i) rfl ty_sl_46 rfl rfl hi) ?_
  refine WP.vl rfl (Yld.loadC rfl ty_sc_5 rfl (There.i hbb) (by rw [Nat.mul_one]; exact eb)) ?_
  iterate 2 refine WP.mv rfl rfl ?_
  refine WP.nil ?_
  refine WP.sub [(3, _), (4, _), (5, _), (6, _), (7, _), (8, _), (9, _)] ?_ ⟨rfl, rfl, rfl, rfl, rfl, rfl, rfl, trivial⟩
  refine WP.next ?_
  refine WP.region [0, 1, 2, 3, 4, 5, 6, 7] rfl ?_
  iterate 2 refine WP.mv rfl rfl ?_
  refine WP.vl rfl (Yld.conv64 rfl ty_un_5 ty_ik_3 rfl (by have := bs[i].toNat_lt; omega)) ?_
  rw [← hbs]
  refine WP.mv rfl rfl ?_
  refine WP.vl rfl (Yld.mul64 rfl rfl rfl (by omega)) ?_
  rw [show (8 : Int) * (i : Int) = ((8 * i : Nat) : Int) by omega]
  refine WP.vl rfl (Yld.shl64 (BitVec.ofNat 64 bs[i].toNat) (8 * i) rfl rfl rfl (by omega)) ?_
  refine WP.vl rfl (Yld.or64 (BitVec.ofNat 64 (leN (bs.take i))) ((BitVec.ofNat 64 bs[i].toNat) <<< (8 * i)) rfl rfl rfl) ?_
  refine WP.mv rfl rfl ?_
  refine WP.nil ?_
  refine WP.sub [(3, _), (4, _), (5, _), (6, _), (7, _), (8, _), (9, _)] ?_ ⟨rfl, rfl, rfl, rfl, rfl, rfl, rfl, trivial⟩
  refine WP.leave ?_
  refine WP.next ?_
  refine WP.region [0, 1] rfl ?_
  refine WP.vl rfl (Yld.add64 rfl rfl rfl (by omega)) ?_
  refine WP.mv rfl rfl ?_
  refine WP.nil ?_
  refine WP.sub [(3, _), (4, _), (5, _), (6, _), (7, _), (8, _), (9, _)] ?_ ⟨rfl, rfl, rfl, rfl, rfl, rfl, rfl, trivial⟩
  rw [hor]
  exact WP.ag (i + 1) hi (show bs.length - (i + 1) < bs.length - i by omega) ⟨rfl, rfl, rfl, rfl, trivial⟩ rfl
 ·obtain rfl : i = bs.length := by omega
  rw [List.take_length]
  refine WP.nil ?_
  refine WP.next ?_
  refine WP.seq ?_
  refine WP.condF rfl ?_
  refine WP.exit ?_
  refine WP.thenE ?_
  refine WP.thenE ?_
  refine WP.hit ?_
  refine WP.next ?_
  refine WP.seq ?_
  refine WP.region [0, 1] rfl ?_
  iterate 2 refine WP.mv rfl rfl ?_
  refine WP.nil ?_
  refine WP.sub [(2, _), (3, _), (6, _), (7, _), (8, _), (9, _)] ?_ ⟨rfl, rfl, rfl, rfl, rfl, rfl, trivial⟩
  refine WP.next ?_
  refine WP.ret ?_
  refine WP.fn .ret (.inr rfl) (res1 rfl rfl) [] (Imm.le_refl _) ?_
  exact ⟨rfl, rfl, rfl⟩

theorem super_in {I : Imm} {a lo hi : Int} : Spec Try.prog 56 [.int .i64 a, .int .i64 lo, .int .i64 hi] I [] (fun v J L => v = .bool (decide (lo ≤ a ∧ a ≤ hi)) ∧ I = J ∧ L = []) := by
 refine Spec.of Try.func56 rfl Try.ntmps56 (Nat.le_of_ble_eq_true rfl) (fun F => ?_)
 try simp only [nf]
 dsimp only [argsEnv]
 refine WP.seq ?_
 refine WP.region [0] rfl ?_
 refine WP.mv rfl rfl ?_
 refine WP.nil ?_
 refine WP.next ?_
 refine WP.seq ?_
 refine WP.region [0, 1, 2, 3, 4, 5, 6, 7, 8] rfl ?_
 iterate 2 refine WP.mv rfl rfl ?_
 refine WP.split rfl rfl rfl rfl (Yld.geq rfl rfl rfl) (fun h1 => ?_) (fun h1 => ?_)
 ·refine WP.mv rfl rfl ?_
  refine WP.valG rfl rfl rfl rfl rfl rfl rfl (Yld.move rfl rfl) ?_
  refine WP.valG rfl rfl rfl rfl rfl rfl rfl (Yld.move rfl rfl) ?_
  refine WP.splitG rfl rfl rfl rfl rfl rfl rfl (Yld.leq rfl rfl rfl) (fun h2 => ?_) (fun h2 => ?_)
  ·refine WP.vl rfl (Yld.pickT rfl rfl rfl) ?_
   refine WP.mv rfl rfl ?_
   refine WP.nil ?_
   refine WP.sub [(0, _), (1, _), (2, _), (6, _)] ?_ ⟨rfl, rfl, rfl, rfl, trivial⟩
   refine WP.next ?_
   refine WP.ret ?_
   refine WP.fn .ret (.inr rfl) (res1 rfl rfl) [] (Imm.le_refl _) ?_
   exact ⟨congrArg Value.bool (by simp; omega), rfl, rfl⟩
  ·refine WP.vl rfl (Yld.pickT rfl rfl rfl) ?_
   refine WP.mv rfl rfl ?_
   refine WP.nil ?_
   refine WP.sub [(0, _), (1, _), (2, _), (6, _)] ?_ ⟨rfl, rfl, rfl, rfl, trivial⟩
   refine WP.next ?_
   refine WP.ret ?_
   refine WP.fn .ret (.inr rfl) (res1 rfl rfl) [] (Imm.le_refl _) ?_
   exact ⟨congrArg Value.bool (by simp; omega), rfl, rfl⟩
 ·refine WP.mv rfl rfl ?_
  refine WP.passG rfl rfl rfl rfl rfl rfl rfl rfl ?_
  refine WP.passG rfl rfl rfl rfl rfl rfl rfl rfl ?_
  refine WP.passG rfl rfl rfl rfl rfl rfl rfl rfl ?_
  refine WP.vl rfl (Yld.pickF rfl rfl rfl) ?_
  refine WP.mv rfl rfl ?_
  refine WP.nil ?_
  refine WP.sub [(0, _), (1, _), (2, _), (6, _)] ?_ ⟨rfl, rfl, rfl, rfl, trivial⟩
  refine WP.next ?_
  refine WP.ret ?_
  refine WP.fn .ret (.inr rfl) (res1 rfl rfl) [] (Imm.le_refl _) ?_
  exact ⟨congrArg Value.bool (by simp; omega), rfl, rfl⟩


theorem super_putI {I : Imm} {a : Int} {k : Nat} (hk : 1 ≤ k ∧ k ≤ 8) (hm : 0 ≤ a ∧ a < 9223372036854775808) : Spec Try.prog 69 [.int .i64 a, .int .i64 (k : Int)] I [] (fun v J L => ∃ b, v = .slice (some ⟨b, 0, none⟩) k k ∧ I = J ∧ L = [(b, row 5 (bytesV (leB a.toNat k)))]) := by
 have h := super_put (I := I) (m := a.toNat) hk (by omega)
 rwa [Int.toNat_of_nonneg hm.1] at h

theorem leN_mod (m : Nat) : ∀ k, leN (leB m k) = m % 2 ^ (8 * k)
 | 0 => by simp [leB, leN, Nat.mod_one]
 | k + 1 => by
  rw [leB, leN_app, leN_mod m k, leB_len, UInt8.toNat_ofNat', show 8 * (k + 1) = 8 * k + 8 by omega, Nat.pow_add, Nat.mod_mul]
  congr 1
  exact Nat.mul_comm _ _
theorem leN_leB {m k : Nat} (h : m < 2 ^ (8 * k)) : leN (leB m k) = m := by rw [leN_mod, Nat.mod_eq_of_lt h]


def cut (bs : List UInt8) (l h : Nat) : List UInt8 := (bs.drop l).take (h - l)


theorem cut_mid {a b c : List UInt8} {l h : Nat} (ha : a.length = l) (hb : l + b.length = h) : cut (a ++ (b ++ c)) l h = b := by
 unfold cut
 rw [List.drop_append_of_le_length (by omega), List.drop_of_length_le (by omega), List.nil_append, List.take_append_of_le_length (by omega), List.take_of_length_le (by omega)]


theorem cut_len {bs : List UInt8} {l h : Nat} (hh : h ≤ bs.length) : (cut bs l h).length = h - l := by simp [cut]; omega


theorem leN_cat : ∀ (a b : List UInt8), leN (a ++ b) = leN a + 2 ^ (8 * a.length) * leN b
 | [], b => by simp [leN]
 | x :: a, b => by
  simp only [List.cons_append, leN, leN_cat a b, List.length_cons]
  rw [show 8 * (a.length + 1) = 8 * a.length + 8 by omega, Nat.pow_add, Nat.mul_add, Nat.add_assoc]
  congr 2
  rw [Nat.mul_comm (2 ^ (8 * a.length)) (2 ^ 8), Nat.mul_assoc]
theorem leN_inj : ∀ (a b : List UInt8), a.length = b.length → leN a = leN b → a = b
 | [], [], _, _ => rfl
 | x :: a, y :: b, hl, h => by
  simp only [leN] at h
  have hx := x.toNat_lt
  have hy := y.toNat_lt
  have e1 : x.toNat = y.toNat := by omega
  have e2 : leN a = leN b := by omega
  rw [UInt8.toNat_inj.1 e1, leN_inj a b (by simpa using hl) e2]


/-- A part. -/
structure Pt where
 place : Int
 no : Int
 index : Int
 era : Int
 parts : Int
 data : List UInt8
def ptV (p : Pt) (v : Value) : List Value := [.int .i64 p.place, .int .i64 p.no, .int .i64 p.index, .int .i64 p.era, .int .i64 p.parts, v]
def ptZ : Pt := ⟨0, 0, 0, 0, 0, []⟩
structure Pt.may (p : Pt) : Prop where
 place : 0 ≤ p.place ∧ p.place ≤ 1099511627776
 no : 1 ≤ p.no ∧ p.no ≤ 1099511627776
 era : 1 ≤ p.era ∧ p.era ≤ 4294967295
 parts : 1 ≤ p.parts ∧ p.parts ≤ 64
 index : 0 ≤ p.index ∧ p.index ≤ p.parts - 1
 data : p.data.length = 198 ∨ (p.index = p.parts - 1 ∧ 1 ≤ p.data.length ∧ p.data.length ≤ 198)
instance (p : Pt) : Decidable p.may := decidable_of_iff ((0 ≤ p.place ∧ p.place ≤ 1099511627776) ∧ (1 ≤ p.no ∧ p.no ≤ 1099511627776) ∧ (1 ≤ p.era ∧ p.era ≤ 4294967295) ∧ (1 ≤ p.parts ∧ p.parts ≤ 64) ∧ (0 ≤ p.index ∧ p.index ≤ p.parts - 1) ∧ (p.data.length = 198 ∨ (p.index = p.parts - 1 ∧ 1 ≤ p.data.length ∧ p.data.length ≤ 198))) ⟨fun h => ⟨h.1, h.2.1, h.2.2.1, h.2.2.2.1, h.2.2.2.2.1, h.2.2.2.2.2⟩, fun h => ⟨h.place, h.no, h.era, h.parts, h.index, h.data⟩⟩
theorem Pt.may.len {p : Pt} (h : p.may) : 1 ≤ p.data.length ∧ p.data.length ≤ 198 := by rcases h.data with h | h <;> omega
def phead (p : Pt) : List UInt8 := [80, 66] ++ (leB p.parts.toNat 1 ++ (leB p.index.toNat 1 ++ (leB p.data.length 2 ++ (leB p.no.toNat 6 ++ (leB p.place.toNat 6 ++ leB p.era.toNat 4)))))
theorem phead_len (p : Pt) : (phead p).length = 22 := by simp [phead, leB_len]
/-- What is summed. -/
def pin (p : Pt) : List UInt8 := phead p ++ (p.data ++ List.replicate (198 - p.data.length) 0)
theorem pin_len {p : Pt} (h : p.data.length ≤ 198) : (pin p).length = 220 := by simp [pin, phead_len]; omega
def pfull (p : Pt) : List UInt8 := pin p ++ leB (crcOf (pin p)).toNat 4
theorem pfull_len {p : Pt} (h : p.data.length ≤ 198) : (pfull p).length = 224 := by simp [pfull, pin_len h, leB_len]
def ptag (p : Pt) : List UInt8 := leB p.place.toNat 4 ++ leB p.era.toNat 4
theorem ptag_len (p : Pt) : (ptag p).length = 8 := by simp [ptag, leB_len]
def psecs (f t : List UInt8) : Nat → List UInt8
 | 0 => []
 | i + 1 => psecs f t i ++ (cut f (i * 56) ((i + 1) * 56) ++ t)
/-- A block's bytes. -/
def penc (p : Pt) : List UInt8 := psecs (pfull p) (ptag p) 4
theorem cutf_len {f : List UInt8} (hf : f.length = 224) {i : Nat} (hi : i < 4) : (cut f (i * 56) ((i + 1) * 56)).length = 56 := by rw [cut_len (by omega)]; omega
theorem psecs_len {f t : List UInt8} (hf : f.length = 224) (ht : t.length = 8) : ∀ i, i ≤ 4 → (psecs f t i).length = i * 64
 | 0, _ => by simp [psecs]
 | i + 1, h => by rw [psecs, List.length_append, List.length_append, psecs_len hf ht i (by omega), cutf_len hf (by omega), ht]; omega
theorem penc_len {p : Pt} (h : p.data.length ≤ 198) : (penc p).length = 256 := psecs_len (pfull_len h) (ptag_len p) 4 (by omega)
def strip (b : List UInt8) : Nat → List UInt8
 | 0 => []
 | i + 1 => strip b i ++ (cut b (i * 64) ((i + 1) * 64)).take 56
theorem strip_len {b : List UInt8} (hb : b.length = 256) : ∀ i, i ≤ 4 → (strip b i).length = i * 56
 | 0, _ => by simp [strip]
 | i + 1, h => by rw [strip, List.length_append, List.length_take, cut_len (by omega), strip_len hb i (by omega)]; omega
theorem cut_app {a b c : List UInt8} {l h : Nat} (ha : a.length = l) (hb : l + b.length = h) : cut ((a ++ b) ++ c) l h = b := by rw [List.append_assoc]; exact cut_mid ha hb
theorem penc_four (f t : List UInt8) : psecs f t 4 = (cut f 0 56 ++ t) ++ ((cut f 56 112 ++ t) ++ ((cut f 112 168 ++ t) ++ (cut f 168 224 ++ t))) := by simp [psecs]
theorem penc_sec {f t : List UInt8} (hf : f.length = 224) (ht : t.length = 8) {i : Nat} (hi : i < 4) : cut (psecs f t 4) (i * 64) ((i + 1) * 64) = cut f (i * 56) ((i + 1) * 56) ++ t := by
 have c : ∀ i, i < 4 → (cut f (i * 56) ((i + 1) * 56) ++ t).length = 64 := fun i hi => by rw [List.length_append, cutf_len hf hi, ht]
 have c0 : (cut f 0 56 ++ t).length = 64 := c 0 (by omega)
 have c1 : (cut f 56 112 ++ t).length = 64 := c 1 (by omega)
 have c2 : (cut f 112 168 ++ t).length = 64 := c 2 (by omega)
 have c3 : (cut f 168 224 ++ t).length = 64 := c 3 (by omega)
 rw [penc_four]
 match i, hi with
 | 0, _ => exact cut_mid (a := []) rfl (by rw [c0])
 | 1, _ => exact cut_mid c0 (by rw [c1])
 | 2, _ => rw [← List.append_assoc]; exact cut_mid (by rw [List.length_append, c0, c1]) (by rw [c2])
 | 3, _ =>
  have e : (cut f 0 56 ++ t) ++ ((cut f 56 112 ++ t) ++ ((cut f 112 168 ++ t) ++ (cut f 168 224 ++ t))) = ((cut f 0 56 ++ t) ++ ((cut f 56 112 ++ t) ++ (cut f 112 168 ++ t))) ++ ((cut f 168 224 ++ t) ++ []) := by simp
  rw [e]; exact cut_mid (by simp only [List.length_append] at c0 c1 c2 ⊢; omega) (by rw [c3])
theorem take_cut (f : List UInt8) (i : Nat) : f.take (i * 56) ++ cut f (i * 56) ((i + 1) * 56) = f.take ((i + 1) * 56) := by
 unfold cut
 rw [show (i + 1) * 56 - i * 56 = 56 by omega, show (i + 1) * 56 = i * 56 + 56 by omega, List.take_add]
theorem strip_penc {f t : List UInt8} (hf : f.length = 224) (ht : t.length = 8) : ∀ i, i ≤ 4 → strip (psecs f t 4) i = f.take (i * 56)
 | 0, _ => by simp [strip]
 | i + 1, h => by rw [strip, strip_penc hf ht i (by omega), penc_sec hf ht (by omega), List.take_append_of_le_length (by rw [cutf_len hf (by omega)]; exact Nat.le_refl _), List.take_of_length_le (l := cut f _ _) (by rw [cutf_len hf (by omega)]; exact Nat.le_refl _), take_cut]
theorem strip_full {p : Pt} (h : p.data.length ≤ 198) : strip (penc p) 4 = pfull p := by
 unfold penc
 rw [strip_penc (pfull_len h) (ptag_len p) 4 (by omega), List.take_of_length_le (by rw [pfull_len h]; decide)]
def pmany (c : List UInt8) : Nat := leN (cut c 4 6)
def byteN (c : List UInt8) (i : Nat) : Nat := (c.getD i 0).toNat
def decP (c : List UInt8) : Pt := ⟨leN (cut c 12 18), leN (cut c 6 12), byteN c 3, leN (cut c 18 22), byteN c 2, cut c 22 (22 + pmany c)⟩
/-- What a block's bytes say. -/
def pdec (b : List UInt8) : Option Pt := if b.length = 256 ∧ pmany (strip b 4) ≤ 198 ∧ (decP (strip b 4)).may ∧ penc (decP (strip b 4)) = b then some (decP (strip b 4)) else none
theorem pdec_some {b : List UInt8} (h : b.length = 256 ∧ pmany (strip b 4) ≤ 198 ∧ (decP (strip b 4)).may ∧ penc (decP (strip b 4)) = b) : pdec b = some (decP (strip b 4)) := if_pos h
theorem pdec_none {b : List UInt8} (h : ¬ (b.length = 256 ∧ pmany (strip b 4) ≤ 198 ∧ (decP (strip b 4)).may ∧ penc (decP (strip b 4)) = b)) : pdec b = none := if_neg h
theorem pdec_is {b : List UInt8} {p : Pt} (h : pdec b = some p) : p.may ∧ penc p = b ∧ b.length = 256 := by
 unfold pdec at h
 split at h
 ·rename_i hh; cases h; exact ⟨hh.2.2.1, hh.2.2.2, hh.1⟩
 ·cases h
theorem leB1 {m : Nat} (h : m < 256) : leB m 1 = [UInt8.ofNat m] := by simp [leB]
theorem full_dec {p : Pt} (h : p.may) : pmany (pfull p) = p.data.length ∧ decP (pfull p) = p := by
 obtain ⟨h1, h2, h3, h4, h5, h6⟩ := id h
 have hl := h.len
 have k1 : (leB p.parts.toNat 1).length = 1 := leB_len _ _
 have k2 : (leB p.index.toNat 1).length = 1 := leB_len _ _
 have k3 : (leB p.data.length 2).length = 2 := leB_len _ _
 have k4 : (leB p.no.toNat 6).length = 6 := leB_len _ _
 have k5 : (leB p.place.toNat 6).length = 6 := leB_len _ _
 have k6 : (leB p.era.toNat 4).length = 4 := leB_len _ _
 generalize hr : p.data ++ List.replicate (198 - p.data.length) 0 ++ leB (crcOf (pin p)).toNat 4 = r
 have e : pfull p = [80, 66] ++ (leB p.parts.toNat 1 ++ (leB p.index.toNat 1 ++ (leB p.data.length 2 ++ (leB p.no.toNat 6 ++ (leB p.place.toNat 6 ++ (leB p.era.toNat 4 ++ r)))))) := by rw [← hr]; simp [pfull, pin, phead]
 have c1 : cut (pfull p) 4 6 = leB p.data.length 2 := by
  rw [e, ← List.append_assoc, ← List.append_assoc]; exact cut_mid (by simp [k1, k2]) (by rw [k3])
 have c2 : cut (pfull p) 6 12 = leB p.no.toNat 6 := by
  rw [e, ← List.append_assoc, ← List.append_assoc, ← List.append_assoc]; exact cut_mid (by simp [k1, k2, k3]) (by rw [k4])
 have c3 : cut (pfull p) 12 18 = leB p.place.toNat 6 := by
  rw [e, ← List.append_assoc, ← List.append_assoc, ← List.append_assoc, ← List.append_assoc]; exact cut_mid (by simp [k1, k2, k3, k4]) (by rw [k5])
 have c4 : cut (pfull p) 18 22 = leB p.era.toNat 4 := by
  rw [e, ← List.append_assoc, ← List.append_assoc, ← List.append_assoc, ← List.append_assoc, ← List.append_assoc]; exact cut_mid (by simp [k1, k2, k3, k4, k5]) (by rw [k6])
 have hm : pmany (pfull p) = p.data.length := by unfold pmany; rw [c1, leN_leB (by omega)]
 have c5 : cut (pfull p) 22 (22 + p.data.length) = p.data := by
  have e2 : pfull p = phead p ++ (p.data ++ (List.replicate (198 - p.data.length) 0 ++ leB (crcOf (pin p)).toNat 4)) := by simp [pfull, pin]
  rw [e2]; exact cut_mid (phead_len p) rfl
 have c6 : byteN (pfull p) 2 = p.parts.toNat := by
  rw [leB1 (m := p.parts.toNat) (by omega)] at e
  unfold byteN
  rw [e]
  show (UInt8.ofNat p.parts.toNat).toNat = _
  rw [UInt8.toNat_ofNat']; omega
 have c7 : byteN (pfull p) 3 = p.index.toNat := by
  rw [leB1 (m := p.parts.toNat) (by omega), leB1 (m := p.index.toNat) (by omega)] at e
  unfold byteN
  rw [e]
  show (UInt8.ofNat p.index.toNat).toNat = _
  rw [UInt8.toNat_ofNat']; omega
 refine ⟨hm, ?_⟩
 unfold decP
 rw [hm, c2, c3, c4, c5, c6, c7, leN_leB (by omega), leN_leB (by omega), leN_leB (by omega)]
 cases p
 simp only [Pt.mk.injEq] at *
 refine ⟨?_, ?_, ?_, ?_, ?_, trivial⟩ <;> omega
/-- What was written is read. -/
theorem pdec_enc {p : Pt} (h : p.may) : pdec (penc p) = some p := by
 obtain ⟨h1, h2⟩ := full_dec h
 have e := strip_full h.len.2
 rw [pdec_some (by rw [e, h1, h2]; exact ⟨penc_len h.len.2, h.len.2, h, rfl⟩), e, h2]

end Go.Hp
