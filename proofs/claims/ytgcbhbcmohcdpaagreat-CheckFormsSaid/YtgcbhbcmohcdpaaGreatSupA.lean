import Derived.Test.YtgcbhbcmohcdpaaGreatSegA
import Derived.Test.YtgcbhbcmohcdpaaGreatHpNum
set_option linter.unusedVariables false
set_option linter.unusedSimpArgs false
namespace Go.Hp
open Go Go.Proofs
set_option maxRecDepth 10000

def leP9 (m k i : Nat) : List UInt8 := leB m i ++ List.replicate (k - i) 0
theorem leP_len9 {m k i : Nat} (h : i ≤ k) : (leP9 m k i).length = k := by simp [leP9, leB_len]; omega
theorem leP_set9 {m k i : Nat} (h : i < k) : SetAt (bytesV (leP9 m k i)) (0 + i * 1) (byteV (UInt8.ofNat (m / 2 ^ (8 * i)))) (bytesV (leP9 m k (i + 1))) := by
 have hs := set_byte (l := leP9 m k i) (k := i) (UInt8.ofNat (m / 2 ^ (8 * i))) (by rw [leP_len9 (by omega)]; exact h)
 have e : (leP9 m k i).set i (UInt8.ofNat (m / 2 ^ (8 * i))) = leP9 m k (i + 1) := by
  unfold leP9
  rw [List.set_append_right _ _ (by rw [leB_len]; omega), leB_len, Nat.sub_self, show k - i = (k - (i + 1)) + 1 by omega, List.replicate_succ, List.set_cons_zero]
  simp [leB]
 rwa [e] at hs
theorem leP_full9 (m k : Nat) : leP9 m k k = leB m k := by simp [leP9]
/-- A superblock. -/
structure Sp where
 no : Int
 place : Int
 first : Int
 era : Int
 upto : Int
def spV (s : Sp) : List Value := [.int .i64 s.no, .int .i64 s.place, .int .i64 s.first, .int .i64 s.era, .int .i64 s.upto]
structure Sp.may (s : Sp) : Prop where
 no : 1 ≤ s.no ∧ s.no ≤ 4294967295
 era : 1 ≤ s.era ∧ s.era ≤ 4294967295
 place : 0 ≤ s.place ∧ s.place ≤ 1099511627776
 upto : 0 ≤ s.upto ∧ s.upto ≤ 1099511627776
 first : 0 ≤ s.first ∧ s.first ≤ 68719476736
theorem super_put9 {I : Imm} {m k : Nat} (hk : 1 ≤ k ∧ k ≤ 8) (hm : m < 9223372036854775808) : Spec Tryz.prog 153 [.int .i64 (m : Int), .int .i64 (k : Int)] I [] (fun v J L => ∃ b, v = .slice (some ⟨b, 0, none⟩) k k ∧ I = J ∧ L = [(b, row 5 (bytesV (leB m k)))]) := by
 refine Spec.of Tryz.func153 rfl Tryz.ntmps153 (Nat.le_of_ble_eq_true rfl) (fun F => ?_)
 try simp only [nf]
 dsimp only [argsEnv]
 refine WP.seq ?_; refine WP.region [0] rfl ?_; refine WP.mv rfl rfl ?_; refine WP.nil (WP.next (WP.seq ?_))
 refine WP.region [0, 1, 2] rfl ?_; refine WP.mv rfl rfl ?_; refine WP.loud rfl rfl ?_; refine Op.make (l := k) (c := k) rfl ty_sl_25 ty_el_25 rfl rfl rfl rfl rfl (Nat.le_refl _) (by omega) (by omega) (fun bo => ?_)
 rw [bytes0', show List.replicate k (0 : UInt8) = leP9 m k 0 by simp [leP9, leB]]
 refine WP.mv rfl rfl ?_; refine WP.nil ?_; refine WP.sub [(0, _), (1, _), (4, _), (5, _)] ?_ ⟨rfl, rfl, rfl, rfl, trivial⟩
 refine WP.next (WP.seq (WP.seq ?_))
 refine WP.region [0, 1, 2] rfl ?_; refine WP.mv rfl rfl ?_; refine WP.vl rfl (Yld.len rfl ty_sl_25 rfl) ?_; refine WP.mv rfl rfl ?_; refine WP.nil ?_; refine WP.sub [(0, _), (1, _), (4, _), (5, _), (10, _), (11, _)] ?_ ⟨rfl, rfl, rfl, rfl, rfl, rfl, trivial⟩
 refine WP.next (WP.block ?_)
 refine WP.loop (X := Nat) (fun i : Nat => [(0, .int .i64 (m : Int)), (5, .slice (some ⟨bo, 0, none⟩) k k), (10, .int .i64 (k : Int)), (11, .int .i64 (i : Int))]) (fun _ => I) (fun i : Nat => (bo, row 5 (bytesV (leP9 m k i))) :: F) (fun i => i ≤ k) (fun i => k - i) 0 (Nat.zero_le _) ⟨rfl, rfl, rfl, rfl, trivial⟩ rfl zP ?_; intro i hi0; have hi0 : i ≤ k := hi0
 try dsimp only
 try simp only [nf]
 refine WP.seq ?_; refine WP.region [0] rfl ?_; refine WP.split rfl rfl rfl rfl (Yld.lss rfl rfl rfl) (fun hlt => ?_) (fun hlt => ?_)
 ·have hi : i < k := by omega
  refine WP.nil (WP.next (WP.seq ?_))
  refine WP.condT rfl ?_; refine WP.skip (WP.next (WP.seq (WP.block (WP.seq ?_))))
  refine WP.region [0, 1] rfl ?_; iterate 2 refine WP.mv rfl rfl ?_
  refine WP.nil ?_; refine WP.sub [(0, _), (5, _), (6, _), (10, _), (11, _), (12, _)] ?_ ⟨rfl, rfl, rfl, rfl, rfl, rfl, trivial⟩
  refine WP.next ?_; refine WP.region [0, 1, 2, 3, 4, 5, 6, 7, 8] rfl ?_; iterate 4 refine WP.mv rfl rfl ?_
  refine WP.vl rfl (Yld.mul64 rfl rfl rfl (by omega)) ?_; rw [show (8 : Int) * (i : Int) = ((8 * i : Nat) : Int) by omega]
  refine WP.vl rfl (Yld.shr64 m (8 * i) rfl rfl rfl (by omega)) ?_; refine WP.vl rfl (Yld.convN8 (m / 2 ^ (8 * i)) rfl ty_un_3 ty_ik_5 rfl) ?_; refine WP.vl rfl (Yld.indexAddr (i := i) rfl ty_sl_25 rfl rfl hi) ?_; refine WP.loud rfl rfl ?_; refine Op.store1 rfl rfl ty_sz_5 rfl rfl rfl (by repeat (first | exact Upd.head | apply Upd.tail | apply Upd.tailS)) (leP_set9 hi) ?_; refine WP.nil ?_; refine WP.sub [(0, _), (5, _), (6, _), (10, _), (11, _), (12, _)] ?_ ⟨rfl, rfl, rfl, rfl, rfl, rfl, trivial⟩
  refine WP.leave (WP.next ?_)
  refine WP.region [0, 1] rfl ?_; refine WP.vl rfl (Yld.add64 rfl rfl rfl (by omega)) ?_; refine WP.mv rfl rfl ?_; refine WP.nil ?_; refine WP.sub [(0, _), (5, _), (6, _), (10, _), (11, _), (12, _)] ?_ ⟨rfl, rfl, rfl, rfl, rfl, rfl, trivial⟩
  exact WP.ag (i + 1) hi (show k - (i + 1) < k - i by omega) ⟨rfl, rfl, rfl, rfl, trivial⟩ rfl
 ·obtain rfl : i = k := by omega
  rw [leP_full9]
  refine WP.nil (WP.next (WP.seq ?_))
  refine WP.condF rfl ?_; refine WP.exit (WP.thenE (WP.thenE (WP.hit (WP.next (WP.seq ?_)))))
  refine WP.region [0, 1] rfl ?_; iterate 2 refine WP.mv rfl rfl ?_
  refine WP.nil ?_; refine WP.sub [(0, _), (4, _), (5, _), (10, _), (11, _), (12, _)] ?_ ⟨rfl, rfl, rfl, rfl, rfl, rfl, trivial⟩
  refine WP.next (WP.ret ?_)
  refine WP.fn .ret (.inr rfl) (res1 rfl rfl) [_] (Imm.le_refl _) ?_; exact ⟨bo, rfl, rfl, rfl⟩

theorem super_in9 {I : Imm} {a lo hi : Int} : Spec Tryz.prog 151 [.int .i64 a, .int .i64 lo, .int .i64 hi] I [] (fun v J L => v = .bool (decide (lo ≤ a ∧ a ≤ hi)) ∧ I = J ∧ L = []) := by
 refine Spec.of Tryz.func151 rfl Tryz.ntmps151 (Nat.le_of_ble_eq_true rfl) (fun F => ?_)
 try simp only [nf]
 dsimp only [argsEnv]
 refine WP.seq ?_; refine WP.region [0] rfl ?_; refine WP.mv rfl rfl ?_; refine WP.nil (WP.next (WP.seq ?_))
 refine WP.region [0, 1, 2, 3, 4, 5, 6, 7, 8] rfl ?_; iterate 2 refine WP.mv rfl rfl ?_
 refine WP.split rfl rfl rfl rfl (Yld.geq rfl rfl rfl) (fun h1 => ?_) (fun h1 => ?_)
 ·refine WP.mv rfl rfl ?_
  iterate 2 refine WP.valG rfl rfl rfl rfl rfl rfl rfl (Yld.move rfl rfl) ?_
  refine WP.splitG rfl rfl rfl rfl rfl rfl rfl (Yld.leq rfl rfl rfl) (fun h2 => ?_) (fun h2 => ?_)
  ·refine WP.vl rfl (Yld.pickT rfl rfl rfl) ?_
   refine WP.mv rfl rfl ?_; refine WP.nil ?_; refine WP.sub [(0, _), (1, _), (2, _), (6, _)] ?_ ⟨rfl, rfl, rfl, rfl, trivial⟩
   refine WP.next (WP.ret ?_)
   refine WP.fn .ret (.inr rfl) (res1 rfl rfl) [] (Imm.le_refl _) ?_; exact ⟨congrArg Value.bool (by simp; omega), rfl, rfl⟩
  ·refine WP.vl rfl (Yld.pickT rfl rfl rfl) ?_
   refine WP.mv rfl rfl ?_; refine WP.nil ?_; refine WP.sub [(0, _), (1, _), (2, _), (6, _)] ?_ ⟨rfl, rfl, rfl, rfl, trivial⟩
   refine WP.next (WP.ret ?_)
   refine WP.fn .ret (.inr rfl) (res1 rfl rfl) [] (Imm.le_refl _) ?_; exact ⟨congrArg Value.bool (by simp; omega), rfl, rfl⟩
 ·refine WP.mv rfl rfl ?_
  iterate 3 refine WP.passG rfl rfl rfl rfl rfl rfl rfl rfl ?_
  refine WP.vl rfl (Yld.pickF rfl rfl rfl) ?_; refine WP.mv rfl rfl ?_; refine WP.nil ?_; refine WP.sub [(0, _), (1, _), (2, _), (6, _)] ?_ ⟨rfl, rfl, rfl, rfl, trivial⟩
  refine WP.next (WP.ret ?_)
  refine WP.fn .ret (.inr rfl) (res1 rfl rfl) [] (Imm.le_refl _) ?_; exact ⟨congrArg Value.bool (by simp; omega), rfl, rfl⟩

theorem super_may {I : Imm} {s : Sp} : Spec Tryz.prog 136 [.agg (spV s).toArray] I [] (fun v J L => ∃ b, v = .bool b ∧ (b = true ↔ s.may) ∧ I = J ∧ L = []) := by
 refine Spec.of Tryz.func136 rfl Tryz.ntmps136 (Nat.le_of_ble_eq_true rfl) (fun F => ?_)
 try simp only [nf]
 dsimp only [argsEnv]
 refine WP.seq ?_; refine WP.region [0, 1] rfl ?_; refine WP.loud rfl rfl ?_; refine Op.box rfl rfl rfl rfl rfl (fun b1 => ?_)
 refine WP.mv rfl rfl ?_; refine WP.nil (WP.next (WP.seq ?_))
 refine WP.region [0] rfl ?_; refine WP.mv rfl rfl ?_; refine WP.nil (WP.next (WP.seq ?_))
 refine WP.region [0, 1, 2, 3, 4, 5, 6, 7, 8, 9, 10, 11, 12, 13, 14, 15, 16, 17, 18, 19, 20, 21, 22, 23, 24, 25, 26, 27, 28] rfl ?_; refine WP.mv rfl rfl ?_; refine WP.vl rfl (Yld.fieldAddr rfl ty_fd_37_0 rfl) ?_; refine WP.vl rfl (Yld.ld rfl ty_sc_3 rfl rfl) ?_; refine WP.loud rfl rfl ?_; refine Op.callE super_in9 (Enters.closure rfl Tryz.func151 rfl (us := []) rfl (vs := [_, _, _]) rfl) rfl rfl zT ?_; rintro v J L1 - ⟨rfl, rfl, rfl⟩
 try simp only [nf]
 by_cases h1 : (decide (1 ≤ s.no ∧ s.no ≤ 4294967295)) = true
 ·try rw [h1]
  refine WP.mv rfl rfl ?_; refine WP.valG rfl rfl rfl rfl rfl rfl rfl (Yld.move rfl rfl) ?_; refine WP.valG rfl rfl rfl rfl rfl rfl rfl (Yld.fieldAddr rfl ty_fd_37_3 rfl) ?_; refine WP.valG rfl rfl rfl rfl rfl rfl rfl (Yld.ld rfl ty_sc_3 rfl rfl) ?_; refine WP.loudG rfl rfl rfl rfl rfl ?_; refine Op.callE super_in9 (Enters.closure rfl Tryz.func151 rfl (us := []) rfl (vs := [_, _, _]) rfl) rfl rfl zT ?_; rintro v J L1 - ⟨rfl, rfl, rfl⟩
  try simp only [nf]
  by_cases h2 : (decide (1 ≤ s.era ∧ s.era ≤ 4294967295)) = true
  ·try rw [h2]
   refine WP.vl rfl (Yld.pickT rfl rfl rfl) ?_; refine WP.mv rfl rfl ?_; refine WP.valG rfl rfl rfl rfl rfl rfl rfl (Yld.move rfl rfl) ?_; refine WP.valG rfl rfl rfl rfl rfl rfl rfl (Yld.fieldAddr rfl ty_fd_37_1 rfl) ?_; refine WP.valG rfl rfl rfl rfl rfl rfl rfl (Yld.ld rfl ty_sc_3 rfl rfl) ?_; refine WP.loudG rfl rfl rfl rfl rfl ?_; refine Op.callE super_in9 (Enters.closure rfl Tryz.func151 rfl (us := []) rfl (vs := [_, _, _]) rfl) rfl rfl zT ?_; rintro v J L1 - ⟨rfl, rfl, rfl⟩
   try simp only [nf]
   by_cases h3 : (decide (0 ≤ s.place ∧ s.place ≤ 1099511627776)) = true
   ·try rw [h3]
    refine WP.vl rfl (Yld.pickT rfl rfl rfl) ?_; refine WP.mv rfl rfl ?_; refine WP.valG rfl rfl rfl rfl rfl rfl rfl (Yld.move rfl rfl) ?_; refine WP.valG rfl rfl rfl rfl rfl rfl rfl (Yld.fieldAddr rfl ty_fd_37_4 rfl) ?_; refine WP.valG rfl rfl rfl rfl rfl rfl rfl (Yld.ld rfl ty_sc_3 rfl rfl) ?_; refine WP.loudG rfl rfl rfl rfl rfl ?_; refine Op.callE super_in9 (Enters.closure rfl Tryz.func151 rfl (us := []) rfl (vs := [_, _, _]) rfl) rfl rfl zT ?_; rintro v J L1 - ⟨rfl, rfl, rfl⟩
    try simp only [nf]
    by_cases h4 : (decide (0 ≤ s.upto ∧ s.upto ≤ 1099511627776)) = true
    ·try rw [h4]
     refine WP.vl rfl (Yld.pickT rfl rfl rfl) ?_; refine WP.mv rfl rfl ?_; refine WP.valG rfl rfl rfl rfl rfl rfl rfl (Yld.move rfl rfl) ?_; refine WP.valG rfl rfl rfl rfl rfl rfl rfl (Yld.fieldAddr rfl ty_fd_37_2 rfl) ?_; refine WP.valG rfl rfl rfl rfl rfl rfl rfl (Yld.ld rfl ty_sc_3 rfl rfl) ?_; refine WP.loudG rfl rfl rfl rfl rfl ?_; refine Op.callE super_in9 (Enters.closure rfl Tryz.func151 rfl (us := []) rfl (vs := [_, _, _]) rfl) rfl rfl zT ?_; rintro v J L1 - ⟨rfl, rfl, rfl⟩
     try simp only [nf]
     refine WP.vl rfl (Yld.pickT rfl rfl rfl) ?_; refine WP.mv rfl rfl ?_; refine WP.nil ?_; refine WP.sub [(0, _), (1, _), (2, _), (3, _)] ?_ ⟨rfl, rfl, rfl, rfl, trivial⟩
     refine WP.next (WP.ret ?_)
     refine WP.fn .ret (.inr rfl) (res1 rfl rfl) [] (Imm.le_refl _) ?_; refine ⟨_, rfl, ?_, rfl, rfl⟩
     first | exact ⟨fun h => by have h5 := of_decide_eq_true h; exact ⟨of_decide_eq_true h1, of_decide_eq_true h2, of_decide_eq_true h3, of_decide_eq_true h4, h5⟩, fun h => decide_eq_true h.first⟩ | exact ⟨fun h => Bool.noConfusion h, fun h => absurd h.upto (of_decide_eq_false h4)⟩ | exact ⟨fun h => Bool.noConfusion h, fun h => absurd h.place (of_decide_eq_false h3)⟩ | exact ⟨fun h => Bool.noConfusion h, fun h => absurd h.era (of_decide_eq_false h2)⟩ | exact ⟨fun h => Bool.noConfusion h, fun h => absurd h.no (of_decide_eq_false h1)⟩
    ·have h4 : (decide (0 ≤ s.upto ∧ s.upto ≤ 1099511627776)) = false := eq_false_of_ne_true h4
     try rw [h4]
     refine WP.vl rfl (Yld.pickT rfl rfl rfl) ?_; refine WP.mv rfl rfl ?_; iterate 4 refine WP.passG rfl rfl rfl rfl rfl rfl rfl rfl ?_
     refine WP.vl rfl (Yld.pickF rfl rfl rfl) ?_; refine WP.mv rfl rfl ?_; refine WP.nil ?_; refine WP.sub [(0, _), (1, _), (2, _), (3, _)] ?_ ⟨rfl, rfl, rfl, rfl, trivial⟩
     refine WP.next (WP.ret ?_)
     refine WP.fn .ret (.inr rfl) (res1 rfl rfl) [] (Imm.le_refl _) ?_; refine ⟨_, rfl, ?_, rfl, rfl⟩
     first | exact ⟨fun h => by have h5 := of_decide_eq_true h; exact ⟨of_decide_eq_true h1, of_decide_eq_true h2, of_decide_eq_true h3, of_decide_eq_true h4, h5⟩, fun h => decide_eq_true h.first⟩ | exact ⟨fun h => Bool.noConfusion h, fun h => absurd h.upto (of_decide_eq_false h4)⟩ | exact ⟨fun h => Bool.noConfusion h, fun h => absurd h.place (of_decide_eq_false h3)⟩ | exact ⟨fun h => Bool.noConfusion h, fun h => absurd h.era (of_decide_eq_false h2)⟩ | exact ⟨fun h => Bool.noConfusion h, fun h => absurd h.no (of_decide_eq_false h1)⟩
   ·have h3 : (decide (0 ≤ s.place ∧ s.place ≤ 1099511627776)) = false := eq_false_of_ne_true h3
    try rw [h3]
    refine WP.vl rfl (Yld.pickT rfl rfl rfl) ?_; refine WP.mv rfl rfl ?_; iterate 4 refine WP.passG rfl rfl rfl rfl rfl rfl rfl rfl ?_
    refine WP.vl rfl (Yld.pickF rfl rfl rfl) ?_; refine WP.mv rfl rfl ?_; iterate 4 refine WP.passG rfl rfl rfl rfl rfl rfl rfl rfl ?_
    refine WP.vl rfl (Yld.pickF rfl rfl rfl) ?_; refine WP.mv rfl rfl ?_; refine WP.nil ?_; refine WP.sub [(0, _), (1, _), (2, _), (3, _)] ?_ ⟨rfl, rfl, rfl, rfl, trivial⟩
    refine WP.next (WP.ret ?_)
    refine WP.fn .ret (.inr rfl) (res1 rfl rfl) [] (Imm.le_refl _) ?_; refine ⟨_, rfl, ?_, rfl, rfl⟩
    first | exact ⟨fun h => by have h5 := of_decide_eq_true h; exact ⟨of_decide_eq_true h1, of_decide_eq_true h2, of_decide_eq_true h3, of_decide_eq_true h4, h5⟩, fun h => decide_eq_true h.first⟩ | exact ⟨fun h => Bool.noConfusion h, fun h => absurd h.upto (of_decide_eq_false h4)⟩ | exact ⟨fun h => Bool.noConfusion h, fun h => absurd h.place (of_decide_eq_false h3)⟩ | exact ⟨fun h => Bool.noConfusion h, fun h => absurd h.era (of_decide_eq_false h2)⟩ | exact ⟨fun h => Bool.noConfusion h, fun h => absurd h.no (of_decide_eq_false h1)⟩
  ·have h2 : (decide (1 ≤ s.era ∧ s.era ≤ 4294967295)) = false := eq_false_of_ne_true h2
   try rw [h2]
   refine WP.vl rfl (Yld.pickT rfl rfl rfl) ?_; refine WP.mv rfl rfl ?_; iterate 4 refine WP.passG rfl rfl rfl rfl rfl rfl rfl rfl ?_
   refine WP.vl rfl (Yld.pickF rfl rfl rfl) ?_; refine WP.mv rfl rfl ?_; iterate 4 refine WP.passG rfl rfl rfl rfl rfl rfl rfl rfl ?_
   refine WP.vl rfl (Yld.pickF rfl rfl rfl) ?_; refine WP.mv rfl rfl ?_; iterate 4 refine WP.passG rfl rfl rfl rfl rfl rfl rfl rfl ?_
   refine WP.vl rfl (Yld.pickF rfl rfl rfl) ?_; refine WP.mv rfl rfl ?_; refine WP.nil ?_; refine WP.sub [(0, _), (1, _), (2, _), (3, _)] ?_ ⟨rfl, rfl, rfl, rfl, trivial⟩
   refine WP.next (WP.ret ?_)
   refine WP.fn .ret (.inr rfl) (res1 rfl rfl) [] (Imm.le_refl _) ?_; refine ⟨_, rfl, ?_, rfl, rfl⟩
   first | exact ⟨fun h => by have h5 := of_decide_eq_true h; exact ⟨of_decide_eq_true h1, of_decide_eq_true h2, of_decide_eq_true h3, of_decide_eq_true h4, h5⟩, fun h => decide_eq_true h.first⟩ | exact ⟨fun h => Bool.noConfusion h, fun h => absurd h.upto (of_decide_eq_false h4)⟩ | exact ⟨fun h => Bool.noConfusion h, fun h => absurd h.place (of_decide_eq_false h3)⟩ | exact ⟨fun h => Bool.noConfusion h, fun h => absurd h.era (of_decide_eq_false h2)⟩ | exact ⟨fun h => Bool.noConfusion h, fun h => absurd h.no (of_decide_eq_false h1)⟩
 ·have h1 : (decide (1 ≤ s.no ∧ s.no ≤ 4294967295)) = false := eq_false_of_ne_true h1
  try rw [h1]
  refine WP.mv rfl rfl ?_; iterate 4 refine WP.passG rfl rfl rfl rfl rfl rfl rfl rfl ?_
  refine WP.vl rfl (Yld.pickF rfl rfl rfl) ?_; refine WP.mv rfl rfl ?_; iterate 4 refine WP.passG rfl rfl rfl rfl rfl rfl rfl rfl ?_
  refine WP.vl rfl (Yld.pickF rfl rfl rfl) ?_; refine WP.mv rfl rfl ?_; iterate 4 refine WP.passG rfl rfl rfl rfl rfl rfl rfl rfl ?_
  refine WP.vl rfl (Yld.pickF rfl rfl rfl) ?_; refine WP.mv rfl rfl ?_; iterate 4 refine WP.passG rfl rfl rfl rfl rfl rfl rfl rfl ?_
  refine WP.vl rfl (Yld.pickF rfl rfl rfl) ?_; refine WP.mv rfl rfl ?_; refine WP.nil ?_; refine WP.sub [(0, _), (1, _), (2, _), (3, _)] ?_ ⟨rfl, rfl, rfl, rfl, trivial⟩
  refine WP.next (WP.ret ?_)
  refine WP.fn .ret (.inr rfl) (res1 rfl rfl) [] (Imm.le_refl _) ?_; refine ⟨_, rfl, ?_, rfl, rfl⟩
  first | exact ⟨fun h => by have h5 := of_decide_eq_true h; exact ⟨of_decide_eq_true h1, of_decide_eq_true h2, of_decide_eq_true h3, of_decide_eq_true h4, h5⟩, fun h => decide_eq_true h.first⟩ | exact ⟨fun h => Bool.noConfusion h, fun h => absurd h.upto (of_decide_eq_false h4)⟩ | exact ⟨fun h => Bool.noConfusion h, fun h => absurd h.place (of_decide_eq_false h3)⟩ | exact ⟨fun h => Bool.noConfusion h, fun h => absurd h.era (of_decide_eq_false h2)⟩ | exact ⟨fun h => Bool.noConfusion h, fun h => absurd h.no (of_decide_eq_false h1)⟩


end Go.Hp
