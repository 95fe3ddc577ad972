import Derived.Test.YtelkknmnnmmoaaaSupO
import Derived.Test.YtelkknmnnmmoaaaHpWord
import Derived.Test.YtelkknmnnmmoaaaHpFull
set_option linter.unusedVariables false
set_option linter.unusedSimpArgs false
namespace Go.Hp
open Go Go.Proofs

theorem one32 {i : Nat} (h : i ≠ 0) : (1#32).getLsbD i = false := by
  by_cases hi : i < 32
  · have : ∀ j : Fin 32, j.1 ≠ 0 → (1#32).getLsbD j.1 = false := by decide
    exact this ⟨i, hi⟩ h
  · exact BitVec.getLsbD_of_ge _ _ (by omega)
theorem bit_xor (x y : BitVec 32) : bit (x ^^^ y) = bit x ^^^ bit y := by
  have hs : (x ^^^ y) >>> 1 = (x >>> 1) ^^^ (y >>> 1) := by rw [BitVec.ushiftRight_xor_distrib]
  have key : ∀ z : BitVec 32, z &&& 1#32 = if z.getLsbD 0 then 1#32 else 0#32 := by
    intro z
    apply BitVec.eq_of_getLsbD_eq
    intro i hi
    rw [BitVec.getLsbD_and]
    by_cases h0 : i = 0
    · subst h0; cases z.getLsbD 0 <;> simp
    · have : (1#32).getLsbD i = false := one32 h0
      rw [this, Bool.and_false]
      cases z.getLsbD 0 <;> simp [this]
  unfold bit
  rw [key, key, key, BitVec.getLsbD_xor, hs]
  cases x.getLsbD 0 <;> cases y.getLsbD 0 <;> simp
  · ac_rfl
  · ac_rfl
  · generalize x >>> 1 = p; generalize y >>> 1 = q
    rw [show p ^^^ 2197175160#32 ^^^ (q ^^^ 2197175160#32) = p ^^^ q ^^^ (2197175160#32 ^^^ 2197175160#32) from by ac_rfl, BitVec.xor_self, BitVec.xor_zero]
theorem bit_0 : bit 0#32 = 0#32 := by decide
theorem bits_xor : ∀ (k : Nat) (x y : BitVec 32), bits k (x ^^^ y) = bits k x ^^^ bits k y
  | 0, _, _ => rfl
  | k + 1, x, y => by rw [bits, bits, bits, bit_xor, bits_xor k]
theorem bits_0 : ∀ k : Nat, bits k 0#32 = 0#32
  | 0 => rfl
  | k + 1 => by rw [bits, bit_0, bits_0 k]
theorem bits_add : ∀ (j k : Nat) (x : BitVec 32), bits (j + k) x = bits k (bits j x)
  | 0, k, x => by rw [Nat.zero_add]; rfl
  | j + 1, k, x => by rw [show j + 1 + k = (j + k) + 1 by omega, bits, bits, bits_add j k]
/-- Where the low bit is nought, a step shifts. -/
theorem bit_even (x : BitVec 32) (h : x.getLsbD 0 = false) : bit x = x >>> 1 := by
  unfold bit
  rw [if_neg]
  intro e
  have := congrArg (fun z : BitVec 32 => z.getLsbD 0) e
  simp only [BitVec.getLsbD_and, h] at this
  exact absurd this (by decide)
theorem bits_shift : ∀ (k : Nat) (x : BitVec 32), (∀ i, i < k → x.getLsbD i = false) → bits k x = x >>> k
  | 0, x, _ => by simp [bits]
  | k + 1, x, h => by
    rw [bits, bit_even x (h 0 (by omega)), bits_shift k (x >>> 1) (fun i hi => by rw [BitVec.getLsbD_ushiftRight]; exact h _ (by omega)), Nat.add_comm k 1, BitVec.shiftRight_add]
theorem nib_bits (x : BitVec 32) : nib x = bits 4 x := by
  have h0 : x = (x &&& 15#32) ^^^ (x &&& 4294967280#32) := by
    apply BitVec.eq_of_getLsbD_eq
    intro i hi
    have := congrArg (fun z : BitVec 32 => z.getLsbD i) (show (15#32 ^^^ 4294967280#32) = BitVec.allOnes 32 from by decide)
    simp only [BitVec.getLsbD_xor, BitVec.getLsbD_allOnes, hi] at this
    rw [BitVec.getLsbD_xor, BitVec.getLsbD_and, BitVec.getLsbD_and, ← Bool.and_xor_distrib_left, this]; simp
  have hb : ∀ i, (4294967280#32).getLsbD i = (decide (4 ≤ i) && decide (i < 32)) := by
    intro i
    by_cases hi : i < 32
    · have : ∀ j : Fin 32, (4294967280#32).getLsbD j.1 = (decide (4 ≤ j.1) && decide (j.1 < 32)) := by decide
      exact this ⟨i, hi⟩
    · rw [BitVec.getLsbD_of_ge _ _ (by omega)]; simp [hi]
  have h1 : bits 4 (x &&& 4294967280#32) = x >>> 4 := by
    rw [bits_shift]
    · apply BitVec.eq_of_getLsbD_eq
      intro i hi
      rw [BitVec.getLsbD_ushiftRight, BitVec.getLsbD_ushiftRight, BitVec.getLsbD_and, hb]
      by_cases h : 4 + i < 32
      · simp [h]
      · rw [BitVec.getLsbD_of_ge x _ (by omega)]; simp
    · intro i hi
      rw [BitVec.getLsbD_and, hb]; simp [show ¬ 4 ≤ i by omega]
  have h2 : tab (x &&& 15#32).toNat = bits 4 (x &&& 15#32) := by unfold tab; rw [BitVec.ofNat_toNat, BitVec.setWidth_eq]
  unfold nib
  rw [h2, ← h1, ← bits_xor, ← h0]
theorem byteStep_bits (x : BitVec 32) (c : UInt8) : byteStep x c = bits 8 (x ^^^ c.toBitVec.setWidth 32) := by
  unfold byteStep
  rw [nib_bits, nib_bits, ← bits_add]

theorem low_bit (x : BitVec 32) (i : Nat) : ((x >>> i) % 2#32).toNat = 1 ↔ x.getLsbD i = true := by
  rw [BitVec.toNat_umod, BitVec.toNat_ushiftRight, Nat.shiftRight_eq_div_pow, BitVec.getLsbD, Nat.testBit_eq_decide_div_mod_eq]
  simp

theorem bit_odd {z : BitVec 32} (h : ((z % 2#32).toNat : Int) = 1) : bit z = (z / 2#32) ^^^ 2197175160#32 := by
  have h1 : z.getLsbD 0 = true := by
    rw [← low_bit, BitVec.ushiftRight_zero]; omega
  have e : z / 2#32 = z >>> 1 := by apply BitVec.eq_of_toNat_eq; rw [BitVec.toNat_udiv, BitVec.toNat_ushiftRight, Nat.shiftRight_eq_div_pow]; rfl
  unfold bit
  rw [if_pos, e]
  apply BitVec.eq_of_getLsbD_eq
  intro i hi
  rw [BitVec.getLsbD_and]
  by_cases h0 : i = 0
  · subst h0; rw [h1]; rfl
  · rw [one32 h0, Bool.and_false]
theorem bit_evenD {z : BitVec 32} (h : ¬ ((z % 2#32).toNat : Int) = 1) : bit z = z / 2#32 := by
  have e : z / 2#32 = z >>> 1 := by apply BitVec.eq_of_toNat_eq; rw [BitVec.toNat_udiv, BitVec.toNat_ushiftRight, Nat.shiftRight_eq_div_pow]; rfl
  rw [bit_even, e]
  cases hb : z.getLsbD 0 with
  | false => rfl
  | true => have := (low_bit z 0).2 hb; rw [BitVec.ushiftRight_zero] at this; exact absurd (by omega) h
theorem crc_refAdd {I : Imm} {bs : List UInt8} {vb : Value} (hb : SlRd (fun b o => I.blk b = some o) vb bs.length 1 (bytesV bs)) (hbl : bs.length ≤ 1152921504606846976) {s : BitVec 32} : Spec Try.prog 42 [.int .u32 ((s).toNat : Int), vb] I [] (fun v J L => v = .int .u32 ((crcAdd s bs).toNat : Int) ∧ I = J ∧ L = []) := by
  refine Spec.of Try.func42 rfl Try.ntmps42 (Nat.le_of_ble_eq_true rfl) (fun F => ?_)
  try simp only [List.cons_append, List.nil_append, List.append_assoc]
  dsimp only [argsEnv]
  refine WP.seq ?_
  refine WP.region [0] rfl ?_
  refine WP.val rfl rfl rfl rfl (Yld.assign rfl rfl) ?_
  refine WP.nil ?_
  refine WP.next ?_
  refine WP.seq ?_
  refine WP.region [0, 1, 2] rfl ?_
  refine WP.val rfl rfl rfl rfl (Yld.move rfl rfl) ?_
  refine WP.val rfl rfl rfl rfl (Yld.not32 s rfl rfl) ?_
  refine WP.val rfl rfl rfl rfl (Yld.assign rfl rfl) ?_
  refine WP.nil ?_
  refine WP.sub [(0, _), (1, _), (4, _), (5, _)] ?_ ⟨rfl, rfl, rfl, rfl, trivial⟩
  refine WP.next ?_
  refine WP.seq ?_
  refine WP.seq ?_
  refine WP.region [0] rfl ?_
  refine WP.val rfl rfl rfl rfl (Yld.assign rfl rfl) ?_
  refine WP.nil ?_
  refine WP.next ?_
  refine WP.block ?_
  refine WP.loop (X := Nat) (fun i : Nat => [(1, vb), (5, .int .u32 ((((bs.take i).foldl byteStep (~~~s))).toNat : Int)), (6, .int .i64 (i : Int))]) (fun _ => I) (fun _ => F) (fun i => i ≤ bs.length) (fun i => bs.length - i) 0 (Nat.zero_le _) ⟨rfl, rfl, rfl, trivial⟩ rfl (by (try dsimp only); repeat (first | exact Rm.chunk | exact Rm.here | exact Rm.nil0 | apply Rm.skip | apply Rm.skipS | apply PX.cons | (apply PX.done; (repeat (first | exact Leave.done | apply Leave.drop | apply Leave.dropS)); done) | apply PX.app)) ?_
  intro i hi0
  try dsimp only
  try simp only [List.cons_append, List.nil_append, List.append_assoc]
  refine WP.seq ?_
  refine WP.seq ?_
  refine WP.region [0, 1, 2, 3] rfl ?_
  refine WP.val rfl rfl rfl rfl (Yld.move rfl rfl) ?_
  refine WP.val rfl rfl rfl rfl (Yld.move rfl rfl) ?_
  refine WP.val rfl rfl rfl rfl (Yld.lenR hb rfl ty_sl_24 rfl) ?_
  refine WP.split rfl rfl rfl rfl (Yld.lss rfl rfl rfl) (fun hlt => ?_) (fun hlt => ?_)
  · have hi : i < bs.length := by omega
    obtain ⟨bb, kb, cb, Tb, frb, arrb, rfl, hcb, hbb, hb4⟩ := hb.get (by omega)
    have eb := take_cells hb4 i (byteV bs[i]) (by simp [bytesV, hi]) (by rw [bytesV_len]; exact hi)
    rw [Array.getElem?_toList] at eb
    refine WP.nil ?_
    refine WP.sub [(1, _), (5, _), (6, _), (13, _)] ?_ ⟨rfl, rfl, rfl, rfl, trivial⟩
    refine WP.next ?_
    refine WP.condT rfl ?_
    refine WP.skip ?_
    refine WP.next ?_
    refine WP.seq ?_
    refine WP.block ?_
    refine WP.seq ?_
    refine WP.region [0, 1, 2, 3, 4, 5, 6, 7] rfl ?_
    refine WP.val rfl rfl rfl rfl (Yld.move rfl rfl) ?_
    refine WP.val rfl rfl rfl rfl (Yld.move rfl rfl) ?_
    refine WP.val rfl rfl rfl rfl (Yld.move rfl rfl) ?_
    refine WP.val rfl rfl rfl rfl (Yld.indexAddr (i := i) rfl ty_sl_24 rfl rfl hi) ?_
    refine WP.val rfl rfl rfl rfl (Yld.loadC rfl ty_sc_5 rfl (There.i hbb) (by rw [Nat.mul_one]; exact eb)) ?_
    refine WP.val rfl rfl rfl rfl (Yld.conv8_32 bs[i] rfl ty_un_5 ty_ik_64 rfl) ?_
    refine WP.val rfl rfl rfl rfl (Yld.xor32 ((bs.take i).foldl byteStep (~~~s)) (bs[i].toBitVec.setWidth 32) rfl rfl rfl) ?_
    refine WP.val rfl rfl rfl rfl (Yld.assign rfl rfl) ?_
    refine WP.nil ?_
    refine WP.sub [(1, _), (5, _), (6, _), (13, _)] ?_ ⟨rfl, rfl, rfl, rfl, trivial⟩
    refine WP.next ?_
    refine WP.seq ?_
    refine WP.region [0] rfl ?_
    refine WP.val rfl rfl rfl rfl (Yld.assign rfl rfl) ?_
    refine WP.nil ?_
    refine WP.next ?_
    refine WP.block ?_
    refine WP.loop (X := Nat) (fun k : Nat => [(1, .slice (some ⟨bb, kb, none⟩) bs.length cb), (5, .int .u32 (((bits k (((bs.take i).foldl byteStep (~~~s)) ^^^ bs[i].toBitVec.setWidth 32))).toNat : Int)), (6, .int .i64 (i : Int)), (7, .int .i64 (k : Int))]) (fun _ => I) (fun _ => F) (fun k => k ≤ 8) (fun k => 8 - k) 0 (Nat.zero_le _) ⟨rfl, rfl, rfl, rfl, trivial⟩ rfl (by (try dsimp only); repeat (first | exact Rm.chunk | exact Rm.here | exact Rm.nil0 | apply Rm.skip | apply Rm.skipS | apply PX.cons | (apply PX.done; (repeat (first | exact Leave.done | apply Leave.drop | apply Leave.dropS)); done) | apply PX.app)) ?_
    intro k hk0
    try dsimp only
    try simp only [List.cons_append, List.nil_append, List.append_assoc]
    refine WP.seq ?_
    refine WP.seq ?_
    refine WP.region [0, 1] rfl ?_
    refine WP.val rfl rfl rfl rfl (Yld.move rfl rfl) ?_
    refine WP.split rfl rfl rfl rfl (Yld.lss rfl rfl rfl) (fun hk8 => ?_) (fun hk8 => ?_)
    · refine WP.nil ?_
      refine WP.sub [(1, _), (5, _), (6, _), (7, _), (24, _)] ?_ ⟨rfl, rfl, rfl, rfl, rfl, trivial⟩
      refine WP.next ?_
      refine WP.condT rfl ?_
      refine WP.skip ?_
      refine WP.next ?_
      refine WP.seq ?_
      refine WP.block ?_
      refine WP.seq ?_
      refine WP.region [0, 1, 2] rfl ?_
      refine WP.val rfl rfl rfl rfl (Yld.move rfl rfl) ?_
      refine WP.val rfl rfl rfl rfl (Yld.rem32 (bits k (((bs.take i).foldl byteStep (~~~s)) ^^^ bs[i].toBitVec.setWidth 32)) 2#32 (by decide) rfl rfl rfl) ?_
      refine WP.split rfl rfl rfl rfl (Yld.eql rfl rfl rfl) (fun hbb2 => ?_) (fun hbb2 => ?_)
      · refine WP.nil ?_
        refine WP.sub [(1, _), (5, _), (6, _), (7, _), (24, _), (29, _)] ?_ ⟨rfl, rfl, rfl, rfl, rfl, rfl, trivial⟩
        refine WP.next ?_
        refine WP.condT rfl ?_
        refine WP.region [0, 1, 2, 3] rfl ?_
        refine WP.val rfl rfl rfl rfl (Yld.move rfl rfl) ?_
        refine WP.val rfl rfl rfl rfl (Yld.quo32 (bits k (((bs.take i).foldl byteStep (~~~s)) ^^^ bs[i].toBitVec.setWidth 32)) 2#32 (by decide) rfl rfl rfl) ?_
        refine WP.val rfl rfl rfl rfl (Yld.xor32 ((bits k (((bs.take i).foldl byteStep (~~~s)) ^^^ bs[i].toBitVec.setWidth 32)) / 2#32) 2197175160#32 rfl rfl rfl) ?_
        refine WP.val rfl rfl rfl rfl (Yld.assign rfl rfl) ?_
        refine WP.nil ?_
        refine WP.sub [(1, _), (5, _), (6, _), (7, _), (24, _), (29, _)] ?_ ⟨rfl, rfl, rfl, rfl, rfl, rfl, trivial⟩
        refine WP.leave ?_
        refine WP.next ?_
        refine WP.region [0, 1, 2] rfl ?_
        refine WP.val rfl rfl rfl rfl (Yld.move rfl rfl) ?_
        refine WP.val rfl rfl rfl rfl (Yld.add64 rfl rfl rfl (by omega)) ?_
        refine WP.val rfl rfl rfl rfl (Yld.assign rfl rfl) ?_
        refine WP.nil ?_
        refine WP.sub [(1, _), (5, _), (6, _), (7, _), (24, _), (29, _)] ?_ ⟨rfl, rfl, rfl, rfl, rfl, rfl, trivial⟩
        exact WP.again (k + 1) (by omega) (by omega) ⟨rfl, (congrArg (fun z : BitVec 32 => some (Value.int .u32 (z.toNat : Int))) (by rw [bits_succ, bit_odd hbb2])), rfl, rfl, trivial⟩ rfl (by (try dsimp only); repeat (first | exact Rm.chunk | exact Rm.here | exact Rm.nil0 | apply Rm.skip | apply Rm.skipS | apply PX.cons | (apply PX.done; (repeat (first | exact Leave.done | apply Leave.drop | apply Leave.dropS)); done) | apply PX.app))
      · refine WP.nil ?_
        refine WP.sub [(1, _), (5, _), (6, _), (7, _), (24, _), (29, _)] ?_ ⟨rfl, rfl, rfl, rfl, rfl, rfl, trivial⟩
        refine WP.next ?_
        refine WP.condF rfl ?_
        refine WP.region [0, 1, 2] rfl ?_
        refine WP.val rfl rfl rfl rfl (Yld.move rfl rfl) ?_
        refine WP.val rfl rfl rfl rfl (Yld.quo32 (bits k (((bs.take i).foldl byteStep (~~~s)) ^^^ bs[i].toBitVec.setWidth 32)) 2#32 (by decide) rfl rfl rfl) ?_
        refine WP.val rfl rfl rfl rfl (Yld.assign rfl rfl) ?_
        refine WP.nil ?_
        refine WP.sub [(1, _), (5, _), (6, _), (7, _), (24, _), (29, _)] ?_ ⟨rfl, rfl, rfl, rfl, rfl, rfl, trivial⟩
        refine WP.leave ?_
        refine WP.next ?_
        refine WP.region [0, 1, 2] rfl ?_
        refine WP.val rfl rfl rfl rfl (Yld.move rfl rfl) ?_
        refine WP.val rfl rfl rfl rfl (Yld.add64 rfl rfl rfl (by omega)) ?_
        refine WP.val rfl rfl rfl rfl (Yld.assign rfl rfl) ?_
        refine WP.nil ?_
        refine WP.sub [(1, _), (5, _), (6, _), (7, _), (24, _), (29, _)] ?_ ⟨rfl, rfl, rfl, rfl, rfl, rfl, trivial⟩
        exact WP.again (k + 1) (by omega) (by omega) ⟨rfl, (congrArg (fun z : BitVec 32 => some (Value.int .u32 (z.toNat : Int))) (by rw [bits_succ, bit_evenD hbb2])), rfl, rfl, trivial⟩ rfl (by (try dsimp only); repeat (first | exact Rm.chunk | exact Rm.here | exact Rm.nil0 | apply Rm.skip | apply Rm.skipS | apply PX.cons | (apply PX.done; (repeat (first | exact Leave.done | apply Leave.drop | apply Leave.dropS)); done) | apply PX.app))
    · obtain rfl : k = 8 := by omega
      refine WP.nil ?_
      refine WP.sub [(1, _), (5, _), (6, _), (7, _), (24, _)] ?_ ⟨rfl, rfl, rfl, rfl, rfl, trivial⟩
      refine WP.next ?_
      refine WP.condF rfl ?_
      refine WP.exit ?_
      refine WP.thenE ?_
      refine WP.thenE ?_
      refine WP.hit ?_
      refine WP.leave ?_
      refine WP.next ?_
      refine WP.region [0, 1, 2] rfl ?_
      refine WP.val rfl rfl rfl rfl (Yld.move rfl rfl) ?_
      refine WP.val rfl rfl rfl rfl (Yld.add64 rfl rfl rfl (by omega)) ?_
      refine WP.val rfl rfl rfl rfl (Yld.assign rfl rfl) ?_
      refine WP.nil ?_
      refine WP.sub [(1, _), (5, _), (6, _), (7, _), (24, _)] ?_ ⟨rfl, rfl, rfl, rfl, rfl, trivial⟩
      exact WP.again (i + 1) hi (by omega) ⟨rfl, (congrArg (fun z : BitVec 32 => some (Value.int .u32 (z.toNat : Int))) (by rw [List.take_succ_eq_append_getElem hi, List.foldl_append]; exact (byteStep_bits _ _).symm)), rfl, trivial⟩ rfl (by (try dsimp only); repeat (first | exact Rm.chunk | exact Rm.here | exact Rm.nil0 | apply Rm.skip | apply Rm.skipS | apply PX.cons | (apply PX.done; (repeat (first | exact Leave.done | apply Leave.drop | apply Leave.dropS)); done) | apply PX.app))
  · obtain rfl : i = bs.length := by omega
    rw [List.take_length]
    refine WP.nil ?_
    refine WP.sub [(1, _), (5, _), (6, _), (13, _)] ?_ ⟨rfl, rfl, rfl, rfl, trivial⟩
    refine WP.next ?_
    refine WP.condF rfl ?_
    refine WP.exit ?_
    refine WP.thenE ?_
    refine WP.thenE ?_
    refine WP.hit ?_
    refine WP.next ?_
    refine WP.seq ?_
    refine WP.region [0, 1, 2] rfl ?_
    refine WP.val rfl rfl rfl rfl (Yld.move rfl rfl) ?_
    refine WP.val rfl rfl rfl rfl (Yld.not32 (bs.foldl byteStep (~~~s)) rfl rfl) ?_
    refine WP.val rfl rfl rfl rfl (Yld.assign rfl rfl) ?_
    refine WP.nil ?_
    refine WP.sub [(1, _), (4, _), (5, _), (6, _), (13, _)] ?_ ⟨rfl, rfl, rfl, rfl, rfl, trivial⟩
    refine WP.next ?_
    refine WP.ret ?_
    refine WP.fin .ret (.inr rfl) (res1 rfl rfl) [] (by repeat (first | exact Take.nil | with_reducible apply Take.cons | apply Take.app | exact Rm.chunk | exact Rm.here | exact Rm.nil0 | apply Rm.skip | apply Rm.skipS | (focus (apply Take.all; (repeat (first | exact Rm.chunk | exact Rm.here | exact Rm.nil0 | apply Rm.skip | apply Rm.skipS)); done)) | apply Take.cons)) (by repeat (first | exact Leave.done | apply Leave.drop | apply Leave.dropS)) (Imm.le_refl _) ?_
    exact ⟨rfl, rfl, rfl⟩

theorem crc_refOf {I : Imm} {bs : List UInt8} {vb : Value} (hb : SlRd (fun b o => I.blk b = some o) vb bs.length 1 (bytesV bs)) (hbl : bs.length ≤ 1152921504606846976) : Spec Try.prog 33 [vb] I [] (fun v J L => v = .int .u32 ((crcOf bs).toNat : Int) ∧ I = J ∧ L = []) := by
  refine Spec.of Try.func33 rfl Try.ntmps33 (Nat.le_of_ble_eq_true rfl) (fun F => ?_)
  try simp only [List.cons_append, List.nil_append, List.append_assoc]
  dsimp only [argsEnv]
  refine WP.seq ?_
  refine WP.region [0] rfl ?_
  refine WP.val rfl rfl rfl rfl (Yld.assign rfl rfl) ?_
  refine WP.nil ?_
  refine WP.next ?_
  refine WP.seq ?_
  refine WP.region [0, 1, 2] rfl ?_
  refine WP.val rfl rfl rfl rfl (Yld.move rfl rfl) ?_
  refine WP.loud rfl rfl ?_
  refine Op.call (crc_refAdd hb hbl (s := 0#32)) rfl Try.func42 rfl rfl rfl rfl (by repeat (first | exact Take.nil | with_reducible apply Take.cons | apply Take.app | exact Rm.chunk | exact Rm.here | exact Rm.nil0 | apply Rm.skip | apply Rm.skipS | (focus (apply Take.all; (repeat (first | exact Rm.chunk | exact Rm.here | exact Rm.nil0 | apply Rm.skip | apply Rm.skipS)); done)) | apply Take.cons)) ?_
  rintro v J L1 hJ ⟨rfl, rfl, rfl⟩
  clear hJ; try simp only [List.cons_append, List.nil_append, List.append_assoc]
  refine WP.val rfl rfl rfl rfl (Yld.assign rfl rfl) ?_
  refine WP.nil ?_
  refine WP.sub [(0, _), (2, _)] ?_ ⟨rfl, rfl, trivial⟩
  refine WP.next ?_
  refine WP.ret ?_
  refine WP.fin .ret (.inr rfl) (res1 rfl rfl) [] (by repeat (first | exact Take.nil | with_reducible apply Take.cons | apply Take.app | exact Rm.chunk | exact Rm.here | exact Rm.nil0 | apply Rm.skip | apply Rm.skipS | (focus (apply Take.all; (repeat (first | exact Rm.chunk | exact Rm.here | exact Rm.nil0 | apply Rm.skip | apply Rm.skipS)); done)) | apply Take.cons)) (by repeat (first | exact Leave.done | apply Leave.drop | apply Leave.dropS)) (Imm.le_refl _) ?_
  exact ⟨rfl, rfl, rfl⟩


theorem crc_refOfOwn {I : Imm} {bs : List UInt8} {v : Value} {Lo : Chunks} (ho : Own 5 1 v (bytesV bs) bs.length Lo) (hbl : bs.length ≤ 1152921504606846976) :
    Spec Try.prog 33 [v] I Lo (fun v' J L' => I = J ∧ L' = Lo ∧ v' = .int .u32 ((crcOf bs).toNat : Int)) := by
  generalize hx : bytesV bs = xs at ho
  generalize hn : bs.length = m at ho
  cases ho with
  | none0 =>
    obtain rfl : bs = [] := List.eq_nil_of_length_eq_zero hn
    exact (crc_refOf (bs := []) ⟨none, 0, rfl, Nat.le_refl _, rfl, .inl rfl⟩ hbl).mono (by rintro v J L' _ ⟨h1, h2, h3⟩; exact ⟨h2, h3, h1⟩)
  | @blk b cap _ _ sp h h2 h3 =>
    subst hx hn
    exact (Spec.lend (R := fun v _ L1 => v = .int .u32 ((crcOf bs).toNat : Int) ∧ L1 = []) fun J hJ hb => (crc_refOf (Im_lit hb h3) hbl).mono (by rintro v J' L' _ ⟨h1, h2, h3⟩; exact ⟨h2, h1, h3⟩)).mono (by rintro v J L' _ ⟨h1, L1, rfl, h3, rfl⟩; exact ⟨h1, rfl, h3⟩)

theorem ofNat_mod (m : Nat) : UInt8.ofNat (m % 256) = UInt8.ofNat m := by
  apply UInt8.toNat_inj.1
  rw [UInt8.toNat_ofNat', UInt8.toNat_ofNat']; omega
theorem div_next (m i : Nat) : m / 2 ^ (8 * i) / 256 = m / 2 ^ (8 * (i + 1)) := by
  rw [Nat.div_div_eq_div_mul, show 8 * (i + 1) = 8 * i + 8 by omega, Nat.pow_add]
theorem ref_num {I : Imm} {bs : List UInt8} {v : Value} {Lo : Chunks} {m k : Nat} (hpre : Fr 5 I v bs Lo) (hk : 1 ≤ k ∧ k ≤ 8) (hm : m < 9223372036854775808) (hbl : bs.length ≤ 1000) : Spec Try.prog 32 [v, .int .i64 (m : Int), .int .i64 (k : Int)] I Lo (fun v' J L => I = J ∧ Own 5 1 v' (bytesV (bs ++ leB m k)) (bs ++ leB m k).length L) := by
  refine Spec.of Try.func32 rfl Try.ntmps32 (Nat.le_of_ble_eq_true rfl) (fun F => ?_)
  try simp only [List.cons_append, List.nil_append, List.append_assoc]
  dsimp only [argsEnv]
  refine WP.seq ?_
  refine WP.region [0] rfl ?_
  refine WP.val rfl rfl rfl rfl (Yld.assign rfl rfl) ?_
  refine WP.nil ?_
  refine WP.next ?_
  refine WP.seq ?_
  refine WP.seq ?_
  refine WP.region [0] rfl ?_
  refine WP.val rfl rfl rfl rfl (Yld.assign rfl rfl) ?_
  refine WP.nil ?_
  refine WP.next ?_
  refine WP.block ?_
  refine WP.loop (X := Nat × Value × Chunks) (fun u : Nat × Value × Chunks => [(0, u.2.1), (1, .int .i64 ((m / 2 ^ (8 * u.1) : Nat) : Int)), (2, .int .i64 (k : Int)), (7, .int .i64 (u.1 : Int))]) (fun _ => I) (fun u : Nat × Value × Chunks => u.2.2 ++ F) (fun u : Nat × Value × Chunks => u.1 ≤ k ∧ Fr 5 I u.2.1 (bs ++ leB m u.1) u.2.2 ∧ (0 < u.1 → Own 5 1 u.2.1 (bytesV (bs ++ leB m u.1)) (bs ++ leB m u.1).length u.2.2)) (fun u : Nat × Value × Chunks => k - u.1) (0, v, Lo) ⟨Nat.zero_le _, (by simpa [leB] using hpre), fun h => absurd h (Nat.lt_irrefl _)⟩ ⟨rfl, (by show some (Value.int .i64 (m : Int)) = some (Value.int .i64 ((m / 2 ^ (8 * 0) : Nat) : Int)); simp), rfl, rfl, trivial⟩ rfl (by (try dsimp only); repeat (first | exact Rm.chunk | exact Rm.here | exact Rm.nil0 | apply Rm.skip | apply Rm.skipS | apply PX.cons | (apply PX.done; (repeat (first | exact Leave.done | apply Leave.drop | apply Leave.dropS)); done) | apply PX.app)) ?_
  rintro ⟨i, vi, Li⟩ ⟨hik, hfr, hown⟩; dsimp only at hik hfr hown
  try dsimp only
  try simp only [List.cons_append, List.nil_append, List.append_assoc]
  refine WP.seq ?_
  refine WP.seq ?_
  refine WP.region [0, 1, 2] rfl ?_
  refine WP.val rfl rfl rfl rfl (Yld.move rfl rfl) ?_
  refine WP.val rfl rfl rfl rfl (Yld.move rfl rfl) ?_
  refine WP.split rfl rfl rfl rfl (Yld.lss rfl rfl rfl) (fun hlt => ?_) (fun hlt => ?_)
  · have hi : i < k := by omega
    have hll : (bs ++ leB m i).length ≤ bs.length + 8 := by simp [leB_len]; omega
    refine WP.nil ?_
    refine WP.sub [(0, _), (1, _), (2, _), (7, _), (10, _)] ?_ ⟨rfl, rfl, rfl, rfl, rfl, trivial⟩
    refine WP.next ?_
    refine WP.condT rfl ?_
    refine WP.skip ?_
    refine WP.next ?_
    refine WP.seq ?_
    refine WP.block ?_
    refine WP.seq ?_
    refine WP.region [0, 1, 2, 3, 4, 5, 6] rfl ?_
    refine WP.val rfl rfl rfl rfl (Yld.move rfl rfl) ?_
    refine WP.val rfl rfl rfl rfl (Yld.move rfl rfl) ?_
    refine WP.val rfl rfl rfl rfl (Yld.rem64 rfl rfl rfl ⟨Int.natCast_nonneg _, by decide⟩) ?_
    rw [show ((m / 2 ^ (8 * i) : Nat) : Int) % 256 = ((m / 2 ^ (8 * i) % 256 : Nat) : Int) by omega]
    refine WP.val rfl rfl rfl rfl (Yld.convN8 (m / 2 ^ (8 * i) % 256) rfl ty_un_3 ty_ik_5 rfl) ?_
    rw [ofNat_mod]
    refine WP.loud rfl rfl ?_
    refine Op.buildSlice rfl ty_sl_24 ty_el2_24 rfl rfl rfl rfl (vs := [_]) rfl (segs := [(0, [_])]) (cs := bytesV [UInt8.ofNat (m / 2 ^ (8 * i))]) rfl rfl (by repeat (first | exact SetSeg.nil | apply SetSeg.one | exact SetAt.zero | apply SetAt.succ)) (fun bz => ?_)
    refine WP.loud rfl rfl ?_
    refine Op.appendFr (cs := [UInt8.ofNat (m / 2 ^ (8 * i))]) rfl ty_sl_24 ty_el_24 rfl rfl rfl rfl rfl hfr (SlRd.lit (by repeat (first | exact There.h | exact There.i (by assumption) | apply There.t | apply There.s)) rfl (Nat.le_refl _)) (by decide) (by repeat (first | exact Take.nil | with_reducible apply Take.cons | apply Take.app | exact Rm.chunk | exact Rm.here | exact Rm.nil0 | apply Rm.skip | apply Rm.skipS | (focus (apply Take.all; (repeat (first | exact Rm.chunk | exact Rm.here | exact Rm.nil0 | apply Rm.skip | apply Rm.skipS)); done)) | apply Take.cons)) (by omega) (by omega) (fun v8 L8 h8 => ?_)
    try simp only [List.cons_append, List.nil_append, List.append_assoc]
    have h8' : Own 5 1 v8 (bytesV (bs ++ leB m (i + 1))) (bs ++ leB m (i + 1)).length L8 := by have e : bs ++ leB m (i + 1) = bs ++ leB m i ++ [UInt8.ofNat (m / 2 ^ (8 * i))] := (by simp [leB]); rw [e]; simpa using h8
    refine WP.val rfl rfl rfl rfl (Yld.assign rfl rfl) ?_
    refine WP.nil ?_
    refine WP.sub [(0, _), (1, _), (2, _), (7, _), (10, _)] ?_ ⟨rfl, rfl, rfl, rfl, rfl, trivial⟩
    refine WP.next ?_
    refine WP.region [0, 1, 2] rfl ?_
    refine WP.val rfl rfl rfl rfl (Yld.move rfl rfl) ?_
    refine WP.val rfl rfl rfl rfl (Yld.quo64 rfl rfl rfl ⟨Int.natCast_nonneg _, by have := Nat.div_le_self m (2 ^ (8 * i)); omega, by decide⟩) ?_
    rw [show ((m / 2 ^ (8 * i) : Nat) : Int) / 256 = ((m / 2 ^ (8 * (i + 1)) : Nat) : Int) by rw [← div_next]; omega]
    refine WP.val rfl rfl rfl rfl (Yld.assign rfl rfl) ?_
    refine WP.nil ?_
    refine WP.sub [(0, _), (1, _), (2, _), (7, _), (10, _)] ?_ ⟨rfl, rfl, rfl, rfl, rfl, trivial⟩
    refine WP.leave ?_
    refine WP.next ?_
    refine WP.region [0, 1, 2] rfl ?_
    refine WP.val rfl rfl rfl rfl (Yld.move rfl rfl) ?_
    refine WP.val rfl rfl rfl rfl (Yld.add64 rfl rfl rfl (by omega)) ?_
    refine WP.val rfl rfl rfl rfl (Yld.assign rfl rfl) ?_
    refine WP.nil ?_
    refine WP.sub [(0, _), (1, _), (2, _), (7, _), (10, _)] ?_ ⟨rfl, rfl, rfl, rfl, rfl, trivial⟩
    skip
    exact WP.again (i + 1, v8, L8) ⟨(show i + 1 ≤ k by omega), .inl h8', fun _ => h8'⟩ (show k - (i + 1) < k - i by omega) ⟨rfl, rfl, rfl, rfl, trivial⟩ rfl (by (try dsimp only); repeat (first | exact Rm.chunk | exact Rm.here | exact Rm.nil0 | apply Rm.skip | apply Rm.skipS | apply PX.cons | (apply PX.done; (repeat (first | exact Leave.done | apply Leave.drop | apply Leave.dropS)); done) | apply PX.app))
  · obtain rfl : i = k := by omega
    have hfin := hown (by omega)
    refine WP.nil ?_
    refine WP.sub [(0, _), (1, _), (2, _), (7, _), (10, _)] ?_ ⟨rfl, rfl, rfl, rfl, rfl, trivial⟩
    refine WP.next ?_
    refine WP.condF rfl ?_
    refine WP.exit ?_
    refine WP.thenE ?_
    refine WP.thenE ?_
    refine WP.hit ?_
    refine WP.next ?_
    refine WP.seq ?_
    refine WP.region [0, 1] rfl ?_
    refine WP.val rfl rfl rfl rfl (Yld.move rfl rfl) ?_
    refine WP.val rfl rfl rfl rfl (Yld.assign rfl rfl) ?_
    refine WP.nil ?_
    refine WP.sub [(0, _), (1, _), (2, _), (6, _), (7, _), (10, _)] ?_ ⟨rfl, rfl, rfl, rfl, rfl, rfl, trivial⟩
    refine WP.next ?_
    refine WP.ret ?_
    refine WP.fin .ret (.inr rfl) (res1 rfl rfl) Li (by repeat (first | exact Take.nil | with_reducible apply Take.cons | apply Take.app | exact Rm.chunk | exact Rm.here | exact Rm.nil0 | apply Rm.skip | apply Rm.skipS | (focus (apply Take.all; (repeat (first | exact Rm.chunk | exact Rm.here | exact Rm.nil0 | apply Rm.skip | apply Rm.skipS)); done)) | apply Take.cons)) (by repeat (first | exact Leave.done | apply Leave.drop | apply Leave.dropS)) (Imm.le_refl _) ?_
    exact ⟨rfl, hfin⟩


theorem ref_numI {I : Imm} {bs : List UInt8} {v : Value} {Lo : Chunks} {a : Int} {k : Nat} (hpre : Fr 5 I v bs Lo) (hk : 1 ≤ k ∧ k ≤ 8) (hm : 0 ≤ a ∧ a < 9223372036854775808) (hbl : bs.length ≤ 1000) : Spec Try.prog 32 [v, .int .i64 a, .int .i64 (k : Int)] I Lo (fun v' J L => I = J ∧ Own 5 1 v' (bytesV (bs ++ leB a.toNat k)) (bs ++ leB a.toNat k).length L) := by
  have h := ref_num (I := I) (m := a.toNat) (k := k) hpre hk (by omega) hbl
  rwa [Int.toNat_of_nonneg hm.1] at h
theorem ref_Encode {I : Imm} {s : Sp} : Spec Try.prog 10 [.agg (spV s).toArray] I [] (fun v J L => (s.may ∧ ∃ vb, v = .tuple #[vb, .int .i64 0] ∧ Own 5 1 vb (bytesV (enc s)) (enc s).length L) ∨ (¬ s.may ∧ v = .tuple #[.slice none 0 0, .int .i64 1] ∧ I = J ∧ L = [])) := by
  refine Spec.of Try.func10 rfl Try.ntmps10 (Nat.le_of_ble_eq_true rfl) (fun F => ?_)
  try simp only [List.cons_append, List.nil_append, List.append_assoc]
  dsimp only [argsEnv]
  refine WP.seq ?_
  refine WP.region [0, 1, 2] rfl ?_
  refine WP.loud rfl rfl ?_
  refine Op.box rfl rfl rfl rfl rfl (fun b1 => ?_)
  refine WP.val rfl rfl rfl rfl (Yld.assign rfl rfl) ?_
  refine WP.val rfl rfl rfl rfl (Yld.assign rfl rfl) ?_
  refine WP.nil ?_
  refine WP.next ?_
  refine WP.seq ?_
  refine WP.region [0, 1, 2] rfl ?_
  refine WP.val rfl rfl rfl rfl (Yld.loadAll rfl ty_ag_23 rfl (by repeat (first | exact There.h | exact There.i (by assumption) | apply There.t | apply There.s)) rfl) ?_
  refine WP.loud rfl rfl ?_
  refine Op.call (ref16_May (s := s)) rfl Try.func14 rfl rfl rfl rfl (by repeat (first | exact Take.nil | with_reducible apply Take.cons | apply Take.app | exact Rm.chunk | exact Rm.here | exact Rm.nil0 | apply Rm.skip | apply Rm.skipS | (focus (apply Take.all; (repeat (first | exact Rm.chunk | exact Rm.here | exact Rm.nil0 | apply Rm.skip | apply Rm.skipS)); done)) | apply Take.cons)) ?_
  rintro v J L1 hJ ⟨bm, rfl, hbm, rfl, rfl⟩
  clear hJ; try simp only [List.cons_append, List.nil_append, List.append_assoc]
  by_cases hbt : bm = true
  · rw [hbt]
    refine WP.val rfl rfl rfl rfl (Yld.assign rfl rfl) ?_
    refine WP.nil ?_
    refine WP.sub [(0, _), (1, _), (2, _), (3, _), (4, _)] ?_ ⟨rfl, rfl, rfl, rfl, rfl, trivial⟩
    refine WP.next ?_
    refine WP.seq ?_
    refine WP.seq ?_
    refine WP.region [0, 1] rfl ?_
    refine WP.val rfl rfl rfl rfl (Yld.move rfl rfl) ?_
    refine WP.val rfl rfl rfl rfl (Yld.not rfl rfl) ?_
    refine WP.nil ?_
    refine WP.sub [(0, _), (1, _), (2, _), (3, _), (4, _), (9, _)] ?_ ⟨rfl, rfl, rfl, rfl, rfl, rfl, trivial⟩
    refine WP.next ?_
    refine WP.condF rfl ?_
    refine WP.skip ?_
    refine WP.next ?_
    refine WP.seq ?_
    have hm := hbm.1 hbt
    refine WP.region [0, 1, 2] rfl ?_
    refine WP.loud rfl rfl ?_
    refine Op.buildSlice rfl ty_sl_24 ty_el2_24 rfl rfl rfl rfl (vs := [_, _]) rfl (segs := [(0, [_]), (1, [_])]) (cs := bytesV [80, 83]) rfl rfl (by repeat (first | exact SetSeg.nil | apply SetSeg.one | exact SetAt.zero | apply SetAt.succ)) (fun bz => ?_)
    refine WP.loud rfl rfl ?_
    refine Op.mark (cs := bytesV [80, 83]) rfl Try.underlying24 (by kernel_rfl) rfl rfl rfl (by repeat (first | exact Rm.chunk | exact Rm.here | exact Rm.nil0 | apply Rm.skip | apply Rm.skipS)) (fun J1 hJ1 hm1 => ?_)
    have hs1 := Im_lit' hm1 (Nat.le_refl _)
    refine WP.val rfl rfl rfl rfl (Yld.assign rfl rfl) ?_
    refine WP.nil ?_
    refine WP.sub [(0, _), (1, _), (2, _), (3, _), (4, _), (5, _), (9, _)] ?_ ⟨rfl, rfl, rfl, rfl, rfl, rfl, rfl, trivial⟩
    refine WP.next ?_
    refine WP.seq ?_
    refine WP.region [0, 1, 2, 3, 4] rfl ?_
    refine WP.val rfl rfl rfl rfl (Yld.move rfl rfl) ?_
    refine WP.val rfl rfl rfl rfl (Yld.fieldAddr rfl ty_fd_23_0 rfl) ?_
    refine WP.val rfl rfl rfl rfl (Yld.load rfl ty_sc_3 rfl (by repeat (first | exact There.h | exact There.i (by assumption) | apply There.t | apply There.s)) rfl) ?_
    refine WP.loud rfl rfl ?_
    refine Op.call (ref_numI (k := 4) (bs := [80, 83]) (.inr ⟨rfl, hs1, _, rfl⟩) ⟨by decide, by decide⟩ ⟨by have := hm.no; omega, by have := hm.no; omega⟩ (by simp [leB_len])) rfl Try.func32 rfl rfl rfl rfl (by repeat (first | exact Take.nil | with_reducible apply Take.cons | apply Take.app | exact Rm.chunk | exact Rm.here | exact Rm.nil0 | apply Rm.skip | apply Rm.skipS | (focus (apply Take.all; (repeat (first | exact Rm.chunk | exact Rm.here | exact Rm.nil0 | apply Rm.skip | apply Rm.skipS)); done)) | apply Take.cons)) ?_
    rintro v J Lo5 hJ ⟨rfl, ho5⟩
    clear hJ; try simp only [List.cons_append, List.nil_append, List.append_assoc]
    refine WP.val rfl rfl rfl rfl (Yld.assign rfl rfl) ?_
    refine WP.nil ?_
    refine WP.sub [(0, _), (1, _), (2, _), (3, _), (4, _), (5, _), (9, _)] ?_ ⟨rfl, rfl, rfl, rfl, rfl, rfl, rfl, trivial⟩
    refine WP.next ?_
    refine WP.seq ?_
    refine WP.region [0, 1, 2, 3, 4] rfl ?_
    refine WP.val rfl rfl rfl rfl (Yld.move rfl rfl) ?_
    refine WP.val rfl rfl rfl rfl (Yld.fieldAddr rfl ty_fd_23_1 rfl) ?_
    refine WP.val rfl rfl rfl rfl (Yld.load rfl ty_sc_3 rfl (by repeat (first | exact There.h | exact There.i (by assumption) | apply There.t | apply There.s)) rfl) ?_
    refine WP.loud rfl rfl ?_
    refine Op.call (ref_numI (k := 6) (.inl ho5) ⟨by decide, by decide⟩ ⟨by have := hm.place; omega, by have := hm.place; omega⟩ (by simp [leB_len])) rfl Try.func32 rfl rfl rfl rfl (by repeat (first | exact Take.nil | with_reducible apply Take.cons | apply Take.app | exact Rm.chunk | exact Rm.here | exact Rm.nil0 | apply Rm.skip | apply Rm.skipS | (focus (apply Take.all; (repeat (first | exact Rm.chunk | exact Rm.here | exact Rm.nil0 | apply Rm.skip | apply Rm.skipS)); done)) | apply Take.cons)) ?_
    rintro v J Lo6 hJ ⟨rfl, ho6⟩
    clear hJ; try simp only [List.cons_append, List.nil_append, List.append_assoc]
    refine WP.val rfl rfl rfl rfl (Yld.assign rfl rfl) ?_
    refine WP.nil ?_
    refine WP.sub [(0, _), (1, _), (2, _), (3, _), (4, _), (5, _), (9, _)] ?_ ⟨rfl, rfl, rfl, rfl, rfl, rfl, rfl, trivial⟩
    refine WP.next ?_
    refine WP.seq ?_
    refine WP.region [0, 1, 2, 3, 4] rfl ?_
    refine WP.val rfl rfl rfl rfl (Yld.move rfl rfl) ?_
    refine WP.val rfl rfl rfl rfl (Yld.fieldAddr rfl ty_fd_23_2 rfl) ?_
    refine WP.val rfl rfl rfl rfl (Yld.load rfl ty_sc_3 rfl (by repeat (first | exact There.h | exact There.i (by assumption) | apply There.t | apply There.s)) rfl) ?_
    refine WP.loud rfl rfl ?_
    refine Op.call (ref_numI (k := 5) (.inl ho6) ⟨by decide, by decide⟩ ⟨by have := hm.first; omega, by have := hm.first; omega⟩ (by simp [leB_len])) rfl Try.func32 rfl rfl rfl rfl (by repeat (first | exact Take.nil | with_reducible apply Take.cons | apply Take.app | exact Rm.chunk | exact Rm.here | exact Rm.nil0 | apply Rm.skip | apply Rm.skipS | (focus (apply Take.all; (repeat (first | exact Rm.chunk | exact Rm.here | exact Rm.nil0 | apply Rm.skip | apply Rm.skipS)); done)) | apply Take.cons)) ?_
    rintro v J Lo7 hJ ⟨rfl, ho7⟩
    clear hJ; try simp only [List.cons_append, List.nil_append, List.append_assoc]
    refine WP.val rfl rfl rfl rfl (Yld.assign rfl rfl) ?_
    refine WP.nil ?_
    refine WP.sub [(0, _), (1, _), (2, _), (3, _), (4, _), (5, _), (9, _)] ?_ ⟨rfl, rfl, rfl, rfl, rfl, rfl, rfl, trivial⟩
    refine WP.next ?_
    refine WP.seq ?_
    refine WP.region [0, 1, 2, 3, 4] rfl ?_
    refine WP.val rfl rfl rfl rfl (Yld.move rfl rfl) ?_
    refine WP.val rfl rfl rfl rfl (Yld.fieldAddr rfl ty_fd_23_3 rfl) ?_
    refine WP.val rfl rfl rfl rfl (Yld.load rfl ty_sc_3 rfl (by repeat (first | exact There.h | exact There.i (by assumption) | apply There.t | apply There.s)) rfl) ?_
    refine WP.loud rfl rfl ?_
    refine Op.call (ref_numI (k := 4) (.inl ho7) ⟨by decide, by decide⟩ ⟨by have := hm.era; omega, by have := hm.era; omega⟩ (by simp [leB_len])) rfl Try.func32 rfl rfl rfl rfl (by repeat (first | exact Take.nil | with_reducible apply Take.cons | apply Take.app | exact Rm.chunk | exact Rm.here | exact Rm.nil0 | apply Rm.skip | apply Rm.skipS | (focus (apply Take.all; (repeat (first | exact Rm.chunk | exact Rm.here | exact Rm.nil0 | apply Rm.skip | apply Rm.skipS)); done)) | apply Take.cons)) ?_
    rintro v J Lo8 hJ ⟨rfl, ho8⟩
    clear hJ; try simp only [List.cons_append, List.nil_append, List.append_assoc]
    refine WP.val rfl rfl rfl rfl (Yld.assign rfl rfl) ?_
    refine WP.nil ?_
    refine WP.sub [(0, _), (1, _), (2, _), (3, _), (4, _), (5, _), (9, _)] ?_ ⟨rfl, rfl, rfl, rfl, rfl, rfl, rfl, trivial⟩
    refine WP.next ?_
    refine WP.seq ?_
    refine WP.region [0, 1, 2, 3, 4] rfl ?_
    refine WP.val rfl rfl rfl rfl (Yld.move rfl rfl) ?_
    refine WP.val rfl rfl rfl rfl (Yld.fieldAddr rfl ty_fd_23_4 rfl) ?_
    refine WP.val rfl rfl rfl rfl (Yld.load rfl ty_sc_3 rfl (by repeat (first | exact There.h | exact There.i (by assumption) | apply There.t | apply There.s)) rfl) ?_
    refine WP.loud rfl rfl ?_
    refine Op.call (ref_numI (k := 6) (.inl ho8) ⟨by decide, by decide⟩ ⟨by have := hm.upto; omega, by have := hm.upto; omega⟩ (by simp [leB_len])) rfl Try.func32 rfl rfl rfl rfl (by repeat (first | exact Take.nil | with_reducible apply Take.cons | apply Take.app | exact Rm.chunk | exact Rm.here | exact Rm.nil0 | apply Rm.skip | apply Rm.skipS | (focus (apply Take.all; (repeat (first | exact Rm.chunk | exact Rm.here | exact Rm.nil0 | apply Rm.skip | apply Rm.skipS)); done)) | apply Take.cons)) ?_
    rintro v J Lo9 hJ ⟨rfl, ho9⟩
    clear hJ; try simp only [List.cons_append, List.nil_append, List.append_assoc]
    have hb0 : Own 5 1 v (bytesV (body s ++ List.replicate 0 0)) (body s ++ List.replicate 0 0).length Lo9 := by have e : body s ++ List.replicate 0 0 = [80, 83] ++ leB s.no.toNat 4 ++ leB s.place.toNat 6 ++ leB s.first.toNat 5 ++ leB s.era.toNat 4 ++ leB s.upto.toNat 6 := (by simp [body]); rw [e]; exact ho9
    refine WP.val rfl rfl rfl rfl (Yld.assign rfl rfl) ?_
    refine WP.nil ?_
    refine WP.sub [(0, _), (1, _), (2, _), (3, _), (4, _), (5, _), (9, _)] ?_ ⟨rfl, rfl, rfl, rfl, rfl, rfl, rfl, trivial⟩
    refine WP.next ?_
    refine WP.seq ?_
    refine WP.block ?_
    refine WP.loop (X := Nat × Value × Chunks) (fun u : Nat × Value × Chunks => [(1, .pointer (some ⟨b1, 0, none⟩)), (5, u.2.1)]) (fun _ => J1) (fun u : Nat × Value × Chunks => (b1, row 23 (spV s)) :: (u.2.2 ++ F)) (fun u : Nat × Value × Chunks => u.1 ≤ 25 ∧ Own 5 1 u.2.1 (bytesV (body s ++ List.replicate u.1 0)) (body s ++ List.replicate u.1 0).length u.2.2) (fun u : Nat × Value × Chunks => 25 - u.1) (0, v, Lo9) ⟨Nat.zero_le _, hb0⟩ ⟨rfl, rfl, trivial⟩ rfl (by (try dsimp only); repeat (first | exact Rm.chunk | exact Rm.here | exact Rm.nil0 | apply Rm.skip | apply Rm.skipS | apply PX.cons | (apply PX.done; (repeat (first | exact Leave.done | apply Leave.drop | apply Leave.dropS)); done) | apply PX.app)) ?_
    rintro ⟨i, vi, Li⟩ ⟨hi25, hown⟩; dsimp only at hi25 hown; have hll : (body s ++ List.replicate i 0).length = 27 + i := (by simp [body_len]); obtain ⟨Ai, ci, rfl, _⟩ := hown.slice; try dsimp only
    try dsimp only
    try simp only [List.cons_append, List.nil_append, List.append_assoc]
    refine WP.seq ?_
    refine WP.seq ?_
    refine WP.region [0, 1, 2] rfl ?_
    refine WP.val rfl rfl rfl rfl (Yld.move rfl rfl) ?_
    refine WP.val rfl rfl rfl rfl (Yld.len rfl ty_sl_24 rfl) ?_
    refine WP.split rfl rfl rfl rfl (Yld.lss rfl rfl rfl) (fun hlt => ?_) (fun hlt => ?_)
    · have hi : i < 25 := by omega
      refine WP.nil ?_
      refine WP.sub [(1, _), (5, _), (34, _)] ?_ ⟨rfl, rfl, rfl, trivial⟩
      refine WP.next ?_
      refine WP.condT rfl ?_
      refine WP.skip ?_
      refine WP.next ?_
      refine WP.block ?_
      refine WP.region [0, 1, 2, 3] rfl ?_
      refine WP.val rfl rfl rfl rfl (Yld.move rfl rfl) ?_
      refine WP.loud rfl rfl ?_
      refine Op.buildSlice rfl ty_sl_24 ty_el2_24 rfl rfl rfl rfl (vs := [_]) rfl (segs := [(0, [_])]) (cs := bytesV [0]) rfl rfl (by repeat (first | exact SetSeg.nil | apply SetSeg.one | exact SetAt.zero | apply SetAt.succ)) (fun bz => ?_)
      refine WP.loud rfl rfl ?_
      refine Op.appendFr (cs := [0]) rfl ty_sl_24 ty_el_24 rfl rfl rfl rfl rfl (.inl hown) (SlRd.lit (by repeat (first | exact There.h | exact There.i (by assumption) | apply There.t | apply There.s)) rfl (Nat.le_refl _)) (by decide) (by repeat (first | exact Take.nil | with_reducible apply Take.cons | apply Take.app | exact Rm.chunk | exact Rm.here | exact Rm.nil0 | apply Rm.skip | apply Rm.skipS | (focus (apply Take.all; (repeat (first | exact Rm.chunk | exact Rm.here | exact Rm.nil0 | apply Rm.skip | apply Rm.skipS)); done)) | apply Take.cons)) (by omega) (by omega) (fun v7 L7 h7 => ?_)
      try simp only [List.cons_append, List.nil_append, List.append_assoc]
      have h7' : Own 5 1 v7 (bytesV (body s ++ List.replicate (i + 1) 0)) (body s ++ List.replicate (i + 1) 0).length L7 := by have e : body s ++ List.replicate (i + 1) (0 : UInt8) = body s ++ List.replicate i 0 ++ [0] := (by rw [List.replicate_succ', List.append_assoc]); rw [e]; exact h7
      refine WP.val rfl rfl rfl rfl (Yld.assign rfl rfl) ?_
      refine WP.nil ?_
      refine WP.sub [(1, _), (5, _), (34, _)] ?_ ⟨rfl, rfl, rfl, trivial⟩
      refine WP.leave ?_
      exact WP.again (i + 1, v7, L7) ⟨(show i + 1 ≤ 25 by omega), h7'⟩ (show 25 - (i + 1) < 25 - i by omega) ⟨rfl, rfl, trivial⟩ rfl (by (try dsimp only); repeat (first | exact Rm.chunk | exact Rm.here | exact Rm.nil0 | apply Rm.skip | apply Rm.skipS | apply PX.cons | (apply PX.done; (repeat (first | exact Leave.done | apply Leave.drop | apply Leave.dropS)); done) | apply PX.app))
    · obtain rfl : i = 25 := by omega
      have hh : Own 5 1 (.slice Ai (body s ++ List.replicate 25 0).length ci) (bytesV (head s)) (head s).length Li := hown
      have hhl := head_len s
      refine WP.nil ?_
      refine WP.sub [(1, _), (5, _), (34, _)] ?_ ⟨rfl, rfl, rfl, trivial⟩
      refine WP.next ?_
      refine WP.condF rfl ?_
      refine WP.exit ?_
      refine WP.thenE ?_
      refine WP.thenE ?_
      refine WP.hit ?_
      refine WP.next ?_
      refine WP.seq ?_
      refine WP.region [0, 1, 2, 3, 4, 5] rfl ?_
      refine WP.val rfl rfl rfl rfl (Yld.move rfl rfl) ?_
      refine WP.val rfl rfl rfl rfl (Yld.move rfl rfl) ?_
      refine WP.loud rfl rfl ?_
      refine Op.call (crc_refOfOwn hh (by omega)) rfl Try.func33 rfl rfl rfl rfl (by repeat (first | exact Take.nil | with_reducible apply Take.cons | apply Take.app | exact Rm.chunk | exact Rm.here | exact Rm.nil0 | apply Rm.skip | apply Rm.skipS | (focus (apply Take.all; (repeat (first | exact Rm.chunk | exact Rm.here | exact Rm.nil0 | apply Rm.skip | apply Rm.skipS)); done)) | apply Take.cons)) ?_
      rintro v J Li hJ ⟨rfl, rfl, rfl⟩
      clear hJ; try simp only [List.cons_append, List.nil_append, List.append_assoc]
      refine WP.val rfl rfl rfl rfl (Yld.conv32_64 (crcOf (head s)) rfl ty_un_64 ty_ik_3 rfl) ?_
      refine WP.loud rfl rfl ?_
      refine Op.call (ref_num (m := (crcOf (head s)).toNat) (k := 4) (.inl hh) ⟨by decide, by decide⟩ (by have := (crcOf (head s)).isLt; omega) (by omega)) rfl Try.func32 rfl rfl rfl rfl (by repeat (first | exact Take.nil | with_reducible apply Take.cons | apply Take.app | exact Rm.chunk | exact Rm.here | exact Rm.nil0 | apply Rm.skip | apply Rm.skipS | (focus (apply Take.all; (repeat (first | exact Rm.chunk | exact Rm.here | exact Rm.nil0 | apply Rm.skip | apply Rm.skipS)); done)) | apply Take.cons)) ?_
      rintro v J Lo12 hJ ⟨rfl, ho12⟩
      clear hJ; try simp only [List.cons_append, List.nil_append, List.append_assoc]
      refine WP.val rfl rfl rfl rfl (Yld.assign rfl rfl) ?_
      refine WP.nil ?_
      refine WP.sub [(1, _), (5, _), (34, _)] ?_ ⟨rfl, rfl, rfl, trivial⟩
      refine WP.next ?_
      refine WP.seq ?_
      refine WP.region [0, 1, 2, 3, 4, 5] rfl ?_
      refine WP.val rfl rfl rfl rfl (Yld.move rfl rfl) ?_
      refine WP.val rfl rfl rfl rfl (Yld.fieldAddr rfl ty_fd_23_0 rfl) ?_
      refine WP.val rfl rfl rfl rfl (Yld.load rfl ty_sc_3 rfl (by repeat (first | exact There.h | exact There.i (by assumption) | apply There.t | apply There.s)) rfl) ?_
      refine WP.loud rfl rfl ?_
      refine Op.call (ref_numI (k := 8) (.inl ho12) ⟨by decide, by decide⟩ ⟨by have := hm.no; omega, by have := hm.no; omega⟩ (by simp [leB_len, head_len])) rfl Try.func32 rfl rfl rfl rfl (by repeat (first | exact Take.nil | with_reducible apply Take.cons | apply Take.app | exact Rm.chunk | exact Rm.here | exact Rm.nil0 | apply Rm.skip | apply Rm.skipS | (focus (apply Take.all; (repeat (first | exact Rm.chunk | exact Rm.here | exact Rm.nil0 | apply Rm.skip | apply Rm.skipS)); done)) | apply Take.cons)) ?_
      rintro v J Lo13 hJ ⟨rfl, ho13⟩
      clear hJ; try simp only [List.cons_append, List.nil_append, List.append_assoc]
      refine WP.val rfl rfl rfl rfl (Yld.assign rfl rfl) ?_
      refine WP.val rfl rfl rfl rfl (Yld.assign rfl rfl) ?_
      refine WP.nil ?_
      refine WP.sub [(1, _), (2, _), (3, _), (5, _), (34, _)] ?_ ⟨rfl, rfl, rfl, rfl, rfl, trivial⟩
      refine WP.next ?_
      refine WP.ret ?_
      refine WP.fin .ret (.inr rfl) (res2 rfl rfl rfl) Lo13 (by repeat (first | exact Take.nil | with_reducible apply Take.cons | apply Take.app | exact Rm.chunk | exact Rm.here | exact Rm.nil0 | apply Rm.skip | apply Rm.skipS | (focus (apply Take.all; (repeat (first | exact Rm.chunk | exact Rm.here | exact Rm.nil0 | apply Rm.skip | apply Rm.skipS)); done)) | apply Take.cons)) (by repeat (first | exact Leave.done | apply Leave.drop | apply Leave.dropS)) hJ1 ?_
      exact .inl ⟨hm, _, rfl, by have e : enc s = head s ++ leB (crcOf (head s)).toNat 4 ++ leB s.no.toNat 8 := (by simp [enc]); rw [e]; exact ho13⟩
  · have hbt : bm = false := by simpa using hbt
    rw [hbt]
    refine WP.val rfl rfl rfl rfl (Yld.assign rfl rfl) ?_
    refine WP.nil ?_
    refine WP.sub [(0, _), (1, _), (2, _), (3, _), (4, _)] ?_ ⟨rfl, rfl, rfl, rfl, rfl, trivial⟩
    refine WP.next ?_
    refine WP.seq ?_
    refine WP.seq ?_
    refine WP.region [0, 1] rfl ?_
    refine WP.val rfl rfl rfl rfl (Yld.move rfl rfl) ?_
    refine WP.val rfl rfl rfl rfl (Yld.not rfl rfl) ?_
    refine WP.nil ?_
    refine WP.sub [(0, _), (1, _), (2, _), (3, _), (4, _), (9, _)] ?_ ⟨rfl, rfl, rfl, rfl, rfl, rfl, trivial⟩
    refine WP.next ?_
    refine WP.condT rfl ?_
    refine WP.seq ?_
    refine WP.region [0, 1] rfl ?_
    refine WP.val rfl rfl rfl rfl (Yld.assign rfl rfl) ?_
    refine WP.val rfl rfl rfl rfl (Yld.assign rfl rfl) ?_
    refine WP.nil ?_
    refine WP.next ?_
    refine WP.ret ?_
    refine WP.fin .ret (.inr rfl) (res2 rfl rfl rfl) [] (by repeat (first | exact Take.nil | with_reducible apply Take.cons | apply Take.app | exact Rm.chunk | exact Rm.here | exact Rm.nil0 | apply Rm.skip | apply Rm.skipS | (focus (apply Take.all; (repeat (first | exact Rm.chunk | exact Rm.here | exact Rm.nil0 | apply Rm.skip | apply Rm.skipS)); done)) | apply Take.cons)) (by repeat (first | exact Leave.done | apply Leave.drop | apply Leave.dropS)) (Imm.le_refl _) ?_
    exact .inr ⟨fun h => (by have := hbm.2 h; rw [hbt] at this; cases this), rfl, rfl, rfl⟩


theorem ref_Encode_ok {I : Imm} {s : Sp} (hm : s.may) : Spec Try.prog 10 [.agg (spV s).toArray] I [] (fun v J L => ∃ vb, v = .tuple #[vb, .int .i64 0] ∧ Own 5 1 vb (bytesV (enc s)) (enc s).length L) := ref_Encode.mono (fun v J L _ h => (h.resolve_right (fun h => h.1 hm)).2)
theorem ref_Encode_bad {I : Imm} {s : Sp} (hm : ¬ s.may) : Spec Try.prog 10 [.agg (spV s).toArray] I [] (fun v J L => v = .tuple #[.slice none 0 0, .int .i64 1] ∧ I = J ∧ L = []) := ref_Encode.mono (fun v J L _ h => (h.resolve_left (fun h => hm h.1)).2)

end Go.Hp
