import Derived.Test.YtpklpigmhapkgaaCrcN
import Derived.Test.YtpklpigmhapkgaaCrcI
set_option linter.unusedVariables false
set_option linter.unusedSimpArgs false
namespace Go.Hp
open Go Go.Proofs

def bitAt (l : List UInt8) (p : Nat) : Bool := (l.getD (p / 8) 0).toBitVec.getLsbD (p % 8)
theorem bitL_len (c : UInt8) : (bitL c).length = 8 := by simp [bitL]
theorem bitsL_len : ∀ l : List UInt8, (bitsL l).length = 8 * l.length
  | [] => rfl
  | c :: l => by rw [show bitsL (c :: l) = bitL c ++ bitsL l from rfl, List.length_append, bitsL_len l, bitL_len, List.length_cons]; omega
theorem bitsL_at : ∀ (l : List UInt8) (p : Nat), p < 8 * l.length → (bitsL l)[p]? = some (bitAt l p)
  | [], p, h => by simp at h
  | c :: l, p, h => by
    rw [show bitsL (c :: l) = bitL c ++ bitsL l from rfl]
    by_cases h8 : p < 8
    · rw [List.getElem?_append_left (by rw [bitL_len]; exact h8)]
      have e1 : p / 8 = 0 := by omega
      have e2 : p % 8 = p := by omega
      simp [bitL, h8, bitAt, e1, e2]
    · rw [List.getElem?_append_right (by rw [bitL_len]; omega), bitL_len, bitsL_at l (p - 8) (by simp only [List.length_cons] at h; omega)]
      have e1 : p / 8 = (p - 8) / 8 + 1 := by omega
      have e2 : (p - 8) % 8 = p % 8 := by omega
      simp [bitAt, e1, e2]
theorem bitsL_drop8 (l : List UInt8) : bitsL (l.drop 8) = (bitsL l).drop 64 := by
  have h : l = l.take 8 ++ l.drop 8 := (List.take_append_drop 8 l).symm
  by_cases h8 : 8 ≤ l.length
  · have h2 : (bitsL (l.take 8)).length = 64 := by rw [bitsL_len, List.length_take]; omega
    have h3 : bitsL l = bitsL (l.take 8) ++ bitsL (l.drop 8) := by
      have e : bitsL (l.take 8 ++ l.drop 8) = bitsL (l.take 8) ++ bitsL (l.drop 8) := List.flatMap_append
      rw [← e, ← h]
    rw [h3, ← h2, List.drop_left']; rfl
  · rw [List.drop_of_length_le (by omega), List.drop_of_length_le (by rw [bitsL_len]; omega)]; rfl
def flip1 (l : List UInt8) (p : Nat) : List UInt8 := l.set (p / 8) ⟨(l.getD (p / 8) 0).toBitVec ^^^ (1#8 <<< (p % 8))⟩
def flips (x : BitVec 32) (l : List UInt8) (a : Nat) : Nat → List UInt8
  | 0 => l
  | i + 1 => if x.getLsbD i = true ∧ a + i < 8 * l.length then flip1 (flips x l a i) (a + i) else flips x l a i
def anyT (x : BitVec 32) (n a : Nat) : Nat → Bool
  | 0 => false
  | i + 1 => if x.getLsbD i = true ∧ a + i < 8 * n then true else anyT x n a i
theorem flip1_len (l : List UInt8) (p : Nat) : (flip1 l p).length = l.length := by simp [flip1]
theorem flips_len (x : BitVec 32) (l : List UInt8) (a : Nat) : ∀ i, (flips x l a i).length = l.length
  | 0 => rfl
  | i + 1 => by rw [flips]; split <;> simp [flip1_len, flips_len x l a i]
theorem shl_bit (p : Nat) (hp : p < 8) (q : Nat) (hq : q < 8) : (1#8 <<< p).getLsbD q = decide (q = p) := by
  have : ∀ p q : Fin 8, (1#8 <<< p.1).getLsbD q.1 = decide (q.1 = p.1) := by decide
  exact this ⟨p, hp⟩ ⟨q, hq⟩
theorem flip1_at {l : List UInt8} {p q : Nat} (hp : p < 8 * l.length) : bitAt (flip1 l p) q = (bitAt l q ^^ decide (q = p)) := by
  unfold bitAt flip1
  by_cases h : q / 8 = p / 8
  · rw [h, List.getD_eq_getElem?_getD, List.getElem?_set_self (by omega)]
    show ((l.getD (p / 8) 0).toBitVec ^^^ (1#8 <<< (p % 8))).getLsbD (q % 8) = _
    rw [BitVec.getLsbD_xor, shl_bit _ (by omega) _ (by omega)]
    congr 1
    by_cases e : q = p
    · subst e; simp
    · rw [decide_eq_false e, decide_eq_false (by omega)]
  · rw [List.getD_eq_getElem?_getD, List.getElem?_set_ne (Ne.symm h), ← List.getD_eq_getElem?_getD, decide_eq_false (show ¬ q = p by rintro rfl; exact h rfl), Bool.xor_false]
theorem flips_at (x : BitVec 32) (l : List UInt8) (a : Nat) : ∀ (i q : Nat), q < 8 * l.length → bitAt (flips x l a i) q = (bitAt l q ^^ (decide (a ≤ q ∧ q < a + i) && x.getLsbD (q - a)))
  | 0, q, _ => by rw [flips, decide_eq_false (by omega)]; simp
  | i + 1, q, hq => by
    rw [flips]
    have ih := flips_at x l a i q hq
    split
    · rename_i h
      rw [flip1_at (by rw [flips_len]; exact h.2), ih]
      by_cases e : q = a + i
      · subst e
        rw [decide_eq_false (by omega), decide_eq_true rfl, decide_eq_true (by omega), show a + i - a = i by omega, h.1]; simp
      · rw [decide_eq_false e, Bool.xor_false]
        congr 2
        exact decide_eq_decide.2 (by omega)
    · rename_i h
      rw [ih]
      by_cases e : q = a + i
      · subst e
        have hx : x.getLsbD i = false := by
          cases hb : x.getLsbD i with
          | false => rfl
          | true => exact absurd ⟨hb, hq⟩ h
        rw [show a + i - a = i by omega, hx]; simp
      · congr 2
        exact decide_eq_decide.2 (by omega)
theorem flips_same (x : BitVec 32) (l : List UInt8) (a : Nat) : ∀ i, anyT x l.length a i = false → flips x l a i = l
  | 0, _ => rfl
  | i + 1, h => by
    rw [anyT] at h
    split at h
    · cases h
    · rename_i hn; rw [flips, if_neg hn, flips_same x l a i h]
theorem anyT_ex (x : BitVec 32) (n a : Nat) : ∀ i, anyT x n a i = true → ∃ j, j < i ∧ x.getLsbD j = true ∧ a + j < 8 * n
  | 0, h => by cases h
  | i + 1, h => by
    rw [anyT] at h
    split at h
    · rename_i hc; exact ⟨i, by omega, hc⟩
    · obtain ⟨j, h1, h2⟩ := anyT_ex x n a i h; exact ⟨j, by omega, h2⟩
theorem flips_take8 (x : BitVec 32) (l : List UInt8) (a : Nat) (ha : 64 ≤ a) : ∀ i, (flips x l a i).take 8 = l.take 8
  | 0 => rfl
  | i + 1 => by
    rw [flips]
    split
    · rw [flip1, List.take_set_of_le (by omega), flips_take8 x l a ha i]
    · exact flips_take8 x l a ha i
/-- What was turned is told. -/
theorem burst_sum {x : BitVec 32} {l : List UInt8} {a : Nat} (ha : 64 ≤ a) (ht : anyT x l.length a 32 = true) (s : BitVec 32) : crcAdd s ((flips x l a 32).drop 8) ≠ crcAdd s (l.drop 8) := by
  obtain ⟨j, hj, hx, hjn⟩ := anyT_ex _ _ _ _ ht
  unfold crcAdd
  intro he
  have he : ((flips x l a 32).drop 8).foldl byteStep (~~~s) = (l.drop 8).foldl byteStep (~~~s) := by
    have := congrArg (fun z => ~~~z) he
    simpa using this
  rw [fold_bits, fold_bits, bitsL_drop8, bitsL_drop8] at he
  have hlen : (bitsL (flips x l a 32)).length = (bitsL l).length := by rw [bitsL_len, bitsL_len, flips_len]
  have hat : ∀ q, ¬ (a ≤ q ∧ q < a + 32) → (bitsL (flips x l a 32))[q]? = (bitsL l)[q]? := by
    intro q hq
    by_cases hl : q < 8 * l.length
    · rw [bitsL_at _ _ (by rw [flips_len]; exact hl), bitsL_at _ _ hl, flips_at _ _ _ _ _ hl, decide_eq_false hq]; simp
    · rw [List.getElem?_eq_none (by rw [hlen, bitsL_len]; omega), List.getElem?_eq_none (by rw [bitsL_len]; omega)]
  refine burst_fold (by simp [hlen]) (a - 64) ?_ ?_ ?_ _ he
  · apply List.ext_getElem?
    intro q
    rw [List.getElem?_take, List.getElem?_take]
    split
    · rw [List.getElem?_drop, List.getElem?_drop, hat _ (by omega)]
    · rfl
  · apply List.ext_getElem?
    intro q
    rw [List.getElem?_drop, List.getElem?_drop, List.getElem?_drop, List.getElem?_drop, hat _ (by omega)]
  · intro h
    have := congrArg (fun z : List Bool => z[a + j - 64]?) h
    simp only [List.getElem?_drop] at this
    rw [show 64 + (a + j - 64) = a + j by omega, bitsL_at _ _ (by rw [flips_len]; omega), bitsL_at _ _ hjn, flips_at _ _ _ _ _ hjn, decide_eq_true (by omega), show a + j - a = j by omega, hx] at this
    cases hb : bitAt l (a + j) <;> rw [hb] at this <;> simp at this
theorem burst_unframe {x : BitVec 32} {b : List UInt8} {a : Nat} (ha : 64 ≤ a) (hb : b.length < 4294967296) :
    (unframe (flips x (frame b) a 32) b.length).2.2 = if anyT x (frame b).length a 32 then 21 else 0 := by
  cases ht : anyT x (frame b).length a 32 with
  | false =>
    rw [flips_same _ _ _ _ ht]
    have := unframe_frame b [] hb
    rw [List.append_nil] at this
    rw [this]; rfl
  | true =>
    have hs := burst_sum ha ht
    have hl : (flips x (frame b) a 32).length = b.length + 8 := by rw [flips_len, frame_len]
    have h8 : (flips x (frame b) a 32).take 8 = (frame b).take 8 := flips_take8 _ _ _ ha _
    generalize hg : flips x (frame b) a 32 = g at *
    have e0 : frame b = four (BitVec.ofNat 32 b.length) ++ (four (crcAdd (crcOf (four (BitVec.ofNat 32 b.length))) b) ++ b) := rfl
    have eg : g = four (BitVec.ofNat 32 b.length) ++ (four (crcAdd (crcOf (four (BitVec.ofNat 32 b.length))) b) ++ g.drop 8) := by
      have h1 := (List.take_append_drop 8 g).symm
      rw [h8, e0] at h1
      exact h1
    have hw : (word g).toNat = b.length := by rw [eg, word_four, BitVec.toNat_ofNat]; exact Nat.mod_eq_of_lt (by omega)
    have d4 : g.drop 4 = four (crcAdd (crcOf (four (BitVec.ofNat 32 b.length))) b) ++ g.drop 8 := by
      have := congrArg (List.drop 4) eg
      exact this
    have t4 : g.take 4 = four (BitVec.ofNat 32 b.length) := by
      have := congrArg (List.take 4) eg
      exact this
    have d8 : (frame b).drop 8 = b := by rw [e0]; rfl
    unfold unframe
    rw [hw, d4, t4, word_four, List.take_of_length_le (by rw [List.length_drop]; omega), if_neg (by omega), if_neg (by omega), if_neg (by omega), if_pos]
    · rfl
    · intro h
      refine hs (crcOf (four (BitVec.ofNat 32 b.length))) ?_
      rw [d8]; exact h.symm
theorem low_bit (x : BitVec 32) (i : Nat) : ((x >>> i) % 2#32).toNat = 1 ↔ x.getLsbD i = true := by
  rw [BitVec.toNat_umod, BitVec.toNat_ushiftRight, Nat.shiftRight_eq_div_pow, BitVec.getLsbD, Nat.testBit_eq_decide_div_mod_eq]
  simp

end Go.Hp
