import Derived.Test.YtbgkfndnbngnmaaSegN
set_option linter.unusedVariables false
set_option linter.unusedSimpArgs false
namespace Go.Hp
open Go Go.Proofs

theorem one32 {i : Nat} (h : i ≠ 0) : (1#32).getLsbD i = false := by
  by_cases hi : i < 32
  · have : ∀ j : Fin 32, j.1 ≠ 0 → (1#32).getLsbD j.1 = false := by decide
    exact this ⟨i, hi⟩ h
  · exact BitVec.getLsbD_of_ge _ _ (by omega)
theorem bit_xor (x y : BitVec 32) : bit (x ^^^ y) = bit x ^^^ bit y := by
  have hs : (x ^^^ y) >>> 1 = (x >>> 1) ^^^ (y >>> 1) := by rw [BitVec.ushiftRight_xor_distrib]
  have key : ∀ z : BitVec 32, z &&& 1#32 = if z.getLsbD 0 then 1#32 else 0#32 := by
    intro z
    apply BitVec.eq_of_getLsbD_eq
    intro i hi
    rw [BitVec.getLsbD_and]
    by_cases h0 : i = 0
    · subst h0; cases z.getLsbD 0 <;> simp
    · have : (1#32).getLsbD i = false := one32 h0
      rw [this, Bool.and_false]
      cases z.getLsbD 0 <;> simp [this]
  unfold bit
  rw [key, key, key, BitVec.getLsbD_xor, hs]
  cases x.getLsbD 0 <;> cases y.getLsbD 0 <;> simp
  · ac_rfl
  · ac_rfl
  · generalize x >>> 1 = p; generalize y >>> 1 = q
    rw [show p ^^^ 2197175160#32 ^^^ (q ^^^ 2197175160#32) = p ^^^ q ^^^ (2197175160#32 ^^^ 2197175160#32) from by ac_rfl, BitVec.xor_self, BitVec.xor_zero]
theorem bit_0 : bit 0#32 = 0#32 := by decide
theorem bits_xor : ∀ (k : Nat) (x y : BitVec 32), bits k (x ^^^ y) = bits k x ^^^ bits k y
  | 0, _, _ => rfl
  | k + 1, x, y => by rw [bits, bits, bits, bit_xor, bits_xor k]
theorem bits_0 : ∀ k : Nat, bits k 0#32 = 0#32
  | 0 => rfl
  | k + 1 => by rw [bits, bit_0, bits_0 k]
theorem bits_add : ∀ (j k : Nat) (x : BitVec 32), bits (j + k) x = bits k (bits j x)
  | 0, k, x => by rw [Nat.zero_add]; rfl
  | j + 1, k, x => by rw [show j + 1 + k = (j + k) + 1 by omega, bits, bits, bits_add j k]
/-- Where the low bit is nought, a step shifts. -/
theorem bit_even (x : BitVec 32) (h : x.getLsbD 0 = false) : bit x = x >>> 1 := by
  unfold bit
  rw [if_neg]
  intro e
  have := congrArg (fun z : BitVec 32 => z.getLsbD 0) e
  simp only [BitVec.getLsbD_and, h] at this
  exact absurd this (by decide)
theorem bits_shift : ∀ (k : Nat) (x : BitVec 32), (∀ i, i < k → x.getLsbD i = false) → bits k x = x >>> k
  | 0, x, _ => by simp [bits]
  | k + 1, x, h => by
    rw [bits, bit_even x (h 0 (by omega)), bits_shift k (x >>> 1) (fun i hi => by rw [BitVec.getLsbD_ushiftRight]; exact h _ (by omega)), Nat.add_comm k 1, BitVec.shiftRight_add]
theorem nib_bits (x : BitVec 32) : nib x = bits 4 x := by
  have h0 : x = (x &&& 15#32) ^^^ (x &&& 4294967280#32) := by
    apply BitVec.eq_of_getLsbD_eq
    intro i hi
    have := congrArg (fun z : BitVec 32 => z.getLsbD i) (show (15#32 ^^^ 4294967280#32) = BitVec.allOnes 32 from by decide)
    simp only [BitVec.getLsbD_xor, BitVec.getLsbD_allOnes, hi] at this
    rw [BitVec.getLsbD_xor, BitVec.getLsbD_and, BitVec.getLsbD_and, ← Bool.and_xor_distrib_left, this]; simp
  have hb : ∀ i, (4294967280#32).getLsbD i = (decide (4 ≤ i) && decide (i < 32)) := by
    intro i
    by_cases hi : i < 32
    · have : ∀ j : Fin 32, (4294967280#32).getLsbD j.1 = (decide (4 ≤ j.1) && decide (j.1 < 32)) := by decide
      exact this ⟨i, hi⟩
    · rw [BitVec.getLsbD_of_ge _ _ (by omega)]; simp [hi]
  have h1 : bits 4 (x &&& 4294967280#32) = x >>> 4 := by
    rw [bits_shift]
    · apply BitVec.eq_of_getLsbD_eq
      intro i hi
      rw [BitVec.getLsbD_ushiftRight, BitVec.getLsbD_ushiftRight, BitVec.getLsbD_and, hb]
      by_cases h : 4 + i < 32
      · simp [h]
      · rw [BitVec.getLsbD_of_ge x _ (by omega)]; simp
    · intro i hi
      rw [BitVec.getLsbD_and, hb]; simp [show ¬ 4 ≤ i by omega]
  have h2 : tab (x &&& 15#32).toNat = bits 4 (x &&& 15#32) := by unfold tab; rw [BitVec.ofNat_toNat, BitVec.setWidth_eq]
  unfold nib
  rw [h2, ← h1, ← bits_xor, ← h0]
theorem byteStep_bits (x : BitVec 32) (c : UInt8) : byteStep x c = bits 8 (x ^^^ c.toBitVec.setWidth 32) := by
  unfold byteStep
  rw [nib_bits, nib_bits, ← bits_add]

theorem bit_inj {x y : BitVec 32} (h : bit x = bit y) : x = y := by
  have h1 : bit (x ^^^ y) = 0#32 := by rw [bit_xor, h, BitVec.xor_self]
  generalize hz : x ^^^ y = z at h1
  have hz0 : z = 0#32 := by
    unfold bit at h1
    split at h1
    · rename_i ho
      have := congrArg (fun u : BitVec 32 => u.getLsbD 31) h1
      rw [BitVec.getLsbD_xor, BitVec.getLsbD_ushiftRight, BitVec.getLsbD_of_ge z _ (by omega)] at this
      exact absurd this (by decide)
    · rename_i ho
      apply BitVec.eq_of_getLsbD_eq
      intro i hi
      cases i with
      | zero =>
        cases hb : z.getLsbD 0 with
        | false => simp
        | true =>
          refine absurd ?_ ho
          apply BitVec.eq_of_getLsbD_eq
          intro j hj
          rw [BitVec.getLsbD_and]
          cases j with
          | zero => rw [hb]; rfl
          | succ j =>
            have : (1#32).getLsbD (j + 1) = false := one32 (by omega)
            rw [this, Bool.and_false]
      | succ i =>
        have := congrArg (fun u : BitVec 32 => u.getLsbD i) h1
        rw [BitVec.getLsbD_ushiftRight, Nat.add_comm 1 i] at this
        rw [this]; simp
  have : x ^^^ y ^^^ y = y := by rw [hz, hz0, BitVec.zero_xor]
  rwa [BitVec.xor_assoc, BitVec.xor_self, BitVec.xor_zero] at this
theorem bits_inj : ∀ (k : Nat) {x y : BitVec 32}, bits k x = bits k y → x = y
  | 0, _, _, h => h
  | k + 1, _, _, h => bit_inj (bits_inj k h)


theorem byteStep_injL {x y : BitVec 32} {c : UInt8} (h : byteStep x c = byteStep y c) : x = y := by
  rw [byteStep_bits, byteStep_bits] at h
  have h2 := congrArg (fun z => z ^^^ c.toBitVec.setWidth 32) (bits_inj 8 h)
  rwa [BitVec.xor_assoc, BitVec.xor_self, BitVec.xor_zero, BitVec.xor_assoc, BitVec.xor_self, BitVec.xor_zero] at h2
theorem byteStep_injR {x : BitVec 32} {c d : UInt8} (h : byteStep x c = byteStep x d) : c = d := by
  rw [byteStep_bits, byteStep_bits] at h
  have h2 := congrArg (fun z => x ^^^ z) (bits_inj 8 h)
  rw [← BitVec.xor_assoc, BitVec.xor_self, BitVec.zero_xor, ← BitVec.xor_assoc, BitVec.xor_self, BitVec.zero_xor] at h2
  have h3 := congrArg BitVec.toNat h2
  rw [BitVec.toNat_setWidth, BitVec.toNat_setWidth] at h3
  have h4 : c.toBitVec.toNat = c.toNat := rfl
  have h5 : d.toBitVec.toNat = d.toNat := rfl
  have h6 := c.toNat_lt
  have h7 := d.toNat_lt
  exact UInt8.toNat_inj.1 (by omega)
theorem fold_inj : ∀ (l : List UInt8) {x y : BitVec 32}, l.foldl byteStep x = l.foldl byteStep y → x = y
  | [], _, _, h => h
  | _ :: l, _, _, h => byteStep_injL (fold_inj l h)
/-- One byte that is another one is told by the sum. -/
theorem crc_set {l : List UInt8} {k : Nat} {c : UInt8} (hk : k < l.length) (h : crcOf (l.set k c) = crcOf l) : c = l[k] := by
  unfold crcOf crcAdd at h
  have h2 : (l.set k c).foldl byteStep (~~~(0#32)) = l.foldl byteStep (~~~(0#32)) := by
    have := congrArg (fun z : BitVec 32 => ~~~z) h
    simpa using this
  have e1 : l.set k c = l.take k ++ c :: l.drop (k + 1) := by rw [List.set_eq_take_append_cons_drop, if_pos hk]
  have e2 : l = l.take k ++ l[k] :: l.drop (k + 1) := by rw [← List.drop_eq_getElem_cons hk, List.take_append_drop]
  rw [e1] at h2
  conv at h2 => rhs; rw [e2]
  rw [List.foldl_append, List.foldl_append, List.foldl_cons, List.foldl_cons] at h2
  exact byteStep_injR (fold_inj _ h2)
theorem set_self_eq {l : List UInt8} {k : Nat} {c : UInt8} (hk : k < l.length) (h : l.set k c = l) : c = l[k] := by
  have := congrArg (fun z => z[k]?) h
  simp only [List.getElem?_set_self hk, List.getElem?_eq_getElem hk] at this
  exact Option.some.inj this
theorem leB_inj4 {a b : BitVec 32} (h : leB a.toNat 4 = leB b.toNat 4) : a = b := by
  have := congrArg leN h
  rw [leN_leB (by have := a.isLt; omega), leN_leB (by have := b.isLt; omega)] at this
  exact BitVec.eq_of_toNat_eq this
theorem cut_set_ne {b : List UInt8} {a l h : Nat} {c : UInt8} (h1 : a < l ∨ h ≤ a) : cut (b.set a c) l h = cut b l h := by
  unfold cut
  apply List.ext_getElem?
  intro i
  rw [List.getElem?_take, List.getElem?_take]
  split
  · rw [List.getElem?_drop, List.getElem?_drop, List.getElem?_set_ne (by omega)]
  · rfl
theorem cut_set {b : List UInt8} {a l h : Nat} {c : UInt8} (h1 : l ≤ a) (h2 : a < h) : cut (b.set a c) l h = (cut b l h).set (a - l) c := by
  unfold cut
  apply List.ext_getElem?
  intro i
  by_cases hi : i < h - l
  · rw [List.getElem?_take, if_pos hi, List.getElem?_drop]
    by_cases hb : l + i < b.length
    · by_cases e : a = l + i
      · subst e
        rw [List.getElem?_set_self hb, show l + i - l = i by omega, List.getElem?_set_self (by rw [List.length_take, List.length_drop]; omega)]
      · rw [List.getElem?_set_ne e, List.getElem?_set_ne (by omega), List.getElem?_take, if_pos hi, List.getElem?_drop]
    · rw [List.getElem?_eq_none (by rw [List.length_set]; omega), List.getElem?_eq_none (by rw [List.length_set, List.length_take, List.length_drop]; omega)]
  · rw [List.getElem?_eq_none (by rw [List.length_take]; omega), List.getElem?_eq_none (by rw [List.length_set, List.length_take]; omega)]
theorem full_cuts {f g : List UInt8} (hf : f.length = 224) (hg : g.length = 224) (h : ∀ i, i < 4 → cut f (i * 56) ((i + 1) * 56) = cut g (i * 56) ((i + 1) * 56)) : f = g := by
  have k : ∀ i, i ≤ 4 → f.take (i * 56) = g.take (i * 56) := fun i => by
    induction i with
    | zero => intro _; simp
    | succ i ih => intro hi; rw [← take_cut, ← take_cut, ih (by omega), h i (by omega)]
  have := k 4 (Nat.le_refl _)
  rwa [List.take_of_length_le (by omega), List.take_of_length_le (by omega)] at this
/-- A block of which one byte was turned is none any more. -/
theorem flip_none {p : Pt} (hp : p.may) {a : Nat} (ha : a < 256) {c : UInt8} (hc : ∀ h : a < (penc p).length, c ≠ (penc p)[a]) : pdec ((penc p).set a c) = none := by
  cases hd : pdec ((penc p).set a c) with
  | none => rfl
  | some q =>
    exfalso
    obtain ⟨hq, he, _⟩ := pdec_is hd
    have lp := penc_len hp.len.2
    have fp := pfull_len hp.len.2
    have fq := pfull_len hq.len.2
    have tp := ptag_len p
    have tq := ptag_len q
    refine hc (by omega) (set_self_eq (by omega) ?_)
    have hsec : ∀ i, i < 4 → ¬ (i * 64 ≤ a ∧ a < (i + 1) * 64) → cut (pfull q) (i * 56) ((i + 1) * 56) = cut (pfull p) (i * 56) ((i + 1) * 56) ∧ ptag q = ptag p := fun i hi hn => by
      have e1 := penc_sec fq tq hi
      have e2 := penc_sec fp tp hi
      have e3 : cut (penc q) (i * 64) ((i + 1) * 64) = cut (penc p) (i * 64) ((i + 1) * 64) := by rw [he]; exact cut_set_ne (by omega)
      unfold penc at e3
      rw [e1, e2] at e3
      exact List.append_inj e3 (by rw [cutf_len fq hi, cutf_len fp hi])
    have hj : a / 64 < 4 := by omega
    have ht : ptag q = ptag p := by
      by_cases h0 : a / 64 = 0
      · exact (hsec 1 (by decide) (by omega)).2
      · exact (hsec 0 (by decide) (by omega)).2
    have e1 := penc_sec fq tq hj
    have e2 := penc_sec fp tp hj
    have e3 : cut (penc q) (a / 64 * 64) ((a / 64 + 1) * 64) = (cut (penc p) (a / 64 * 64) ((a / 64 + 1) * 64)).set (a - a / 64 * 64) c := by rw [he]; exact cut_set (by omega) (by omega)
    unfold penc at e3
    rw [e1, e2, ht] at e3
    have lq := cutf_len fq hj
    have lc := cutf_len fp hj
    have key : pfull q = pfull p := by
      by_cases ho : a - a / 64 * 64 < 56
      · -- ahead of the tag
        rw [List.set_append_left _ _ (by omega)] at e3
        have e4 := (List.append_inj e3 (by rw [List.length_set, lq, lc])).1
        have hk : a / 64 * 56 + (a - a / 64 * 64) < 224 := by omega
        have hset : pfull q = (pfull p).set (a / 64 * 56 + (a - a / 64 * 64)) c := by
          refine full_cuts fq (by rw [List.length_set, fp]) fun i hi => ?_
          by_cases hij : i = a / 64
          · subst hij
            rw [cut_set (by omega) (by omega), e4]
            congr 1; omega
          · rw [cut_set_ne (by omega)]
            exact (hsec i hi (by omega)).1
        by_cases h220 : a / 64 * 56 + (a - a / 64 * 64) < 220
        · unfold pfull at hset
          have lpin := pin_len hp.len.2
          have lqin := pin_len hq.len.2
          rw [List.set_append_left _ _ (by omega)] at hset
          obtain ⟨g1, g2⟩ := List.append_inj hset (by rw [List.length_set, lpin, lqin])
          have g3 := leB_inj4 g2
          rw [g1] at g3
          have g4 := crc_set (by omega) g3
          have g5 : pin q = pin p := by rw [g1, g4, List.set_getElem_self]
          unfold pfull; rw [g5]
        · unfold pfull at hset
          have lpin := pin_len hp.len.2
          have lqin := pin_len hq.len.2
          rw [List.set_append_right _ _ (by omega)] at hset
          obtain ⟨g1, g2⟩ := List.append_inj hset (by rw [lpin, lqin])
          unfold pfull; rw [g1]
      · -- in the tag
        rw [List.set_append_right _ _ (by omega)] at e3
        have e4 := (List.append_inj e3 (by rw [lq, lc])).1
        refine full_cuts fq fp fun i hi => ?_
        by_cases hij : i = a / 64
        · subst hij; exact e4
        · exact (hsec i hi (by omega)).1
    rw [← he]
    unfold penc
    rw [key, ht]

end Go.Hp
