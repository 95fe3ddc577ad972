import Derived.Test.YtpklpigmhapkgaaCrcG
set_option linter.unusedVariables false
set_option linter.unusedSimpArgs false
namespace Go.Hp
open Go Go.Proofs

theorem one32 {i : Nat} (h : i ≠ 0) : (1#32).getLsbD i = false := by
  by_cases hi : i < 32
  · have : ∀ j : Fin 32, j.1 ≠ 0 → (1#32).getLsbD j.1 = false := by decide
    exact this ⟨i, hi⟩ h
  · exact BitVec.getLsbD_of_ge _ _ (by omega)
theorem bit_xor (x y : BitVec 32) : bit (x ^^^ y) = bit x ^^^ bit y := by
  have hs : (x ^^^ y) >>> 1 = (x >>> 1) ^^^ (y >>> 1) := by rw [BitVec.ushiftRight_xor_distrib]
  have key : ∀ z : BitVec 32, z &&& 1#32 = if z.getLsbD 0 then 1#32 else 0#32 := by
    intro z
    apply BitVec.eq_of_getLsbD_eq
    intro i hi
    rw [BitVec.getLsbD_and]
    by_cases h0 : i = 0
    · subst h0; cases z.getLsbD 0 <;> simp
    · have : (1#32).getLsbD i = false := one32 h0
      rw [this, Bool.and_false]
      cases z.getLsbD 0 <;> simp [this]
  unfold bit
  rw [key, key, key, BitVec.getLsbD_xor, hs]
  cases x.getLsbD 0 <;> cases y.getLsbD 0 <;> simp
  · ac_rfl
  · ac_rfl
  · generalize x >>> 1 = p; generalize y >>> 1 = q
    rw [show p ^^^ 2197175160#32 ^^^ (q ^^^ 2197175160#32) = p ^^^ q ^^^ (2197175160#32 ^^^ 2197175160#32) from by ac_rfl, BitVec.xor_self, BitVec.xor_zero]
theorem bit_0 : bit 0#32 = 0#32 := by decide
theorem bits_xor : ∀ (k : Nat) (x y : BitVec 32), bits k (x ^^^ y) = bits k x ^^^ bits k y
  | 0, _, _ => rfl
  | k + 1, x, y => by rw [bits, bits, bits, bit_xor, bits_xor k]
theorem bits_0 : ∀ k : Nat, bits k 0#32 = 0#32
  | 0 => rfl
  | k + 1 => by rw [bits, bit_0, bits_0 k]
theorem bits_add : ∀ (j k : Nat) (x : BitVec 32), bits (j + k) x = bits k (bits j x)
  | 0, k, x => by rw [Nat.zero_add]; rfl
  | j + 1, k, x => by rw [show j + 1 + k = (j + k) + 1 by omega, bits, bits, bits_add j k]
/-- Where the low bit is nought, a step shifts. -/
theorem bit_even (x : BitVec 32) (h : x.getLsbD 0 = false) : bit x = x >>> 1 := by
  unfold bit
  rw [if_neg]
  intro e
  have := congrArg (fun z : BitVec 32 => z.getLsbD 0) e
  simp only [BitVec.getLsbD_and, h] at this
  exact absurd this (by decide)
theorem bits_shift : ∀ (k : Nat) (x : BitVec 32), (∀ i, i < k → x.getLsbD i = false) → bits k x = x >>> k
  | 0, x, _ => by simp [bits]
  | k + 1, x, h => by
    rw [bits, bit_even x (h 0 (by omega)), bits_shift k (x >>> 1) (fun i hi => by rw [BitVec.getLsbD_ushiftRight]; exact h _ (by omega)), Nat.add_comm k 1, BitVec.shiftRight_add]
theorem nib_bits (x : BitVec 32) : nib x = bits 4 x := by
  have h0 : x = (x &&& 15#32) ^^^ (x &&& 4294967280#32) := by
    apply BitVec.eq_of_getLsbD_eq
    intro i hi
    have := congrArg (fun z : BitVec 32 => z.getLsbD i) (show (15#32 ^^^ 4294967280#32) = BitVec.allOnes 32 from by decide)
    simp only [BitVec.getLsbD_xor, BitVec.getLsbD_allOnes, hi] at this
    rw [BitVec.getLsbD_xor, BitVec.getLsbD_and, BitVec.getLsbD_and, ← Bool.and_xor_distrib_left, this]; simp
  have hb : ∀ i, (4294967280#32).getLsbD i = (decide (4 ≤ i) && decide (i < 32)) := by
    intro i
    by_cases hi : i < 32
    · have : ∀ j : Fin 32, (4294967280#32).getLsbD j.1 = (decide (4 ≤ j.1) && decide (j.1 < 32)) := by decide
      exact this ⟨i, hi⟩
    · rw [BitVec.getLsbD_of_ge _ _ (by omega)]; simp [hi]
  have h1 : bits 4 (x &&& 4294967280#32) = x >>> 4 := by
    rw [bits_shift]
    · apply BitVec.eq_of_getLsbD_eq
      intro i hi
      rw [BitVec.getLsbD_ushiftRight, BitVec.getLsbD_ushiftRight, BitVec.getLsbD_and, hb]
      by_cases h : 4 + i < 32
      · simp [h]
      · rw [BitVec.getLsbD_of_ge x _ (by omega)]; simp
    · intro i hi
      rw [BitVec.getLsbD_and, hb]; simp [show ¬ 4 ≤ i by omega]
  have h2 : tab (x &&& 15#32).toNat = bits 4 (x &&& 15#32) := by unfold tab; rw [BitVec.ofNat_toNat, BitVec.setWidth_eq]
  unfold nib
  rw [h2, ← h1, ← bits_xor, ← h0]
theorem byteStep_bits (x : BitVec 32) (c : UInt8) : byteStep x c = bits 8 (x ^^^ c.toBitVec.setWidth 32) := by
  unfold byteStep
  rw [nib_bits, nib_bits, ← bits_add]
/-! The bits one by one. -/
def stepB (x : BitVec 32) (d : Bool) : BitVec 32 := bit (x ^^^ (if d then 1#32 else 0#32))
def bitL (c : UInt8) : List Bool := (List.range 8).map fun i => c.toBitVec.getLsbD i
def bitsL (l : List UInt8) : List Bool := l.flatMap bitL
def num : List Bool → BitVec 32
  | [] => 0#32
  | d :: ds => (if d then 1#32 else 0#32) ^^^ (num ds <<< 1)
theorem num_hi : ∀ (ds : List Bool) (i : Nat), ds.length ≤ i → (num ds).getLsbD i = false
  | [], i, _ => by simp [num]
  | d :: ds, i, h => by
    simp only [List.length_cons] at h
    rw [num, BitVec.getLsbD_xor, BitVec.getLsbD_shiftLeft, num_hi ds (i - 1) (by omega), Bool.and_false, Bool.xor_false]
    cases d
    · simp
    · have : (1#32).getLsbD i = false := one32 (by omega)
      simp only [if_true, this]
theorem bit_shl (y : BitVec 32) (h : y.getLsbD 31 = false) : bit (y <<< 1) = y := by
  rw [bit_even _ (by rw [BitVec.getLsbD_shiftLeft]; simp)]
  apply BitVec.eq_of_getLsbD_eq
  intro i hi
  rw [BitVec.getLsbD_ushiftRight, BitVec.getLsbD_shiftLeft]
  by_cases h2 : i = 31
  · subst h2; rw [h]; decide
  · have : 1 + i < 32 := by omega
    simp [this, show ¬ 1 + i < 1 by omega]
theorem fold_num : ∀ (ds : List Bool) (x : BitVec 32), ds.length ≤ 32 → ds.foldl stepB x = bits ds.length (x ^^^ num ds)
  | [], x, _ => by simp [num, bits]
  | d :: ds, x, h => by
    simp only [List.length_cons] at h ⊢
    rw [List.foldl_cons, fold_num ds _ (by omega), bits, num]
    congr 1
    unfold stepB
    rw [show x ^^^ ((if d then 1#32 else 0#32) ^^^ num ds <<< 1) = (x ^^^ (if d then 1#32 else 0#32)) ^^^ num ds <<< 1 from by ac_rfl, bit_xor (x ^^^ _) (num ds <<< 1), bit_shl _ (num_hi ds 31 (by omega))]
theorem bit_inj {x y : BitVec 32} (h : bit x = bit y) : x = y := by
  have h1 : bit (x ^^^ y) = 0#32 := by rw [bit_xor, h, BitVec.xor_self]
  generalize hz : x ^^^ y = z at h1
  have hz0 : z = 0#32 := by
    unfold bit at h1
    split at h1
    · rename_i ho
      have := congrArg (fun u : BitVec 32 => u.getLsbD 31) h1
      rw [BitVec.getLsbD_xor, BitVec.getLsbD_ushiftRight, BitVec.getLsbD_of_ge z _ (by omega)] at this
      exact absurd this (by decide)
    · rename_i ho
      apply BitVec.eq_of_getLsbD_eq
      intro i hi
      cases i with
      | zero =>
        cases hb : z.getLsbD 0 with
        | false => simp
        | true =>
          refine absurd ?_ ho
          apply BitVec.eq_of_getLsbD_eq
          intro j hj
          rw [BitVec.getLsbD_and]
          cases j with
          | zero => rw [hb]; rfl
          | succ j =>
            have : (1#32).getLsbD (j + 1) = false := one32 (by omega)
            rw [this, Bool.and_false]
      | succ i =>
        have := congrArg (fun u : BitVec 32 => u.getLsbD i) h1
        rw [BitVec.getLsbD_ushiftRight, Nat.add_comm 1 i] at this
        rw [this]; simp
  have : x ^^^ y ^^^ y = y := by rw [hz, hz0, BitVec.zero_xor]
  rwa [BitVec.xor_assoc, BitVec.xor_self, BitVec.xor_zero] at this
theorem bits_inj : ∀ (k : Nat) {x y : BitVec 32}, bits k x = bits k y → x = y
  | 0, _, _, h => h
  | k + 1, _, _, h => bit_inj (bits_inj k h)
theorem stepB_inj {x y : BitVec 32} {d : Bool} (h : stepB x d = stepB y d) : x = y := by
  have := bit_inj h
  have h2 := congrArg (fun z => z ^^^ (if d then 1#32 else 0#32)) this
  rwa [BitVec.xor_assoc, BitVec.xor_self, BitVec.xor_zero, BitVec.xor_assoc, BitVec.xor_self, BitVec.xor_zero] at h2
theorem foldB_inj : ∀ (ds : List Bool) {x y : BitVec 32}, ds.foldl stepB x = ds.foldl stepB y → x = y
  | [], _, _, h => h
  | _ :: ds, _, _, h => stepB_inj (foldB_inj ds h)
theorem num_at : ∀ (ds : List Bool) (i : Nat) (h : i < ds.length), ds.length ≤ 32 → (num ds).getLsbD i = ds[i]
  | d :: ds, 0, _, _ => by
    rw [num, BitVec.getLsbD_xor, BitVec.getLsbD_shiftLeft]
    cases d <;> simp
  | d :: ds, i + 1, h, hl => by
    simp only [List.length_cons] at h hl
    rw [num, BitVec.getLsbD_xor, BitVec.getLsbD_shiftLeft, List.getElem_cons_succ, ← num_at ds i (by omega) (by omega)]
    have : (1#32).getLsbD (i + 1) = false := one32 (by omega)
    cases d <;> simp [this, show i + 1 < 32 by omega]
theorem num_inj {ds es : List Bool} (hl : ds.length = es.length) (h : ds.length ≤ 32) (he : num ds = num es) : ds = es :=
  List.ext_getElem hl fun i h1 h2 => by rw [← num_at ds i h1 h, ← num_at es i h2 (by omega), he]
/-- A byte's bits. -/
theorem num_bitL (c : UInt8) : num (bitL c) = c.toBitVec.setWidth 32 := by
  apply BitVec.eq_of_getLsbD_eq
  intro i hi
  rw [BitVec.getLsbD_setWidth]
  by_cases h8 : i < 8
  · rw [num_at _ i (by simp [bitL, h8]) (by simp [bitL])]
    simp [bitL, hi]
  · rw [num_hi _ _ (by simp [bitL]; omega), BitVec.getLsbD_of_ge _ _ (by omega)]; simp
theorem byteStep_fold (x : BitVec 32) (c : UInt8) : byteStep x c = (bitL c).foldl stepB x := by
  rw [byteStep_bits, fold_num _ _ (by simp [bitL]), num_bitL]; simp [bitL]
theorem fold_bits : ∀ (l : List UInt8) (x : BitVec 32), l.foldl byteStep x = (bitsL l).foldl stepB x
  | [], _ => rfl
  | c :: l, x => by rw [List.foldl_cons, fold_bits l, show bitsL (c :: l) = bitL c ++ bitsL l from rfl, List.foldl_append, ← byteStep_fold]
/-- Two texts of one length that are told apart by bits within 32 alone have different sums. -/
theorem burst_fold {ds es : List Bool} (hl : ds.length = es.length) (p : Nat) (h1 : ds.take p = es.take p) (h2 : ds.drop (p + 32) = es.drop (p + 32)) (hne : ds ≠ es) (x : BitVec 32) : ds.foldl stepB x ≠ es.foldl stepB x := by
  intro he
  apply hne
  have sp : ∀ l : List Bool, l = l.take p ++ ((l.drop p).take 32 ++ l.drop (p + 32)) := fun l => by
    rw [← List.drop_drop, List.take_append_drop, List.take_append_drop]
  rw [sp ds, sp es] at he ⊢
  rw [h1, h2] at he ⊢
  simp only [List.foldl_append] at he
  have e2 := foldB_inj _ he
  have ll : ((ds.drop p).take 32).length = ((es.drop p).take 32).length := by simp [hl]
  have l32 : ((ds.drop p).take 32).length ≤ 32 := by simp; omega
  generalize (es.take p).foldl stepB x = y at e2
  rw [fold_num ((ds.drop p).take 32) _ l32, fold_num ((es.drop p).take 32) _ (by omega), ← ll] at e2
  have e3 := bits_inj _ e2
  have e4 := congrArg (fun z => y ^^^ z) e3
  simp only [← BitVec.xor_assoc, BitVec.xor_self, BitVec.zero_xor] at e4
  rw [num_inj ll l32 e4]

end Go.Hp
