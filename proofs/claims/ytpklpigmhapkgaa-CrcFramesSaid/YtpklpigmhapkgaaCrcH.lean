import Derived.Test.YtpklpigmhapkgaaCrcG
set_option linter.unusedVariables false
set_option linter.unusedSimpArgs false
namespace Go.Hp
open Go Go.Proofs

theorem nib_tab : ∀ i j : Fin 16, tab (i.1 ^^^ j.1) = tab i.1 ^^^ tab j.1 := by decide +kernel
theorem nib_xor (x y : BitVec 32) : nib (x ^^^ y) = nib x ^^^ nib y := by
  have h1 : ((x ^^^ y) &&& 15#32).toNat = (x &&& 15#32).toNat ^^^ (y &&& 15#32).toNat := by
    rw [← BitVec.toNat_xor]; congr 1; ext i; simp only [BitVec.getElem_and, BitVec.getElem_xor]; rw [Bool.and_xor_distrib_right]
  have h2 := nib_tab ⟨_, and15 x⟩ ⟨_, and15 y⟩
  simp only at h2
  unfold nib
  rw [h1, h2, BitVec.ushiftRight_xor_distrib]
  ac_rfl
def xorB (c d : UInt8) : UInt8 := ⟨c.toBitVec ^^^ d.toBitVec⟩
theorem byteStep_xor (x y : BitVec 32) (c d : UInt8) : byteStep (x ^^^ y) (xorB c d) = byteStep x c ^^^ byteStep y d := by
  have e : (x ^^^ y) ^^^ (xorB c d).toBitVec.setWidth 32 = (x ^^^ c.toBitVec.setWidth 32) ^^^ (y ^^^ d.toBitVec.setWidth 32) := by
    have : (xorB c d).toBitVec.setWidth 32 = c.toBitVec.setWidth 32 ^^^ d.toBitVec.setWidth 32 := by
      show (c.toBitVec ^^^ d.toBitVec).setWidth 32 = _
      rw [BitVec.setWidth_xor]
    rw [this]; ac_rfl
  unfold byteStep
  rw [e, nib_xor, nib_xor]
theorem fold_xor : ∀ (a b : List UInt8) (x y : BitVec 32), a.length = b.length → (List.zipWith xorB a b).foldl byteStep (x ^^^ y) = a.foldl byteStep x ^^^ b.foldl byteStep y
  | [], [], x, y, _ => rfl
  | c :: a, d :: b, x, y, h => by
    rw [List.zipWith_cons_cons, List.foldl_cons, List.foldl_cons, List.foldl_cons, byteStep_xor]
    exact fold_xor a b _ _ (by simpa using h)
theorem xorB_0 (c : UInt8) : xorB c 0 = c := by
  show (⟨c.toBitVec ^^^ 0#8⟩ : UInt8) = c
  rw [BitVec.xor_zero]
theorem zip_0 : ∀ (a : List UInt8), List.zipWith xorB a (List.replicate a.length 0) = a
  | [] => rfl
  | c :: a => by rw [List.length_cons, List.replicate_succ, List.zipWith_cons_cons, xorB_0, zip_0 a]
theorem crc_turns (a b : List UInt8) (h : a.length = b.length) : crcOf (List.zipWith xorB a b) = crcOf a ^^^ crcOf b ^^^ crcOf (List.replicate a.length 0) := by
  have h1 := fold_xor a b (BitVec.allOnes 32) 0#32 h
  have h2 := fold_xor b (List.replicate b.length 0) 0#32 (BitVec.allOnes 32) (by simp)
  have h3 := fold_xor (List.replicate b.length 0) (List.replicate b.length 0) (BitVec.allOnes 32) (BitVec.allOnes 32) rfl
  have h4 := fold_xor b (List.replicate b.length 0) (BitVec.allOnes 32) 0#32 (by simp)
  rw [zip_0] at h2 h4
  rw [BitVec.xor_zero] at h1 h4
  rw [BitVec.zero_xor] at h2
  have hz : (List.replicate b.length (0 : UInt8)).foldl byteStep 0#32 = 0#32 := by
    generalize b.length = k
    induction k with
    | zero => rfl
    | succ k ih => rw [List.replicate_succ, List.foldl_cons, show byteStep 0#32 0 = 0#32 from by decide]; exact ih
  unfold crcOf crcAdd
  rw [show (~~~(0#32) : BitVec 32) = BitVec.allOnes 32 from by decide, h1, h, h2]
  generalize a.foldl byteStep (BitVec.allOnes 32) = p
  generalize b.foldl byteStep 0#32 = q at *
  generalize b.foldl byteStep (BitVec.allOnes 32) = r at *
  generalize (List.replicate b.length (0 : UInt8)).foldl byteStep (BitVec.allOnes 32) = t at *
  subst h2
  ext i
  simp only [BitVec.getElem_not, BitVec.getElem_xor]
  cases p[i] <;> cases q[i] <;> cases t[i] <;> rfl

end Go.Hp
