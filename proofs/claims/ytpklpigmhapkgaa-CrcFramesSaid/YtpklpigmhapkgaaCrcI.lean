import Derived.Test.YtpklpigmhapkgaaCrcH
set_option linter.unusedVariables false
set_option linter.unusedSimpArgs false
namespace Go.Hp
open Go Go.Proofs

theorem word_four (x : BitVec 32) (l : List UInt8) : word (four x ++ l) = x := by
  have e : word (four x ++ l) = (x.setWidth 8).setWidth 32 ||| ((x >>> 8).setWidth 8).setWidth 32 <<< 8 ||| ((x >>> 16).setWidth 8).setWidth 32 <<< 16 ||| ((x >>> 24).setWidth 8).setWidth 32 <<< 24 := rfl
  rw [e]
  apply BitVec.eq_of_getLsbD_eq
  intro i hi
  simp only [BitVec.getLsbD_or, BitVec.getLsbD_shiftLeft, BitVec.getLsbD_setWidth, BitVec.getLsbD_ushiftRight]
  by_cases h1 : i < 8
  · simp [h1, hi, show i < 16 by omega, show i < 24 by omega]
  by_cases h2 : i < 16
  · simp [h1, hi, h2, show i < 24 by omega, show i - 8 < 8 by omega, show i - 8 < 32 by omega, show 8 + (i - 8) = i by omega]
  by_cases h3 : i < 24
  · simp [h1, hi, h2, h3, show ¬ i - 8 < 8 by omega, show i - 16 < 8 by omega, show i - 16 < 32 by omega, show 16 + (i - 16) = i by omega]
  · simp [h1, hi, h2, h3, show ¬ i - 8 < 8 by omega, show ¬ i - 16 < 8 by omega, show i - 24 < 8 by omega, show i - 24 < 32 by omega, show 24 + (i - 24) = i by omega]
theorem crc_joins (a b : List UInt8) : crcAdd (crcOf a) b = crcOf (a ++ b) := by
  unfold crcOf crcAdd
  rw [BitVec.not_not, List.foldl_append]
theorem crc_joins0 (a : List UInt8) : crcAdd (crcOf a) [] = crcOf a := by rw [crc_joins, List.append_nil]
theorem frame_len (a : List UInt8) : (frame a).length = a.length + 8 := by simp [frame, four]
theorem unframe_frame (a r : List UInt8) (h : a.length < 4294967296) : unframe (frame a ++ r) a.length = (a, r, 0) := by
  have e0 : frame a ++ r = four (BitVec.ofNat 32 a.length) ++ (four (crcAdd (crcOf (four (BitVec.ofNat 32 a.length))) a) ++ (a ++ r)) := by simp [frame]
  have hw : (word (frame a ++ r)).toNat = a.length := by
    rw [e0, word_four, BitVec.toNat_ofNat]; exact Nat.mod_eq_of_lt (by omega)
  have hl : (frame a ++ r).length = a.length + 8 + r.length := by rw [List.length_append, frame_len]
  have d4 : (frame a ++ r).drop 4 = four (crcAdd (crcOf (four (BitVec.ofNat 32 a.length))) a) ++ (a ++ r) := by rw [e0]; rfl
  have t4 : (frame a ++ r).take 4 = four (BitVec.ofNat 32 a.length) := by rw [e0]; rfl
  have d8 : (frame a ++ r).drop 8 = a ++ r := by rw [e0]; rfl
  unfold unframe
  rw [hw, d4, t4, d8, word_four, List.take_left', if_neg (by omega), if_neg (by omega), if_neg (by omega), if_neg (fun h => h rfl)]
  · have : (frame a ++ r).drop (8 + a.length) = r := by rw [← List.drop_drop, d8, List.drop_left']; rfl
    rw [this]
  · rfl

end Go.Hp
