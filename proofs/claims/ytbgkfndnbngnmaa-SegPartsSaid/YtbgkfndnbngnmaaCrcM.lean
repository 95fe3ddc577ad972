import Derived.Test.YtbgkfndnbngnmaaHpBits
import Derived.Test.YtbgkfndnbngnmaaTy
set_option linter.unusedVariables false
set_option linter.unusedSimpArgs false
namespace Go.Hp
open Go Go.Proofs

/-- One bit of a sum, one half of a byte, a byte. -/
def bit (x : BitVec 32) : BitVec 32 := if x &&& 1#32 = 1#32 then (x >>> 1) ^^^ 2197175160#32 else x >>> 1
def bits : Nat → BitVec 32 → BitVec 32
  | 0, x => x
  | k + 1, x => bits k (bit x)
def tab (i : Nat) : BitVec 32 := bits 4 (BitVec.ofNat 32 i)
def tabs : List (BitVec 32) := (List.range 16).map tab
def nib (x : BitVec 32) : BitVec 32 := tab (x &&& 15#32).toNat ^^^ (x >>> 4)
def byteStep (x : BitVec 32) (c : UInt8) : BitVec 32 := nib (nib (x ^^^ c.toBitVec.setWidth 32))
def crcAdd (s : BitVec 32) (b : List UInt8) : BitVec 32 := ~~~(b.foldl byteStep (~~~s))
def crcOf (b : List UInt8) : BitVec 32 := crcAdd 0#32 b
def u32s (l : List (BitVec 32)) : List Value := l.map fun x => .int .u32 (x.toNat : Int)
theorem bits_succ (k : Nat) (x : BitVec 32) : bits (k + 1) x = bit (bits k x) := by
  induction k generalizing x with
  | zero => rfl
  | succ k ih => rw [bits, ih]; rfl
theorem u32_inj {x y : BitVec 32} (h : (x.toNat : Int) = (y.toNat : Int)) : x = y := BitVec.eq_of_toNat_eq (by omega)
theorem tabs_at {i : Nat} (h : i < 16) : (u32s tabs)[0 + i * 1]? = some (.int .u32 ((tab i).toNat : Int)) := by
  simp [u32s, tabs, h]
theorem and15 (x : BitVec 32) : (x &&& 15#32).toNat < 16 := by
  rw [BitVec.toNat_and]
  exact Nat.lt_of_le_of_lt Nat.and_le_right (by decide)
theorem u32s_len (l : List (BitVec 32)) : (u32s l).length = l.length := List.length_map _
theorem u32s_one (l : List (BitVec 32)) : (u32s l).all (·.oneCell') = true := by simp [u32s, List.all_eq_true, Value.oneCell']
theorem u32_0 (n : Nat) : List.replicate n (Value.int .u32 0) = u32s (List.replicate n 0#32) := by simp [u32s]
/-- The table up to i. -/
def part (i : Nat) : List (BitVec 32) := (List.range i).map tab ++ List.replicate (16 - i) 0#32
theorem part_len {i : Nat} (h : i ≤ 16) : (part i).length = 16 := by simp [part]; omega
theorem part_set {i : Nat} (h : i < 16) : SetAt (u32s (part i)) (0 + i * 1) (.int .u32 ((tab i).toNat : Int)) (u32s (part (i + 1))) := by
  have hs := SetAt.sym (l := u32s (part i)) (k := 0 + i * 1) (v := .int .u32 ((tab i).toNat : Int)) (by rw [u32s_len, part_len (by omega)]; omega)
  have e : (u32s (part i)).set (0 + i * 1) (.int .u32 ((tab i).toNat : Int)) = u32s (part (i + 1)) := by
    rw [Nat.zero_add, Nat.mul_one, u32s, ← List.map_set, u32s]
    congr 1
    unfold part
    rw [List.range_succ, List.map_append, List.set_append_right _ _ (by simp)]
    rw [show 16 - i = (16 - (i + 1)) + 1 by omega, List.replicate_succ]
    simp
  rwa [e] at hs
theorem part_16 : part 16 = tabs := rfl
theorem part_0 : u32s (part 0) = [.int .u32 0, .int .u32 0, .int .u32 0, .int .u32 0, .int .u32 0, .int .u32 0, .int .u32 0, .int .u32 0, .int .u32 0, .int .u32 0, .int .u32 0, .int .u32 0, .int .u32 0, .int .u32 0, .int .u32 0, .int .u32 0] := rfl

end Go.Hp
