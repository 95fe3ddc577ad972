import Derived.Test.YtoplcafnmghifaaDiskJ
set_option linter.unusedVariables false
set_option linter.unusedSimpArgs false
namespace Go.Hp
open Go Go.Proofs

theorem IsDisk.isok {d n : Nat} {x : Dk} {L : Chunks} (h : IsDisk d n x L) : x.ok n := by cases h with | mk ok _ => exact ok
theorem sync_TW {x : Dk} (ho : x.off = false) (hl : x.left = -1) : TW x.now x.sync [] ∧ x.sync.waits.length = 0 := by
  have e : x.sync = { x with plat := x.now, waits := [], syncs := IntKind.i64.wrap (x.syncs + 1) } := by simp [Dk.sync, ho]
  rw [e]
  exact ⟨⟨ho, hl, rfl, rfl, by simp⟩, rfl⟩
structure TX0 where
  i : Nat
  x : Dk
  Ld : Chunks
structure TX0.ok (d m : Nat) (t : TX0) : Prop where
  le : t.i ≤ m
  hd : IsDisk d 8 t.x t.Ld
  off : t.x.off = false
  left : t.x.left = -1
  wl : t.x.waits.length ≤ 8 * t.i
structure TX where
  i : Nat
  x : Dk
  ks : List KOp
  vk : Value
  Ld : Chunks
  Lk : Chunks
structure TX.ok (I : Imm) (base : List UInt8) (d m : Nat) (t : TX) : Prop where
  le : t.i ≤ m
  hd : IsDisk d 8 t.x t.Ld
  tw : TW base t.x t.ks
  ow : Own 53 5 t.vk (kcells t.ks) t.ks.length t.Lk
  kl : t.ks.length ≤ t.i
  wl : t.x.waits.length ≤ 8 * t.i
  rd : ∀ k ∈ t.ks, SlRd (Im I) k.vb k.o.b.length 1 (bytesV k.o.b)
structure BX where
  i : Nat
  p : Bool
  q : Bool
structure BX.ok (st : List Int) (m : Nat) (t : BX) : Prop where
  l1 : t.i ≤ st.length
  l2 : t.i ≤ m
  hp : t.p = true → m ≤ st.length ∧ ∀ j (h : j < st.length), j < t.i → 64 ≤ st[j]
  hq : t.q = true → ∀ j (h : j < st.length), j < t.i → st[j] ≤ 0
structure GX where
  i : Nat
  g : Bool
structure GX.ok (k : Nat) (a b : UInt8) (ks : List KOp) (t : GX) : Prop where
  le : t.i ≤ ks.length
  hg : t.g = true ∨ (¬ a = b ∧ ∀ j (h : j < ks.length), j < t.i → ¬ hit k a ks[j])
theorem byte_eq {a b : UInt8} (h : (a.toNat : Int) = (b.toNat : Int)) : a = b := UInt8.toNat_inj.1 (by omega)

end Go.Hp
