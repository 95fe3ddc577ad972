import Derived.Test.YtbgkfndnbngnmaaDiskC
set_option linter.unusedVariables false
set_option linter.unusedSimpArgs false
namespace Go.Hp
open Go Go.Proofs

def keepN (k : Int) : Nat := if 64 ≤ k then 64 else if k ≤ 0 then 0 else k.toNat
theorem keepN_le (k : Int) : keepN k ≤ 64 := by unfold keepN; split <;> (try split) <;> omega
def torn (p : List UInt8) (e : Nat × List UInt8) (k : Int) : List UInt8 := p.take (e.1 * 64) ++ e.2.take (keepN k) ++ p.drop (e.1 * 64 + keepN k)
def tear : List UInt8 → List (Nat × List UInt8) → List Int → List UInt8
  | p, [], _ => p
  | p, e :: es, ks => tear (torn p e (ks.headD 0)) es ks.tail
theorem torn_len {n : Nat} {p : List UInt8} {e : Nat × List UInt8} {k : Int} (hp : p.length = n * 64) (he : e.1 < n ∧ e.2.length = 64) : (torn p e k).length = n * 64 := by
  have := keepN_le k
  obtain ⟨h1, h2⟩ := he
  simp only [torn, List.length_append, List.length_take, List.length_drop, hp, h2]
  omega
theorem tear_len {n : Nat} : ∀ (l : List (Nat × List UInt8)) (h : ∀ e ∈ l, e.1 < n ∧ e.2.length = 64) (p : List UInt8) (ks : List Int), p.length = n * 64 → (tear p l ks).length = n * 64
  | [], _, _, _, hp => hp
  | e :: l, h, p, ks, hp => tear_len l (fun x hx => h x (by simp [hx])) _ _ (torn_len hp (h e (by simp)))
def Dk.up (x : Dk) (ks : List Int) : Dk := { plat := tear x.plat x.waits ks, now := tear x.plat x.waits ks, waits := [], left := -1, off := false, writes := x.writes, syncs := x.syncs }
theorem Dk.up_ok {n : Nat} {x : Dk} (h : x.ok n) (ks : List Int) : (x.up ks).ok n := ⟨h.n1, h.n2, tear_len _ h.hw _ _ h.lp, tear_len _ h.hw _ _ h.lp, by simp [Dk.up], by simp [Dk.up]⟩
def kept (m : Nat) (ks : List Int) : List Int := ks.take m ++ List.replicate (m - ks.length) 0
theorem kept_len (m : Nat) (ks : List Int) : (kept m ks).length = m := by simp [kept]; omega
theorem kept_at {m : Nat} {ks : List Int} {i : Nat} (h : i < m) : ((kept m ks).map (Value.int .i64))[0 + i * 1]? = some (.int .i64 ((ks.drop i).headD 0)) := by
  rw [Nat.zero_add, Nat.mul_one, List.getElem?_map]
  have : (kept m ks)[i]? = some ((ks.drop i).headD 0) := by
    unfold kept
    by_cases hi : i < ks.length
    · rw [List.getElem?_append_left (by simp; omega), List.getElem?_take, if_pos h, List.headD_eq_head?_getD, List.head?_drop]; simp [hi]
    · rw [List.getElem?_append_right (by simp; omega), List.drop_of_length_le (by omega)]
      simp only [List.length_take, List.headD_nil]
      rw [List.getElem?_replicate, if_pos (by omega)]
  rw [this]; rfl
theorem ints0 (n : Nat) : (List.replicate n (Value.int .i64 0).cells.toList).flatten = (List.replicate n (0 : Int)).map (Value.int .i64) := by
  induction n with
  | zero => rfl
  | succ n ih => rw [List.replicate_succ, List.flatten_cons, ih]; simp [Value.cells, List.replicate_succ]
theorem kept_new (m : Nat) (ks : List Int) : (kept m ks).map (Value.int .i64) = splice ((List.replicate m (0 : Int)).map (Value.int .i64)) 0 ((ks.map (Value.int .i64)).take (Nat.min ks.length m * 1)) := by
  have e : Nat.min ks.length m = min ks.length m := rfl
  simp only [splice, kept, List.take_zero, List.nil_append, Nat.mul_one, e, List.map_append, List.map_take, Nat.zero_add, List.length_take, List.length_map]
  congr 1
  · rcases Nat.le_total ks.length m with h | h
    · rw [Nat.min_eq_left h, List.take_of_length_le (by simpa using h), List.take_of_length_le (by simp)]
    · rw [Nat.min_eq_right h]
  · rw [List.map_replicate, List.map_replicate, List.drop_replicate]
    congr 1; omega
structure UX where
  i : Nat
  p : List UInt8
structure UX.ok (n : Nat) (x : Dk) (ks : List Int) (t : UX) : Prop where
  le : t.i ≤ x.waits.length
  lp : t.p.length = n * 64
  eq : tear t.p (x.waits.drop t.i) (ks.drop t.i) = tear x.plat x.waits ks
theorem UX.next {n : Nat} {x : Dk} {ks : List Int} {i : Nat} {p : List UInt8} (h : (⟨i, p⟩ : UX).ok n x ks) (hx : x.ok n) (hi : i < x.waits.length) : (⟨i + 1, torn p x.waits[i] ((ks.drop i).headD 0)⟩ : UX).ok n x ks := by
  obtain ⟨h1, h2, h3⟩ := h
  simp only at h1 h2 h3
  refine ⟨hi, torn_len h2 (hx.hw _ (List.getElem_mem hi)), ?_⟩
  rw [← h3, List.drop_eq_getElem_cons hi, tear, List.tail_drop]

end Go.Hp
