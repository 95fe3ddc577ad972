import Derived.Test.YtilgaelpbgfnnaaGreatTxnH
set_option linter.unusedVariables false
set_option linter.unusedSimpArgs false
namespace Go.Hp
open Go Go.Proofs

theorem wrap_u64 (m : Nat) : IntKind.u64.wrap (m : Int) = ((m % 18446744073709551616 : Nat) : Int) := by
 simp [IntKind.wrap, IntKind.bits, IntKind.signed]
section
variable {P : Program} {n : Nat} {E : Env} {V : Nat → Obj → Prop} {o : Oper}
theorem Yld.orU64 {X Y : Operand} {t t' : TypeId} (a b : Nat) (ha : a < 18446744073709551616) (hb : b < 18446744073709551616) (hop : o.op = .binOp .or t X Y t') (hx : E.ev X = some (.int .u64 (a : Int))) (hy : E.ev Y = some (.int .u64 (b : Int))) : Yld P n E V o (.int .u64 ((a ||| b : Nat) : Int)) :=
 Yld.arith hop hx hy fun W => by
  have e1 : BitVec.ofInt IntKind.u64.bits (a : Int) = BitVec.ofNat 64 a := rfl
  have e2 : BitVec.ofInt IntKind.u64.bits (b : Int) = BitVec.ofNat 64 b := rfl
  simp only [binOp, Op.intBits, e1, e2]
  simp only [ne_eq, not_true_eq_false, if_false, Sem.run_pure]
  have h : ((BitVec.ofNat 64 a ||| BitVec.ofNat 64 b : BitVec 64).toNat) = a ||| b := by
   rw [BitVec.toNat_or, BitVec.toNat_ofNat, BitVec.toNat_ofNat, Nat.mod_eq_of_lt ha, Nat.mod_eq_of_lt hb]
  have h2 : a ||| b < 2 ^ 64 := Nat.or_lt_two_pow ha hb
  exact congrArg (fun z => Result.ok (Value.int .u64 z) W) ((congrArg (fun z : Nat => IntKind.u64.wrap (z : Int)) h).trans ((wrap_u64 _).trans (by rw [Nat.mod_eq_of_lt h2])))
theorem Yld.addU64N {X Y : Operand} {t t' : TypeId} (a b : Nat) (h : a + b < 18446744073709551616) (hop : o.op = .binOp .add t X Y t') (hx : E.ev X = some (.int .u64 (a : Int))) (hy : E.ev Y = some (.int .u64 (b : Int))) : Yld P n E V o (.int .u64 ((a + b : Nat) : Int)) := by
 have := Yld.add (P := P) (n := n) (V := V) hop hx hy
 rwa [show IntKind.u64.wrap ((a : Int) + (b : Int)) = ((a + b : Nat) : Int) from by rw [show (a : Int) + (b : Int) = ((a + b : Nat) : Int) by omega, wrap_u64, Nat.mod_eq_of_lt h]] at this
theorem Yld.shlU64 {X Y : Operand} {t t' : TypeId} {yk : IntKind} (x k : Nat) (hop : o.op = .binOp .shl t X Y t') (hx : E.ev X = some (.int .u64 (x : Int))) (hy : E.ev Y = some (.int yk (k : Int))) (hk : k < 64) : Yld P n E V o (.int .u64 ((x * 2 ^ k % 18446744073709551616 : Nat) : Int)) := fun a W ha _ => by
 have h : (binOp .shl t (.int .u64 (x : Int)) (.int yk (k : Int))).run P W = .ok (.int .u64 ((x * 2 ^ k % 18446744073709551616 : Nat) : Int)) W := by
  have h0 : ¬ ((k : Int) < 0) := by omega
  have h1 : min k IntKind.u64.bits = k := by simp [IntKind.bits]; omega
  have h2 : IntKind.u64.wrap ((x : Int) * 2 ^ k) = ((x * 2 ^ k % 18446744073709551616 : Nat) : Int) := by
   rw [← wrap_u64]; simp
  simp only [binOp, Op.shift, h0, if_false, Int.toNat_natCast, h1, Sem.run_pure, h2]
 simp [execOp, hop, ha.ev hx, ha.ev hy, eqGuard_int, h]
end
section
variable {P : Program} {n : Nat} {E : Env} {V : Nat → Obj → Prop} {o : Oper}
theorem Yld.sub8N {X Y : Operand} {t t' : TypeId} (a b : Nat) (h : b ≤ a) (h2 : a < 256) (hop : o.op = .binOp .sub t X Y t') (hx : E.ev X = some (.int .u8 (a : Int))) (hy : E.ev Y = some (.int .u8 (b : Int))) : Yld P n E V o (.int .u8 ((a - b : Nat) : Int)) := by
 have := Yld.sub (P := P) (n := n) (V := V) hop hx hy
 have e : IntKind.u8.wrap ((a : Int) - (b : Int)) = ((a - b : Nat) : Int) := by
  have : ((a : Int) - (b : Int)) = ((a - b : Nat) : Int) := by omega
  rw [this]; simp [IntKind.wrap, IntKind.bits, IntKind.signed]; omega
 rwa [e] at this
end
/-- A number's first bytes: the number, how many bytes, the error. -/
def rdN (most : Nat) : Nat → Nat → Nat → List UInt8 → Nat × Nat × Int
 | 0, _, _, _ => (0, 0, 11)
 | _ + 1, _, _, [] => (0, 0, 10)
 | k + 1, i, a, x :: l =>
  if 128 ≤ x.toNat then rdN most k (i + 1) (a ||| ((x.toNat - 128) * 2 ^ (7 * i) % 18446744073709551616)) l
  else if x.toNat = 0 ∧ 0 < i then (0, 0, 11)
  else if i = 9 ∧ 1 < x.toNat then (0, 0, 12)
  else if most < a ||| (x.toNat * 2 ^ (7 * i) % 18446744073709551616) then (0, 0, 12)
  else (a ||| (x.toNat * 2 ^ (7 * i) % 18446744073709551616), i + 1, 0)
theorem or_dig {a x i : Nat} (ha : a < 128 ^ i) (h : a + x * 128 ^ i < 18446744073709551616) : a ||| (x * 2 ^ (7 * i) % 18446744073709551616) = a + x * 128 ^ i := by
 have e : 2 ^ (7 * i) = 128 ^ i := by rw [Nat.pow_mul]
 rw [e, Nat.mod_eq_of_lt (by omega), Nat.or_comm, ← e, ← Nat.shiftLeft_eq, ← Nat.shiftLeft_add_eq_or_of_lt (by rw [e]; exact ha), Nat.shiftLeft_eq, Nat.add_comm]
theorem p9 {u i : Nat} (hu : u ≠ 0) (h : u * 128 ^ i < 18446744073709551616) : i ≤ 9 ∧ (i = 9 → u ≤ 1) := by
 have h9 : i ≤ 9 := by
  rcases Nat.lt_or_ge 9 i with h1 | h1
  ·have : 128 ^ 10 ≤ 128 ^ i := Nat.pow_le_pow_right (by decide) h1
   have h2 : 1 * 128 ^ i ≤ u * 128 ^ i := Nat.mul_le_mul_right _ (by omega)
   omega
  ·exact h1
 exact ⟨h9, fun e => by subst e; omega⟩
/-- What was laid down is taken up. -/
theorem rd_num (most : Nat) (rest : List UInt8) : ∀ (v i a : Nat), a < 128 ^ i → a + v * 128 ^ i < 18446744073709551616 → a + v * 128 ^ i ≤ most → (i = 0 ∨ v ≠ 0) → rdN most (10 - i) i a (numB v ++ rest) = (a + v * 128 ^ i, i + (numB v).length, 0) := by
 intro v
 induction v using Nat.strongRecOn with
 | _ v ih =>
  intro i a ha hv hm hi
  have h9 : i ≤ 9 ∧ (i = 9 → v ≤ 1) := by
   rcases Nat.eq_zero_or_pos v with h | h
   ·rcases hi with hi | hi
    ·omega
    ·omega
   ·exact p9 (by omega) (by omega)
  obtain ⟨k, hk⟩ : ∃ k, 10 - i = k + 1 := ⟨9 - i, by omega⟩
  rw [hk]
  by_cases hlo : v < 128
  ·rw [numB_lo hlo]
   have e : (UInt8.ofNat v).toNat = v := by rw [UInt8.toNat_ofNat']; omega
   have eo := or_dig (x := v) ha hv
   simp only [List.cons_append, List.nil_append, rdN, e]
   rw [if_neg (by omega), if_neg (by omega), if_neg (by omega), eo, if_neg (by omega)]
   rfl
  ·rw [numB_hi hlo]
   have e : (UInt8.ofNat (v % 128 + 128)).toNat = v % 128 + 128 := by rw [UInt8.toNat_ofNat']; omega
   have e3 : v % 128 * 128 ^ i + v / 128 * 128 ^ (i + 1) = v * 128 ^ i := by
    rw [Nat.pow_succ, Nat.mul_comm (128 ^ i) 128, ← Nat.mul_assoc, ← Nat.add_mul]; congr 1; omega
   have eo := or_dig (x := v % 128) ha (by omega)
   simp only [List.cons_append, rdN, e]
   rw [if_pos (by omega), show v % 128 + 128 - 128 = v % 128 by omega, eo]
   have hk2 : k = 10 - (i + 1) := by omega
   have hlt : v % 128 * 128 ^ i + 128 ^ i ≤ 128 ^ (i + 1) := by
    rw [Nat.pow_succ, Nat.mul_comm (128 ^ i) 128, ← Nat.succ_mul]; exact Nat.mul_le_mul_right _ (by omega)
   rw [hk2, ih (v / 128) (by omega) (i + 1) (a + v % 128 * 128 ^ i) (by omega) (by omega) (by omega) (.inr (by omega))]
   rw [List.length_cons]
   refine Prod.ext ?_ (Prod.ext ?_ rfl)
   ·show a + v % 128 * 128 ^ i + v / 128 * 128 ^ (i + 1) = a + v * 128 ^ i
    omega
   ·show i + 1 + (numB (v / 128)).length = i + ((numB (v / 128)).length + 1)
    omega
/-- What is taken up is what is laid down. -/
theorem rdN_inv (most : Nat) : ∀ (k i a : Nat) (l : List UInt8) (v s : Nat), k = 10 - i → a < 128 ^ i → rdN most k i a l = (v, s, 0) → ∃ u, v = a + u * 128 ^ i ∧ v ≤ most ∧ v < 18446744073709551616 ∧ (0 < i → u ≠ 0) ∧ s = i + (numB u).length ∧ numB u = l.take (numB u).length ∧ (numB u).length ≤ l.length
 | 0, i, a, l, v, s, hk, ha, h => by simp [rdN] at h
 | k + 1, i, a, [], v, s, hk, ha, h => by simp [rdN] at h
 | k + 1, i, a, x :: l, v, s, hk, ha, h => by
  have h9 : i ≤ 9 := by omega
  have hx := x.toNat_lt
  have hp9 : 128 ^ i ≤ 128 ^ 9 := Nat.pow_le_pow_right (by decide) h9
  rw [rdN] at h
  by_cases hc : 128 ≤ x.toNat
  ·rw [if_pos hc] at h
   by_cases hi9 : i = 9
   ·have : k = 0 := by omega
    subst this; simp [rdN] at h
   ·have hp8 : 128 ^ i ≤ 128 ^ 8 := Nat.pow_le_pow_right (by decide) (by omega)
    have hlt : (x.toNat - 128) * 128 ^ i + 128 ^ i ≤ 128 ^ (i + 1) := by
     rw [Nat.pow_succ, Nat.mul_comm (128 ^ i) 128, ← Nat.succ_mul]; exact Nat.mul_le_mul_right _ (by omega)
    have hp89 : 128 ^ (i + 1) ≤ 128 ^ 9 := Nat.pow_le_pow_right (by decide) (by omega)
    have eo := or_dig (x := x.toNat - 128) ha (by omega)
    rw [eo] at h
    obtain ⟨u, h1, h2, h3, h4, h5, h6, h7⟩ := rdN_inv most k (i + 1) _ l v s (by omega) (by omega) h
    have hu := h4 (by omega)
    have hn : numB (x.toNat - 128 + 128 * u) = x :: numB u := by
     rw [numB_hi (by omega), show (x.toNat - 128 + 128 * u) / 128 = u by omega, show (x.toNat - 128 + 128 * u) % 128 + 128 = x.toNat by omega]
     congr 1; exact UInt8.ofNat_toNat
    refine ⟨x.toNat - 128 + 128 * u, ?_, h2, h3, fun _ => by omega, ?_, ?_, ?_⟩
    ·rw [h1, Nat.pow_succ, Nat.add_mul, Nat.mul_comm 128 u, Nat.mul_assoc, Nat.mul_comm 128 (128 ^ i)]; omega
    ·rw [hn, List.length_cons, h5]; omega
    ·rw [hn, List.length_cons, List.take_succ_cons, ← h6]
    ·rw [hn, List.length_cons, List.length_cons]; omega
  ·rw [if_neg hc] at h
   by_cases h0 : x.toNat = 0 ∧ 0 < i
   ·rw [if_pos h0] at h; simp at h
   ·rw [if_neg h0] at h
    by_cases h1 : i = 9 ∧ 1 < x.toNat
    ·rw [if_pos h1] at h; simp at h
    ·rw [if_neg h1] at h
     have hfit : a + x.toNat * 128 ^ i < 18446744073709551616 := by
      by_cases hi9 : i = 9
      ·subst hi9; have : x.toNat ≤ 1 := by omega
       have : x.toNat * 128 ^ 9 ≤ 1 * 128 ^ 9 := Nat.mul_le_mul_right _ this
       omega
      ·have hp8 : 128 ^ i ≤ 128 ^ 8 := Nat.pow_le_pow_right (by decide) (by omega)
       have : x.toNat * 128 ^ i ≤ 127 * 128 ^ 8 := Nat.mul_le_mul (by omega) hp8
       omega
     rw [or_dig ha hfit] at h
     by_cases h2 : most < a + x.toNat * 128 ^ i
     ·rw [if_pos h2] at h; simp at h
     ·rw [if_neg h2] at h
      injection h with h3 h4; injection h4 with h4 _
      have hn : numB x.toNat = [x] := by rw [numB_lo (by omega)]; congr 1; exact UInt8.ofNat_toNat
      refine ⟨x.toNat, h3.symm, by omega, by omega, fun _ => by omega, ?_, ?_, ?_⟩
      ·rw [hn, ← h4]; rfl
      ·rw [hn]; rfl
      ·rw [hn]; simp
/-- A Reader: what is left, the error. -/
structure Rs where
 bs : List UInt8
 e : Int
def rNum (most : Nat) (s : Rs) : Nat × Rs := if s.e = 0 then ((rdN most 10 0 0 s.bs).1, ⟨s.bs.drop (rdN most 10 0 0 s.bs).2.1, (rdN most 10 0 0 s.bs).2.2⟩) else (0, s)
def rByt (most : Nat) (s : Rs) : List UInt8 × Rs :=
 if s.e = 0 then
  if (rdN most 10 0 0 s.bs).2.2 = 0 then
   if (rdN most 10 0 0 s.bs).1 ≤ s.bs.length - (rdN most 10 0 0 s.bs).2.1 then ((s.bs.drop (rdN most 10 0 0 s.bs).2.1).take (rdN most 10 0 0 s.bs).1, ⟨(s.bs.drop (rdN most 10 0 0 s.bs).2.1).drop (rdN most 10 0 0 s.bs).1, 0⟩)
   else ([], ⟨s.bs, 10⟩)
  else ([], ⟨s.bs, (rdN most 10 0 0 s.bs).2.2⟩)
 else ([], s)
def Rs.done (s : Rs) : Int := if s.e = 0 ∧ 0 < s.bs.length then 13 else s.e
theorem rdN_size (most : Nat) : ∀ (k i a : Nat) (l : List UInt8), (rdN most k i a l).2.1 ≤ i + l.length
 | 0, i, a, l => Nat.zero_le _
 | k + 1, i, a, [] => Nat.zero_le _
 | k + 1, i, a, x :: l => by
  rw [rdN, List.length_cons]
  split
  ·have := rdN_size most k (i + 1) (a ||| ((x.toNat - 128) * 2 ^ (7 * i) % 18446744073709551616)) l; omega
  ·split
   ·exact Nat.zero_le _
   ·split
    ·exact Nat.zero_le _
    ·split
     ·exact Nat.zero_le _
     ·show i + 1 ≤ _; omega
theorem rdN_lay {v most : Nat} {rest : List UInt8} (h : v ≤ most) (h2 : v < 18446744073709551616) : rdN most 10 0 0 (numB v ++ rest) = (v, (numB v).length, 0) := by
 have := rd_num most rest v 0 0 (by decide) (by omega) (by omega) (.inl rfl)
 simpa using this
theorem rNum_lay {v most : Nat} {rest : List UInt8} (h : v ≤ most) (h2 : v < 18446744073709551616) : rNum most ⟨numB v ++ rest, 0⟩ = (v, ⟨rest, 0⟩) := by
 unfold rNum
 rw [if_pos rfl]
 simp only [rdN_lay h h2, List.drop_left]
theorem rByt_lay {d : List UInt8} {most : Nat} {rest : List UInt8} (h : d.length ≤ most) (h2 : d.length < 18446744073709551616) : rByt most ⟨numB d.length ++ (d ++ rest), 0⟩ = (d, ⟨rest, 0⟩) := by
 unfold rByt
 rw [if_pos rfl]
 simp only [rdN_lay h h2, List.drop_left, if_true, List.length_append]
 rw [if_pos (by omega)]
 simp
theorem rdN_back {most : Nat} {l : List UInt8} (h : (rdN most 10 0 0 l).2.2 = 0) : l = numB (rdN most 10 0 0 l).1 ++ l.drop (rdN most 10 0 0 l).2.1 ∧ (rdN most 10 0 0 l).1 ≤ most := by
 obtain ⟨v, s, e, he⟩ : ∃ v s e, rdN most 10 0 0 l = (v, s, e) := ⟨_, _, _, rfl⟩
 rw [he] at h ⊢
 dsimp only at h ⊢
 subst h
 obtain ⟨u, h1, h2, h3, _, h5, h6, h7⟩ := rdN_inv most 10 0 0 l v s rfl (by decide) he
 have hu : v = u := by simpa using h1
 subst hu
 refine ⟨?_, h2⟩
 rw [h5, Nat.zero_add]
 conv => lhs; rw [← List.take_append_drop (numB v).length l]
 rw [← h6]
theorem rNum_back {most : Nat} {s : Rs} (h : (rNum most s).2.e = 0) : s.e = 0 ∧ s.bs = numB (rNum most s).1 ++ (rNum most s).2.bs ∧ (rNum most s).1 ≤ most := by
 unfold rNum at h ⊢
 by_cases he : s.e = 0
 ·simp only [he, if_true] at h ⊢
  exact ⟨trivial, rdN_back h⟩
 ·simp only [he, if_false] at h
theorem rByt_back {most : Nat} {s : Rs} (h : (rByt most s).2.e = 0) : s.e = 0 ∧ s.bs = numB (rByt most s).1.length ++ ((rByt most s).1 ++ (rByt most s).2.bs) ∧ (rByt most s).1.length ≤ most := by
 unfold rByt at h ⊢
 by_cases he : s.e = 0
 ·simp only [he, if_true] at h ⊢
  by_cases h1 : (rdN most 10 0 0 s.bs).2.2 = 0
  ·simp only [h1, if_true] at h ⊢
   by_cases h2 : (rdN most 10 0 0 s.bs).1 ≤ s.bs.length - (rdN most 10 0 0 s.bs).2.1
   ·simp only [h2, if_true] at h ⊢
    obtain ⟨q1, q2⟩ := rdN_back h1
    have e1 : (List.take (rdN most 10 0 0 s.bs).1 (List.drop (rdN most 10 0 0 s.bs).2.1 s.bs)).length = (rdN most 10 0 0 s.bs).1 := by rw [List.length_take, List.length_drop]; omega
    rw [e1, List.take_append_drop]
    exact ⟨trivial, q1, q2⟩
   ·simp only [h2, if_false] at h; exact absurd h (by decide)
  ·simp only [h1, if_false] at h
 ·simp only [he, if_false] at h
def tkL : Nat → Rs → List (Bool × List UInt8) × Rs
 | 0, s => ([], s)
 | n + 1, s => ((decide (((rNum 1 s).1 : Int) = 1), (rByt 12671 (rNum 1 s).2).1) :: (tkL n (rByt 12671 (rNum 1 s).2).2).1, (tkL n (rByt 12671 (rNum 1 s).2).2).2)
def tkN (s : Rs) : List (Bool × List UInt8) × Rs := tkL (rNum 64 s).1 (rNum 64 s).2
theorem tkL_lay (rest : List UInt8) : ∀ (l : List (Bool × List UInt8)), (∀ x ∈ l, x.2.length ≤ 12671) → tkL l.length ⟨l.flatMap nodeB ++ rest, 0⟩ = (l, ⟨rest, 0⟩)
 | [], _ => rfl
 | (b, d) :: l, h => by
  have hd := h _ (.head _)
  dsimp only at hd
  have e : ((b, d) :: l).flatMap nodeB ++ rest = numB (if b then 1 else 0) ++ (numB d.length ++ (d ++ (l.flatMap nodeB ++ rest))) := by simp [nodeB]
  have hb : (if b then 1 else 0) ≤ 1 := by cases b <;> decide
  rw [e, List.length_cons, tkL, rNum_lay hb (by omega)]
  simp only [rByt_lay hd (by omega), tkL_lay rest l fun x hx => h x (.tail _ hx)]
  cases b <;> rfl
theorem tkN_lay (rest : List UInt8) {l : List (Bool × List UInt8)} (hl : l.length ≤ 64) (h : ∀ x ∈ l, x.2.length ≤ 12671) : tkN ⟨nodesB l ++ rest, 0⟩ = (l, ⟨rest, 0⟩) := by
 unfold tkN nodesB
 rw [List.append_assoc, rNum_lay hl (by omega)]
 exact tkL_lay rest l h
theorem tkL_back : ∀ (n : Nat) (s : Rs), (tkL n s).2.e = 0 → s.e = 0 ∧ s.bs = (tkL n s).1.flatMap nodeB ++ (tkL n s).2.bs
 | 0, s, h => ⟨h, rfl⟩
 | n + 1, s, h => by
  rw [tkL] at h ⊢
  obtain ⟨h1, h2⟩ := tkL_back n _ h
  obtain ⟨h3, h4, h5⟩ := rByt_back h1
  obtain ⟨h6, h7, h8⟩ := rNum_back h3
  refine ⟨h6, ?_⟩
  rw [h7, h4, h2]
  dsimp only
  have : (if decide (((rNum 1 s).1 : Int) = 1) = true then 1 else 0) = (rNum 1 s).1 := by
   by_cases h : (rNum 1 s).1 = 1
   ·simp [h]
   ·simp [show ¬ ((rNum 1 s).1 : Int) = 1 by omega]; omega
  simp only [List.flatMap_cons, nodeB, this, List.append_assoc]
theorem tkL_len : ∀ (n : Nat) (s : Rs), (tkL n s).1.length = n
 | 0, s => rfl
 | n + 1, s => by rw [tkL, List.length_cons, tkL_len n]
theorem tkN_back {s : Rs} (h : (tkN s).2.e = 0) : s.e = 0 ∧ s.bs = nodesB (tkN s).1 ++ (tkN s).2.bs := by
 unfold tkN at h ⊢
 obtain ⟨h1, h2⟩ := tkL_back _ _ h
 obtain ⟨h3, h4, _⟩ := rNum_back h1
 refine ⟨h3, ?_⟩
 unfold nodesB
 rw [tkL_len, h4, h2, List.append_assoc]
theorem Rs.done_ok {s : Rs} (h : s.done = 0) : s.e = 0 ∧ s.bs = [] := by
 unfold Rs.done at h
 split at h
 ·cases h
 ·rename_i h1
  refine ⟨h, ?_⟩
  cases hb : s.bs with
  | nil => rfl
  | cons a l => exact absurd ⟨h, by rw [hb]; simp⟩ h1
/-- A page's record, read. -/
def rdP (bs : List UInt8) : Pr × Rs := (⟨((rNum 512 ⟨bs, 0⟩).1 : Int), ((rNum 1099511627776 (rNum 512 ⟨bs, 0⟩).2).1 : Int), (tkN (rNum 1099511627776 (rNum 512 ⟨bs, 0⟩).2).2).1⟩, (tkN (rNum 1099511627776 (rNum 512 ⟨bs, 0⟩).2).2).2)
def okP (bs : List UInt8) : Prop := (rdP bs).2.done = 0 ∧ bs.length ≤ 12671 ∧ (rdP bs).1.may
theorem data_le {l : List (Bool × List UInt8)} {x : Bool × List UInt8} (h : x ∈ l) : x.2.length ≤ (l.flatMap nodeB).length := by
 induction l with
 | nil => cases h
 | cons a l ih =>
  rw [List.flatMap_cons, List.length_append]
  rcases List.mem_cons.1 h with rfl | h
  ·unfold nodeB; simp only [List.length_append]; omega
  ·have := ih h; omega
theorem rdP_lay {r : Pr} (h : r.may) (hl : (pageB r).length ≤ 12671) : rdP (pageB r) = (r, ⟨[], 0⟩) := by
 obtain ⟨⟨h1, h2⟩, h3, h4, h5, h6, _⟩ := h
 have e1 : numB r.page.toNat ++ (numB r.prev.toNat ++ nodesB r.nodes) = numB r.page.toNat ++ (numB r.prev.toNat ++ (nodesB r.nodes ++ [])) := by simp
 unfold rdP pageB at *
 rw [e1, rNum_lay (by omega) (by omega)]
 simp only [rNum_lay (show r.prev.toNat ≤ 1099511627776 by omega) (by omega)]
 rw [tkN_lay [] h6 (fun x hx => by
  have := data_le hx
  unfold nodesB at hl
  simp only [List.length_append] at hl
  omega)]
 dsimp only
 rw [Int.toNat_of_nonneg (by omega), Int.toNat_of_nonneg h3]
theorem okP_lay {r : Pr} (h : r.may) (hl : (pageB r).length ≤ 12671) : okP (pageB r) ∧ (rdP (pageB r)).1 = r := by
 unfold okP
 rw [rdP_lay h hl]
 exact ⟨⟨rfl, hl, h⟩, rfl⟩
theorem rdP_back {bs : List UInt8} (h : okP bs) : pageB (rdP bs).1 = bs := by
 obtain ⟨h1, h2, h3⟩ := h
 obtain ⟨h4, h5⟩ := Rs.done_ok h1
 unfold rdP at h4 h5
 dsimp only at h4 h5
 obtain ⟨h6, h7⟩ := tkN_back h4
 obtain ⟨h8, h9, _⟩ := rNum_back h6
 obtain ⟨_, h10, _⟩ := rNum_back h8
 unfold pageB rdP
 dsimp only at h10 ⊢
 conv => rhs; rw [h10, h9, h7, h5]
 simp
/-- A group, read. -/
def gkL : Nat → Rs → List Pr × Rs
 | 0, s => ([], s)
 | n + 1, s => (⟨((rNum 512 s).1 : Int), 0, (tkN (rNum 512 s).2).1⟩ :: (gkL n (tkN (rNum 512 s).2).2).1, (gkL n (tkN (rNum 512 s).2).2).2)
def rdG (bs : List UInt8) : List Pr × Rs := gkL (rNum 8 ⟨bs, 0⟩).1 (rNum 8 ⟨bs, 0⟩).2
def okG (bs : List UInt8) : Prop := (rdG bs).2.done = 0 ∧ bs.length ≤ 12671 ∧ mayG (rdG bs).1
def grB (r : Pr) : List UInt8 := numB r.page.toNat ++ nodesB r.nodes
theorem gkL_lay (rest : List UInt8) : ∀ (l : List Pr), (∀ r ∈ l, pageOk r.page ∧ r.prev = 0 ∧ r.nodes.length ≤ 64) → (l.flatMap grB).length ≤ 12671 → gkL l.length ⟨l.flatMap grB ++ rest, 0⟩ = (l, ⟨rest, 0⟩)
 | [], _, _ => rfl
 | r :: l, h, hl => by
  obtain ⟨⟨h1, h2⟩, h3, h4⟩ := h r (.head _)
  rw [List.flatMap_cons, List.length_append] at hl
  have e : (r :: l).flatMap grB ++ rest = numB r.page.toNat ++ (nodesB r.nodes ++ (l.flatMap grB ++ rest)) := by simp [grB]
  have hn : ∀ x ∈ r.nodes, x.2.length ≤ 12671 := fun x hx => by
   have := data_le hx
   unfold grB nodesB at hl
   simp only [List.length_append] at hl
   omega
  rw [e, List.length_cons, gkL, rNum_lay (by omega) (by omega)]
  simp only [tkN_lay _ h4 hn, gkL_lay rest l (fun x hx => h x (.tail _ hx)) (by omega)]
  rw [Int.toNat_of_nonneg (by omega), ← h3]
theorem mayG_el {l : List Pr} (h : mayG l) : ∀ r ∈ l, pageOk r.page ∧ r.prev = 0 ∧ r.nodes.length ≤ 64 := fun r hr => by
 obtain ⟨i, hi, rfl⟩ := List.getElem_of_mem hr
 obtain ⟨_, h2, h3⟩ := h.2.2 i hi
 rcases h3 with ⟨_, h4, h5⟩ | ⟨h4, _, _, h5, h6, _⟩
 ·exact ⟨h5, h2, by rw [h4]; exact Nat.zero_le _⟩
 ·exact ⟨h4, h2, h6⟩
theorem okG_lay {l : List Pr} (h : mayG l) (hl : (groupB l).length ≤ 12671) : okG (groupB l) ∧ (rdG (groupB l)).1 = l := by
 have e : rdG (groupB l) = (l, ⟨[], 0⟩) := by
  have e1 : groupB l = numB l.length ++ (l.flatMap grB ++ []) := by rw [List.append_nil]; rfl
  have hl2 : (l.flatMap grB).length ≤ 12671 := by rw [e1] at hl; simp only [List.length_append] at hl; omega
  unfold rdG
  rw [e1, rNum_lay h.2.1 (by have := h.2.1; omega)]
  exact gkL_lay [] l (mayG_el h) hl2
 unfold okG
 rw [e]
 exact ⟨⟨rfl, hl, h⟩, rfl⟩
/-- A commit, read. -/
def okC (bs : List UInt8) : Prop := (rNum 1099511627776 ⟨bs, 0⟩).2.done = 0 ∧ 1 ≤ (rNum 1099511627776 ⟨bs, 0⟩).1
theorem okC_lay {n : Nat} (h : 1 ≤ n) (h2 : n ≤ 1099511627776) : okC (numB n) ∧ (rNum 1099511627776 ⟨numB n, 0⟩).1 = n := by
 have := rNum_lay (rest := []) h2 (by omega)
 rw [List.append_nil] at this
 unfold okC
 rw [this]
 exact ⟨⟨rfl, h⟩, rfl⟩

theorem rdN_le (most : Nat) : ∀ (k i a : Nat) (l : List UInt8), (rdN most k i a l).1 ≤ most
 | 0, i, a, l => Nat.zero_le _
 | k + 1, i, a, [] => Nat.zero_le _
 | k + 1, i, a, x :: l => by
  rw [rdN]
  split
  ·exact rdN_le most k _ _ _
  ·split
   ·exact Nat.zero_le _
   ·split
    ·exact Nat.zero_le _
    ·split
     ·exact Nat.zero_le _
     ·show _ ≤ most; omega
theorem rNum_le (most : Nat) (s : Rs) : (rNum most s).1 ≤ most := by unfold rNum; split; exact rdN_le _ _ _ _ _; exact Nat.zero_le _
theorem rdN_bs {most : Nat} {l : List UInt8} : (rdN most 10 0 0 l).2.1 ≤ l.length := by have := rdN_size most 10 0 0 l; omega
theorem rNum_bs (most : Nat) (s : Rs) : (rNum most s).2.bs.length ≤ s.bs.length := by
 unfold rNum; split
 ·show (List.drop _ _).length ≤ _; rw [List.length_drop]; omega
 ·exact Nat.le_refl _
theorem rByt_bs (most : Nat) (s : Rs) : (rByt most s).2.bs.length ≤ s.bs.length := by
 unfold rByt; (repeat' split) <;> first | exact Nat.le_refl _ | (show (List.drop _ (List.drop _ _)).length ≤ _; rw [List.length_drop, List.length_drop]; omega)
theorem rByt_d (most : Nat) (s : Rs) : (rByt most s).1.length ≤ s.bs.length := by
 unfold rByt; (repeat' split) <;> first | exact Nat.zero_le _ | (show (List.take _ (List.drop _ _)).length ≤ _; rw [List.length_take, List.length_drop]; omega)
theorem tkN_len (s : Rs) : (tkN s).1.length ≤ 64 := by unfold tkN; rw [tkL_len]; exact rNum_le _ _
theorem SlRd.byte {V : Nat → Obj → Prop} {v : Value} {bs : List UInt8} (h : SlRd V v bs.length 1 (bytesV bs)) {i : Nat} (hi : i < bs.length) : ∃ b k c T fr arr, v = .slice (some ⟨b, k, none⟩) bs.length c ∧ V b (.cells arr T fr) ∧ arr[k + i * 1]? = some (byteV bs[i]) := by
 obtain ⟨b, k, c, T, fr, arr, e, _, hb, hcd⟩ := h.get (by omega)
 refine ⟨b, k, c, T, fr, arr, e, hb, ?_⟩
 have := take_cells hcd i (byteV bs[i]) (by simp [bytesV, hi]) (by rw [bytesV_len]; exact hi)
 rw [Array.getElem?_toList] at this
 rwa [Nat.mul_one]
theorem SlRd.takeB {V : Nat → Obj → Prop} {v : Value} {bs : List UInt8} {l : Nat} (h : SlRd V v bs.length 1 (bytesV bs)) (hl : l ≤ bs.length) : SlRd V (subSl 1 0 l v) (bs.take l).length 1 (bytesV (bs.take l)) := by
 have := h.sub (Nat.zero_le l) hl
 rw [Nat.zero_mul, List.drop_zero, bytesV_take, Nat.sub_zero, Nat.mul_one] at this
 rw [List.length_take, Nat.min_eq_left hl]; exact this

end Go.Hp
