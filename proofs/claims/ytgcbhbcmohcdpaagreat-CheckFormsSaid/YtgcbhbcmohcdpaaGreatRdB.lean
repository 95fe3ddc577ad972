import Derived.Test.YtgcbhbcmohcdpaaGreatCodB
set_option linter.unusedVariables false
set_option linter.unusedSimpArgs false
namespace Go.Hp
open Go Go.Proofs

theorem wrap_u64 (m : Nat) : IntKind.u64.wrap (m : Int) = ((m % 18446744073709551616 : Nat) : Int) := by
 simp [IntKind.wrap, IntKind.bits, IntKind.signed]
section
variable {P : Program} {n : Nat} {E : Env} {V : Nat → Obj → Prop} {o : Oper}
theorem Yld.orU64 {X Y : Operand} {t t' : TypeId} (a b : Nat) (ha : a < 18446744073709551616) (hb : b < 18446744073709551616) (hop : o.op = .binOp .or t X Y t') (hx : E.ev X = some (.int .u64 (a : Int))) (hy : E.ev Y = some (.int .u64 (b : Int))) : Yld P n E V o (.int .u64 ((a ||| b : Nat) : Int)) :=
 Yld.arith hop hx hy fun W => by
  have e1 : BitVec.ofInt IntKind.u64.bits (a : Int) = BitVec.ofNat 64 a := rfl
  have e2 : BitVec.ofInt IntKind.u64.bits (b : Int) = BitVec.ofNat 64 b := rfl
  simp only [binOp, Op.intBits, e1, e2]
  simp only [ne_eq, not_true_eq_false, if_false, Sem.run_pure]
  have h : ((BitVec.ofNat 64 a ||| BitVec.ofNat 64 b : BitVec 64).toNat) = a ||| b := by
   rw [BitVec.toNat_or, BitVec.toNat_ofNat, BitVec.toNat_ofNat, Nat.mod_eq_of_lt ha, Nat.mod_eq_of_lt hb]
  have h2 : a ||| b < 2 ^ 64 := Nat.or_lt_two_pow ha hb
  exact congrArg (fun z => Result.ok (Value.int .u64 z) W) ((congrArg (fun z : Nat => IntKind.u64.wrap (z : Int)) h).trans ((wrap_u64 _).trans (by rw [Nat.mod_eq_of_lt h2])))
theorem Yld.addU64N {X Y : Operand} {t t' : TypeId} (a b : Nat) (h : a + b < 18446744073709551616) (hop : o.op = .binOp .add t X Y t') (hx : E.ev X = some (.int .u64 (a : Int))) (hy : E.ev Y = some (.int .u64 (b : Int))) : Yld P n E V o (.int .u64 ((a + b : Nat) : Int)) := by
 have := Yld.add (P := P) (n := n) (V := V) hop hx hy
 rwa [show IntKind.u64.wrap ((a : Int) + (b : Int)) = ((a + b : Nat) : Int) from by rw [show (a : Int) + (b : Int) = ((a + b : Nat) : Int) by omega, wrap_u64, Nat.mod_eq_of_lt h]] at this
theorem Yld.shlU64 {X Y : Operand} {t t' : TypeId} {yk : IntKind} (x k : Nat) (hop : o.op = .binOp .shl t X Y t') (hx : E.ev X = some (.int .u64 (x : Int))) (hy : E.ev Y = some (.int yk (k : Int))) (hk : k < 64) : Yld P n E V o (.int .u64 ((x * 2 ^ k % 18446744073709551616 : Nat) : Int)) := fun a W ha _ => by
 have h : (binOp .shl t (.int .u64 (x : Int)) (.int yk (k : Int))).run P W = .ok (.int .u64 ((x * 2 ^ k % 18446744073709551616 : Nat) : Int)) W := by
  have h0 : ¬ ((k : Int) < 0) := by omega
  have h1 : min k IntKind.u64.bits = k := by simp [IntKind.bits]; omega
  have h2 : IntKind.u64.wrap ((x : Int) * 2 ^ k) = ((x * 2 ^ k % 18446744073709551616 : Nat) : Int) := by
   rw [← wrap_u64]; simp
  simp only [binOp, Op.shift, h0, if_false, Int.toNat_natCast, h1, Sem.run_pure, h2]
 simp [execOp, hop, ha.ev hx, ha.ev hy, eqGuard_int, h]
end
section
variable {P : Program} {n : Nat} {E : Env} {V : Nat → Obj → Prop} {o : Oper}
theorem Yld.sub8N {X Y : Operand} {t t' : TypeId} (a b : Nat) (h : b ≤ a) (h2 : a < 256) (hop : o.op = .binOp .sub t X Y t') (hx : E.ev X = some (.int .u8 (a : Int))) (hy : E.ev Y = some (.int .u8 (b : Int))) : Yld P n E V o (.int .u8 ((a - b : Nat) : Int)) := by
 have := Yld.sub (P := P) (n := n) (V := V) hop hx hy
 have e : IntKind.u8.wrap ((a : Int) - (b : Int)) = ((a - b : Nat) : Int) := by
  have : ((a : Int) - (b : Int)) = ((a - b : Nat) : Int) := by omega
  rw [this]; simp [IntKind.wrap, IntKind.bits, IntKind.signed]; omega
 rwa [e] at this
end
/-- A number's first bytes: the number, how many bytes, the error. -/
def rdN (most : Nat) : Nat → Nat → Nat → List UInt8 → Nat × Nat × Int
 | 0, _, _, _ => (0, 0, 11)
 | _ + 1, _, _, [] => (0, 0, 10)
 | k + 1, i, a, x :: l =>
  if 128 ≤ x.toNat then rdN most k (i + 1) (a ||| ((x.toNat - 128) * 2 ^ (7 * i) % 18446744073709551616)) l
  else if x.toNat = 0 ∧ 0 < i then (0, 0, 11)
  else if i = 9 ∧ 1 < x.toNat then (0, 0, 12)
  else if most < a ||| (x.toNat * 2 ^ (7 * i) % 18446744073709551616) then (0, 0, 12)
  else (a ||| (x.toNat * 2 ^ (7 * i) % 18446744073709551616), i + 1, 0)
theorem or_dig {a x i : Nat} (ha : a < 128 ^ i) (h : a + x * 128 ^ i < 18446744073709551616) : a ||| (x * 2 ^ (7 * i) % 18446744073709551616) = a + x * 128 ^ i := by
 have e : 2 ^ (7 * i) = 128 ^ i := by rw [Nat.pow_mul]
 rw [e, Nat.mod_eq_of_lt (by omega), Nat.or_comm, ← e, ← Nat.shiftLeft_eq, ← Nat.shiftLeft_add_eq_or_of_lt (by rw [e]; exact ha), Nat.shiftLeft_eq, Nat.add_comm]
theorem p9 {u i : Nat} (hu : u ≠ 0) (h : u * 128 ^ i < 18446744073709551616) : i ≤ 9 ∧ (i = 9 → u ≤ 1) := by
 have h9 : i ≤ 9 := by
  rcases Nat.lt_or_ge 9 i with h1 | h1
  ·have : 128 ^ 10 ≤ 128 ^ i := Nat.pow_le_pow_right (by decide) h1
   have h2 : 1 * 128 ^ i ≤ u * 128 ^ i := Nat.mul_le_mul_right _ (by omega)
   omega
  ·exact h1
 exact ⟨h9, fun e => by subst e; omega⟩
/-- What was laid down is taken up. -/
theorem rd_num (most : Nat) (rest : List UInt8) : ∀ (v i a : Nat), a < 128 ^ i → a + v * 128 ^ i < 18446744073709551616 → a + v * 128 ^ i ≤ most → (i = 0 ∨ v ≠ 0) → rdN most (10 - i) i a (numB v ++ rest) = (a + v * 128 ^ i, i + (numB v).length, 0) := by
 intro v
 induction v using Nat.strongRecOn with
 | _ v ih =>
  intro i a ha hv hm hi
  have h9 : i ≤ 9 ∧ (i = 9 → v ≤ 1) := by
   rcases Nat.eq_zero_or_pos v with h | h
   ·rcases hi with hi | hi
    ·omega
    ·omega
   ·exact p9 (by omega) (by omega)
  obtain ⟨k, hk⟩ : ∃ k, 10 - i = k + 1 := ⟨9 - i, by omega⟩
  rw [hk]
  by_cases hlo : v < 128
  ·rw [numB_lo hlo]
   have e : (UInt8.ofNat v).toNat = v := by rw [UInt8.toNat_ofNat']; omega
   have eo := or_dig (x := v) ha hv
   simp only [List.cons_append, List.nil_append, rdN, e]
   rw [if_neg (by omega), if_neg (by omega), if_neg (by omega), eo, if_neg (by omega)]
   rfl
  ·rw [numB_hi hlo]
   have e : (UInt8.ofNat (v % 128 + 128)).toNat = v % 128 + 128 := by rw [UInt8.toNat_ofNat']; omega
   have e3 : v % 128 * 128 ^ i + v / 128 * 128 ^ (i + 1) = v * 128 ^ i := by
    rw [Nat.pow_succ, Nat.mul_comm (128 ^ i) 128, ← Nat.mul_assoc, ← Nat.add_mul]; congr 1; omega
   have eo := or_dig (x := v % 128) ha (by omega)
   simp only [List.cons_append, rdN, e]
   rw [if_pos (by omega), show v % 128 + 128 - 128 = v % 128 by omega, eo]
   have hk2 : k = 10 - (i + 1) := by omega
   have hlt : v % 128 * 128 ^ i + 128 ^ i ≤ 128 ^ (i + 1) := by
    rw [Nat.pow_succ, Nat.mul_comm (128 ^ i) 128, ← Nat.succ_mul]; exact Nat.mul_le_mul_right _ (by omega)
   rw [hk2, ih (v / 128) (by omega) (i + 1) (a + v % 128 * 128 ^ i) (by omega) (by omega) (by omega) (.inr (by omega))]
   rw [List.length_cons]
   refine Prod.ext ?_ (Prod.ext ?_ rfl)
   ·show a + v % 128 * 128 ^ i + v / 128 * 128 ^ (i + 1) = a + v * 128 ^ i
    omega
   ·show i + 1 + (numB (v / 128)).length = i + ((numB (v / 128)).length + 1)
    omega
/-- A Reader: what is left, the error. -/
structure Rs where
 bs : List UInt8
 e : Int
def rNum (most : Nat) (s : Rs) : Nat × Rs := if s.e = 0 then ((rdN most 10 0 0 s.bs).1, ⟨s.bs.drop (rdN most 10 0 0 s.bs).2.1, (rdN most 10 0 0 s.bs).2.2⟩) else (0, s)
def Rs.done (s : Rs) : Int := if s.e = 0 ∧ 0 < s.bs.length then 13 else s.e
theorem rdN_size (most : Nat) : ∀ (k i a : Nat) (l : List UInt8), (rdN most k i a l).2.1 ≤ i + l.length
 | 0, i, a, l => Nat.zero_le _
 | k + 1, i, a, [] => Nat.zero_le _
 | k + 1, i, a, x :: l => by
  rw [rdN, List.length_cons]
  split
  ·have := rdN_size most k (i + 1) (a ||| ((x.toNat - 128) * 2 ^ (7 * i) % 18446744073709551616)) l; omega
  ·split
   ·exact Nat.zero_le _
   ·split
    ·exact Nat.zero_le _
    ·split
     ·exact Nat.zero_le _
     ·show i + 1 ≤ _; omega
theorem rdN_lay {v most : Nat} {rest : List UInt8} (h : v ≤ most) (h2 : v < 18446744073709551616) : rdN most 10 0 0 (numB v ++ rest) = (v, (numB v).length, 0) := by
 have := rd_num most rest v 0 0 (by decide) (by omega) (by omega) (.inl rfl)
 simpa using this
theorem rNum_lay {v most : Nat} {rest : List UInt8} (h : v ≤ most) (h2 : v < 18446744073709551616) : rNum most ⟨numB v ++ rest, 0⟩ = (v, ⟨rest, 0⟩) := by
 unfold rNum
 rw [if_pos rfl]
 simp only [rdN_lay h h2, List.drop_left]
theorem rdN_le (most : Nat) : ∀ (k i a : Nat) (l : List UInt8), (rdN most k i a l).1 ≤ most
 | 0, i, a, l => Nat.zero_le _
 | k + 1, i, a, [] => Nat.zero_le _
 | k + 1, i, a, x :: l => by
  rw [rdN]
  split
  ·exact rdN_le most k _ _ _
  ·split
   ·exact Nat.zero_le _
   ·split
    ·exact Nat.zero_le _
    ·split
     ·exact Nat.zero_le _
     ·show _ ≤ most; omega
theorem rNum_le (most : Nat) (s : Rs) : (rNum most s).1 ≤ most := by unfold rNum; split; exact rdN_le _ _ _ _ _; exact Nat.zero_le _
theorem rdN_bs {most : Nat} {l : List UInt8} : (rdN most 10 0 0 l).2.1 ≤ l.length := by have := rdN_size most 10 0 0 l; omega
theorem SlRd.byte {V : Nat → Obj → Prop} {v : Value} {bs : List UInt8} (h : SlRd V v bs.length 1 (bytesV bs)) {i : Nat} (hi : i < bs.length) : ∃ b k c T fr arr, v = .slice (some ⟨b, k, none⟩) bs.length c ∧ V b (.cells arr T fr) ∧ arr[k + i * 1]? = some (byteV bs[i]) := by
 obtain ⟨b, k, c, T, fr, arr, e, _, hb, hcd⟩ := h.get (by omega)
 refine ⟨b, k, c, T, fr, arr, e, hb, ?_⟩
 have := take_cells hcd i (byteV bs[i]) (by simp [bytesV, hi]) (by rw [bytesV_len]; exact hi)
 rw [Array.getElem?_toList] at this
 rwa [Nat.mul_one]
theorem code_number {I : Imm} {most : Nat} {b : List UInt8} {vb : Value} (hb : SlRd (Im I) vb b.length 1 (bytesV b)) (hl : b.length ≤ 140737488355328) : Spec Tryz.prog 35 [vb, .int .u64 (most : Int)] I [] (fun v J L => v = .tuple #[.int .u64 ((rdN most 10 0 0 b).1 : Int), .int .i64 ((rdN most 10 0 0 b).2.1 : Int), .int .i64 (rdN most 10 0 0 b).2.2] ∧ I = J ∧ L = []) := by
 obtain ⟨Ab, cb, rfl, _, _, _⟩ := id hb
 refine Spec.of Tryz.func35 rfl Tryz.ntmps35 (Nat.le_of_ble_eq_true rfl) (fun F => ?_)
 try simp only [nf]
 dsimp only [argsEnv]
 refine WP.seq ?_; refine WP.region [0, 1, 2] rfl ?_; iterate 3 refine WP.mv rfl rfl ?_
 refine WP.nil (WP.next (WP.seq ?_))
 refine WP.region [0] rfl ?_; refine WP.mv rfl rfl ?_; refine WP.nil (WP.next (WP.seq (WP.seq ?_)))
 refine WP.region [0] rfl ?_; refine WP.mv rfl rfl ?_; refine WP.nil (WP.next (WP.block ?_))
 refine WP.loop (X := Nat × Nat) (fun t : Nat × Nat => [(0, .slice Ab b.length cb), (1, .int .u64 (most : Int)), (7, .int .u64 (t.2 : Int)), (10, .int .i64 (t.1 : Int))]) (fun _ => I) (fun _ : Nat × Nat => F) (fun t : Nat × Nat => t.1 ≤ 10 ∧ t.1 ≤ b.length ∧ t.2 < 18446744073709551616 ∧ rdN most (10 - t.1) t.1 t.2 (b.drop t.1) = (rdN most 10 0 0 b)) (fun t => 10 - t.1) (0, 0) ⟨Nat.zero_le _, Nat.zero_le _, by decide, rfl⟩ ⟨rfl, rfl, rfl, rfl, trivial⟩ rfl zP ?_; rintro ⟨i, a⟩ ⟨h10, hib, ha, hinv⟩; dsimp only at h10 hib ha hinv
 try dsimp only
 try simp only [nf]
 refine WP.seq ?_; refine WP.region [0] rfl ?_; refine WP.split rfl rfl rfl rfl (Yld.lss rfl rfl rfl) (fun hlt => ?_) (fun hlt => ?_)
 ·refine WP.nil ?_
  refine WP.next (WP.seq ?_)
  refine WP.condT rfl ?_; refine WP.skip (WP.next (WP.seq (WP.block (WP.seq ?_))))
  refine WP.region [0, 1] rfl ?_; iterate 2 refine WP.mv rfl rfl ?_
  refine WP.nil ?_; refine WP.sub [(0, _), (1, _), (7, _), (8, _), (10, _), (11, _)] ?_ ⟨rfl, rfl, rfl, rfl, rfl, rfl, trivial⟩
  refine WP.next (WP.seq (WP.seq ?_))
  refine WP.region [0, 1, 2, 3] rfl ?_; iterate 2 refine WP.mv rfl rfl ?_
  refine WP.vl rfl (Yld.len rfl ty_sl_25 rfl) ?_; refine WP.split rfl rfl rfl rfl (Yld.eql rfl rfl rfl) (fun heq => ?_) (fun heq => ?_)
  ·have hbe : b.drop i = [] := List.drop_eq_nil_of_le (by omega)
   obtain ⟨k, hk⟩ : ∃ k, 10 - i = k + 1 := ⟨9 - i, by omega⟩
   rw [hk, hbe] at hinv
   refine WP.nil ?_; refine WP.sub [(0, _), (1, _), (7, _), (8, _), (10, _), (11, _), (16, _)] ?_ ⟨rfl, rfl, rfl, rfl, rfl, rfl, rfl, trivial⟩
   refine WP.next ?_; refine WP.condT rfl ?_; refine WP.seq ?_; refine WP.region [0, 1, 2] rfl ?_; iterate 3 refine WP.mv rfl rfl ?_
   refine WP.nil (WP.next (WP.ret ?_))
   refine WP.fn .ret (.inr rfl) (res3 rfl rfl rfl rfl) [] (Imm.le_refl _) ?_; rw [← hinv]; exact ⟨rfl, rfl, rfl⟩
  ·have hi : i < b.length := by omega
   obtain ⟨bb, kb, cb2, Tb, fb, arb, eb, hbb, hxb⟩ := hb.byte hi
   injection eb with eb1 _ eb2; subst eb1; subst eb2
   obtain ⟨x, hx⟩ : ∃ x, x = b[i] := ⟨_, rfl⟩
   rw [← hx] at hxb
   have hx8 := x.toNat_lt
   have hdr : b.drop i = x :: b.drop (i + 1) := by rw [List.drop_eq_getElem_cons hi, hx]
   obtain ⟨k, hk⟩ : ∃ k, 10 - i = k + 1 := ⟨9 - i, by omega⟩
   rw [hk, hdr, rdN] at hinv
   refine WP.nil ?_; refine WP.sub [(0, _), (1, _), (7, _), (8, _), (10, _), (11, _), (16, _)] ?_ ⟨rfl, rfl, rfl, rfl, rfl, rfl, rfl, trivial⟩
   refine WP.next ?_; refine WP.condF rfl ?_; refine WP.skip (WP.next (WP.seq ?_))
   refine WP.region [0, 1, 2, 3, 4] rfl ?_; iterate 2 refine WP.mv rfl rfl ?_
   refine WP.vl rfl (Yld.indexAddr (i := i) rfl ty_sl_25 rfl rfl hi) ?_; refine WP.vl rfl (Yld.loadC (v := .int .u8 (x.toNat : Int)) rfl ty_sc_5 rfl (There.i hbb) hxb) ?_; refine WP.mv rfl rfl ?_; refine WP.nil ?_; refine WP.sub [(0, _), (1, _), (7, _), (8, _), (9, _), (10, _), (11, _), (16, _)] ?_ ⟨rfl, rfl, rfl, rfl, rfl, rfl, rfl, rfl, trivial⟩
   refine WP.next (WP.seq (WP.block (WP.seq ?_)))
   refine WP.region [0, 1, 2] rfl ?_; refine WP.mv rfl rfl ?_; refine WP.split rfl rfl rfl rfl (Yld.geq rfl rfl rfl) (fun hc => ?_) (fun hc => ?_)
   ·refine WP.mv rfl rfl ?_
    refine WP.nil ?_; refine WP.sub [(0, _), (1, _), (7, _), (8, _), (9, _), (10, _), (11, _), (16, _), (21, _)] ?_ ⟨rfl, rfl, rfl, rfl, rfl, rfl, rfl, rfl, rfl, trivial⟩
    refine WP.next ?_; refine WP.condT rfl ?_; refine WP.seq ?_; refine WP.region [0, 1, 2, 3, 4, 5, 6, 7, 8] rfl ?_; iterate 2 refine WP.mv rfl rfl ?_
    refine WP.vl rfl (Yld.sub8N x.toNat 128 (by omega) (by omega) rfl rfl rfl) ?_; refine WP.vl rfl (Yld.conv64u (x.toNat - 128) rfl ty_un_5 ty_ik_62 rfl (by omega)) ?_; refine WP.mv rfl rfl ?_; refine WP.vl rfl (Yld.mul64 rfl rfl rfl (by omega)) ?_; refine WP.vl rfl (Yld.shlU64 (x.toNat - 128) (7 * i) rfl rfl (congrArg (fun z => some (Value.int .i64 z)) (show (7 : Int) * (i : Int) = ((7 * i : Nat) : Int) by omega)) (by omega)) ?_; refine WP.vl rfl (Yld.orU64 a _ ha (Nat.mod_lt _ (by decide)) rfl rfl rfl) ?_; refine WP.mv rfl rfl ?_; refine WP.nil ?_; refine WP.sub [(0, _), (1, _), (7, _), (8, _), (9, _), (10, _), (11, _), (16, _), (21, _)] ?_ ⟨rfl, rfl, rfl, rfl, rfl, rfl, rfl, rfl, rfl, trivial⟩
    refine WP.next (WP.exit ?_)
    refine WP.miss rfl ?_; refine WP.thenE (WP.hit (WP.next ?_))
    refine WP.region [0, 1] rfl ?_; refine WP.vl rfl (Yld.add64 rfl rfl rfl (by omega)) ?_; refine WP.mv rfl rfl ?_; refine WP.nil ?_; refine WP.sub [(0, _), (1, _), (7, _), (8, _), (9, _), (10, _), (11, _), (16, _), (21, _)] ?_ ⟨rfl, rfl, rfl, rfl, rfl, rfl, rfl, rfl, rfl, trivial⟩
    exact WP.ag (i + 1, a ||| ((x.toNat - 128) * 2 ^ (7 * i) % 18446744073709551616)) ⟨by omega, hi, Nat.or_lt_two_pow (n := 64) ha (Nat.mod_lt _ (by decide)), by dsimp only; rw [if_pos (by omega)] at hinv; rw [show 10 - (i + 1) = k by omega]; exact hinv⟩ (show 10 - (i + 1) < 10 - i by omega) ⟨rfl, rfl, rfl, rfl, trivial⟩ rfl
   ·refine WP.mv rfl rfl ?_
    refine WP.nil ?_; refine WP.sub [(0, _), (1, _), (7, _), (8, _), (9, _), (10, _), (11, _), (16, _), (21, _)] ?_ ⟨rfl, rfl, rfl, rfl, rfl, rfl, rfl, rfl, rfl, trivial⟩
    refine WP.next ?_; refine WP.condF rfl ?_; refine WP.seq ?_; refine WP.region [0, 1, 2, 3, 4, 5, 6] rfl ?_; refine WP.mv rfl rfl ?_; refine WP.split rfl rfl rfl rfl (Yld.eql rfl rfl rfl) (fun hz => ?_) (fun hz => ?_)
    ·refine WP.mv rfl rfl ?_
     refine WP.valG rfl rfl rfl rfl rfl rfl rfl (Yld.move rfl rfl) ?_; refine WP.splitG rfl rfl rfl rfl rfl rfl rfl (Yld.gtr rfl rfl rfl) (fun hz0 => ?_) (fun hz0 => ?_)
     ·refine WP.vl rfl (Yld.pickT rfl rfl rfl) ?_
      refine WP.mv rfl rfl ?_; refine WP.nil ?_; refine WP.sub [(0, _), (1, _), (7, _), (8, _), (9, _), (10, _), (11, _), (16, _), (21, _), (32, _)] ?_ ⟨rfl, rfl, rfl, rfl, rfl, rfl, rfl, rfl, rfl, rfl, trivial⟩
      refine WP.next ?_; refine WP.condT rfl ?_; refine WP.seq ?_; refine WP.region [0, 1, 2] rfl ?_; iterate 3 refine WP.mv rfl rfl ?_
      refine WP.nil (WP.next (WP.ret ?_))
      refine WP.fn .ret (.inr rfl) (res3 rfl rfl rfl rfl) [] (Imm.le_refl _) ?_; rw [if_neg (by omega)] at hinv
      rw [if_pos ⟨by omega, by omega⟩] at hinv
      rw [← hinv]; exact ⟨rfl, rfl, rfl⟩
     ·refine WP.vl rfl (Yld.pickT rfl rfl rfl) ?_
      refine WP.mv rfl rfl ?_; refine WP.nil ?_; refine WP.sub [(0, _), (1, _), (7, _), (8, _), (9, _), (10, _), (11, _), (16, _), (21, _), (32, _)] ?_ ⟨rfl, rfl, rfl, rfl, rfl, rfl, rfl, rfl, rfl, rfl, trivial⟩
      refine WP.next ?_; refine WP.condF rfl ?_; refine WP.seq ?_; refine WP.region [0, 1, 2, 3, 4, 5, 6] rfl ?_; refine WP.mv rfl rfl ?_; refine WP.split rfl rfl rfl rfl (Yld.eql rfl rfl rfl) (fun h9 => ?_) (fun h9 => ?_)
      ·refine WP.mv rfl rfl ?_
       refine WP.valG rfl rfl rfl rfl rfl rfl rfl (Yld.move rfl rfl) ?_; refine WP.splitG rfl rfl rfl rfl rfl rfl rfl (Yld.gtr rfl rfl rfl) (fun h91 => ?_) (fun h91 => ?_)
       ·refine WP.vl rfl (Yld.pickT rfl rfl rfl) ?_
        refine WP.mv rfl rfl ?_; refine WP.nil ?_; refine WP.sub [(0, _), (1, _), (7, _), (8, _), (9, _), (10, _), (11, _), (16, _), (21, _), (32, _), (39, _)] ?_ ⟨rfl, rfl, rfl, rfl, rfl, rfl, rfl, rfl, rfl, rfl, rfl, trivial⟩
        refine WP.next ?_; refine WP.condT rfl ?_; refine WP.seq ?_; refine WP.region [0, 1, 2] rfl ?_; iterate 3 refine WP.mv rfl rfl ?_
        refine WP.nil (WP.next (WP.ret ?_))
        refine WP.fn .ret (.inr rfl) (res3 rfl rfl rfl rfl) [] (Imm.le_refl _) ?_; rw [if_neg (by omega)] at hinv
        rw [if_neg (by omega)] at hinv
        rw [if_pos ⟨by omega, by omega⟩] at hinv
        rw [← hinv]; exact ⟨rfl, rfl, rfl⟩
       ·refine WP.vl rfl (Yld.pickT rfl rfl rfl) ?_
        refine WP.mv rfl rfl ?_; refine WP.nil ?_; refine WP.sub [(0, _), (1, _), (7, _), (8, _), (9, _), (10, _), (11, _), (16, _), (21, _), (32, _), (39, _)] ?_ ⟨rfl, rfl, rfl, rfl, rfl, rfl, rfl, rfl, rfl, rfl, rfl, trivial⟩
        refine WP.next ?_; refine WP.condF rfl ?_; refine WP.skip (WP.leave (WP.next (WP.seq ?_)))
        refine WP.region [0, 1, 2, 3, 4, 5, 6, 7] rfl ?_; iterate 2 refine WP.mv rfl rfl ?_
        refine WP.vl rfl (Yld.conv64u x.toNat rfl ty_un_5 ty_ik_62 rfl (by omega)) ?_; refine WP.mv rfl rfl ?_; refine WP.vl rfl (Yld.mul64 rfl rfl rfl (by omega)) ?_; refine WP.vl rfl (Yld.shlU64 x.toNat (7 * i) rfl rfl (congrArg (fun z => some (Value.int .i64 z)) (show (7 : Int) * (i : Int) = ((7 * i : Nat) : Int) by omega)) (by omega)) ?_; refine WP.vl rfl (Yld.orU64 a _ ha (Nat.mod_lt _ (by decide)) rfl rfl rfl) ?_; refine WP.mv rfl rfl ?_; refine WP.nil ?_; refine WP.sub [(0, _), (1, _), (7, _), (8, _), (9, _), (10, _), (11, _), (16, _), (21, _), (32, _), (39, _)] ?_ ⟨rfl, rfl, rfl, rfl, rfl, rfl, rfl, rfl, rfl, rfl, rfl, trivial⟩
        refine WP.next (WP.seq (WP.seq ?_))
        refine WP.region [0, 1, 2] rfl ?_; iterate 2 refine WP.mv rfl rfl ?_
        refine WP.split rfl rfl rfl rfl (Yld.gtr rfl rfl rfl) (fun hbig => ?_) (fun hbig => ?_)
        ·refine WP.nil ?_
         refine WP.sub [(0, _), (1, _), (7, _), (8, _), (9, _), (10, _), (11, _), (16, _), (21, _), (32, _), (39, _), (55, _)] ?_ ⟨rfl, rfl, rfl, rfl, rfl, rfl, rfl, rfl, rfl, rfl, rfl, rfl, trivial⟩
         refine WP.next ?_; refine WP.condT rfl ?_; refine WP.seq ?_; refine WP.region [0, 1, 2] rfl ?_; iterate 3 refine WP.mv rfl rfl ?_
         refine WP.nil (WP.next (WP.ret ?_))
         refine WP.fn .ret (.inr rfl) (res3 rfl rfl rfl rfl) [] (Imm.le_refl _) ?_; rw [if_neg (by omega)] at hinv
         rw [if_neg (by omega)] at hinv
         rw [if_neg (by omega)] at hinv
         rw [if_pos (by omega)] at hinv
         rw [← hinv]; exact ⟨rfl, rfl, rfl⟩
        ·refine WP.nil ?_
         refine WP.sub [(0, _), (1, _), (7, _), (8, _), (9, _), (10, _), (11, _), (16, _), (21, _), (32, _), (39, _), (55, _)] ?_ ⟨rfl, rfl, rfl, rfl, rfl, rfl, rfl, rfl, rfl, rfl, rfl, rfl, trivial⟩
         refine WP.next ?_; refine WP.condF rfl ?_; refine WP.skip (WP.next (WP.seq ?_))
         refine WP.region [0, 1, 2, 3, 4, 5] rfl ?_; iterate 2 refine WP.mv rfl rfl ?_
         refine WP.vl rfl (Yld.add64 rfl rfl rfl (by omega)) ?_; iterate 3 refine WP.mv rfl rfl ?_
         refine WP.nil ?_; refine WP.sub [(0, _), (1, _), (4, _), (5, _), (6, _), (7, _), (8, _), (9, _), (10, _), (11, _), (16, _), (21, _), (32, _), (39, _), (55, _)] ?_ ⟨rfl, rfl, rfl, rfl, rfl, rfl, rfl, rfl, rfl, rfl, rfl, rfl, rfl, rfl, rfl, trivial⟩
         refine WP.next (WP.ret ?_)
         refine WP.fn .ret (.inr rfl) (res3 rfl rfl rfl rfl) [] (Imm.le_refl _) ?_; rw [if_neg (by omega)] at hinv
         rw [if_neg (by omega)] at hinv
         rw [if_neg (by omega)] at hinv
         rw [if_neg (by omega)] at hinv
         rw [← hinv]; exact ⟨rfl, rfl, rfl⟩
      ·refine WP.mv rfl rfl ?_
       iterate 2 refine WP.passG rfl rfl rfl rfl rfl rfl rfl rfl ?_
       refine WP.vl rfl (Yld.pickF rfl rfl rfl) ?_; refine WP.mv rfl rfl ?_; refine WP.nil ?_; refine WP.sub [(0, _), (1, _), (7, _), (8, _), (9, _), (10, _), (11, _), (16, _), (21, _), (32, _), (39, _)] ?_ ⟨rfl, rfl, rfl, rfl, rfl, rfl, rfl, rfl, rfl, rfl, rfl, trivial⟩
       refine WP.next ?_; refine WP.condF rfl ?_; refine WP.skip (WP.leave (WP.next (WP.seq ?_)))
       refine WP.region [0, 1, 2, 3, 4, 5, 6, 7] rfl ?_; iterate 2 refine WP.mv rfl rfl ?_
       refine WP.vl rfl (Yld.conv64u x.toNat rfl ty_un_5 ty_ik_62 rfl (by omega)) ?_; refine WP.mv rfl rfl ?_; refine WP.vl rfl (Yld.mul64 rfl rfl rfl (by omega)) ?_; refine WP.vl rfl (Yld.shlU64 x.toNat (7 * i) rfl rfl (congrArg (fun z => some (Value.int .i64 z)) (show (7 : Int) * (i : Int) = ((7 * i : Nat) : Int) by omega)) (by omega)) ?_; refine WP.vl rfl (Yld.orU64 a _ ha (Nat.mod_lt _ (by decide)) rfl rfl rfl) ?_; refine WP.mv rfl rfl ?_; refine WP.nil ?_; refine WP.sub [(0, _), (1, _), (7, _), (8, _), (9, _), (10, _), (11, _), (16, _), (21, _), (32, _), (39, _)] ?_ ⟨rfl, rfl, rfl, rfl, rfl, rfl, rfl, rfl, rfl, rfl, rfl, trivial⟩
       refine WP.next (WP.seq (WP.seq ?_))
       refine WP.region [0, 1, 2] rfl ?_; iterate 2 refine WP.mv rfl rfl ?_
       refine WP.split rfl rfl rfl rfl (Yld.gtr rfl rfl rfl) (fun hbig => ?_) (fun hbig => ?_)
       ·refine WP.nil ?_
        refine WP.sub [(0, _), (1, _), (7, _), (8, _), (9, _), (10, _), (11, _), (16, _), (21, _), (32, _), (39, _), (55, _)] ?_ ⟨rfl, rfl, rfl, rfl, rfl, rfl, rfl, rfl, rfl, rfl, rfl, rfl, trivial⟩
        refine WP.next ?_; refine WP.condT rfl ?_; refine WP.seq ?_; refine WP.region [0, 1, 2] rfl ?_; iterate 3 refine WP.mv rfl rfl ?_
        refine WP.nil (WP.next (WP.ret ?_))
        refine WP.fn .ret (.inr rfl) (res3 rfl rfl rfl rfl) [] (Imm.le_refl _) ?_; rw [if_neg (by omega)] at hinv
        rw [if_neg (by omega)] at hinv
        rw [if_neg (by omega)] at hinv
        rw [if_pos (by omega)] at hinv
        rw [← hinv]; exact ⟨rfl, rfl, rfl⟩
       ·refine WP.nil ?_
        refine WP.sub [(0, _), (1, _), (7, _), (8, _), (9, _), (10, _), (11, _), (16, _), (21, _), (32, _), (39, _), (55, _)] ?_ ⟨rfl, rfl, rfl, rfl, rfl, rfl, rfl, rfl, rfl, rfl, rfl, rfl, trivial⟩
        refine WP.next ?_; refine WP.condF rfl ?_; refine WP.skip (WP.next (WP.seq ?_))
        refine WP.region [0, 1, 2, 3, 4, 5] rfl ?_; iterate 2 refine WP.mv rfl rfl ?_
        refine WP.vl rfl (Yld.add64 rfl rfl rfl (by omega)) ?_; iterate 3 refine WP.mv rfl rfl ?_
        refine WP.nil ?_; refine WP.sub [(0, _), (1, _), (4, _), (5, _), (6, _), (7, _), (8, _), (9, _), (10, _), (11, _), (16, _), (21, _), (32, _), (39, _), (55, _)] ?_ ⟨rfl, rfl, rfl, rfl, rfl, rfl, rfl, rfl, rfl, rfl, rfl, rfl, rfl, rfl, rfl, trivial⟩
        refine WP.next (WP.ret ?_)
        refine WP.fn .ret (.inr rfl) (res3 rfl rfl rfl rfl) [] (Imm.le_refl _) ?_; rw [if_neg (by omega)] at hinv
        rw [if_neg (by omega)] at hinv
        rw [if_neg (by omega)] at hinv
        rw [if_neg (by omega)] at hinv
        rw [← hinv]; exact ⟨rfl, rfl, rfl⟩
    ·refine WP.mv rfl rfl ?_
     iterate 2 refine WP.passG rfl rfl rfl rfl rfl rfl rfl rfl ?_
     refine WP.vl rfl (Yld.pickF rfl rfl rfl) ?_; refine WP.mv rfl rfl ?_; refine WP.nil ?_; refine WP.sub [(0, _), (1, _), (7, _), (8, _), (9, _), (10, _), (11, _), (16, _), (21, _), (32, _)] ?_ ⟨rfl, rfl, rfl, rfl, rfl, rfl, rfl, rfl, rfl, rfl, trivial⟩
     refine WP.next ?_; refine WP.condF rfl ?_; refine WP.seq ?_; refine WP.region [0, 1, 2, 3, 4, 5, 6] rfl ?_; refine WP.mv rfl rfl ?_; refine WP.split rfl rfl rfl rfl (Yld.eql rfl rfl rfl) (fun h9 => ?_) (fun h9 => ?_)
     ·refine WP.mv rfl rfl ?_
      refine WP.valG rfl rfl rfl rfl rfl rfl rfl (Yld.move rfl rfl) ?_; refine WP.splitG rfl rfl rfl rfl rfl rfl rfl (Yld.gtr rfl rfl rfl) (fun h91 => ?_) (fun h91 => ?_)
      ·refine WP.vl rfl (Yld.pickT rfl rfl rfl) ?_
       refine WP.mv rfl rfl ?_; refine WP.nil ?_; refine WP.sub [(0, _), (1, _), (7, _), (8, _), (9, _), (10, _), (11, _), (16, _), (21, _), (32, _), (39, _)] ?_ ⟨rfl, rfl, rfl, rfl, rfl, rfl, rfl, rfl, rfl, rfl, rfl, trivial⟩
       refine WP.next ?_; refine WP.condT rfl ?_; refine WP.seq ?_; refine WP.region [0, 1, 2] rfl ?_; iterate 3 refine WP.mv rfl rfl ?_
       refine WP.nil (WP.next (WP.ret ?_))
       refine WP.fn .ret (.inr rfl) (res3 rfl rfl rfl rfl) [] (Imm.le_refl _) ?_; rw [if_neg (by omega)] at hinv
       rw [if_neg (by omega)] at hinv
       rw [if_pos ⟨by omega, by omega⟩] at hinv
       rw [← hinv]; exact ⟨rfl, rfl, rfl⟩
      ·refine WP.vl rfl (Yld.pickT rfl rfl rfl) ?_
       refine WP.mv rfl rfl ?_; refine WP.nil ?_; refine WP.sub [(0, _), (1, _), (7, _), (8, _), (9, _), (10, _), (11, _), (16, _), (21, _), (32, _), (39, _)] ?_ ⟨rfl, rfl, rfl, rfl, rfl, rfl, rfl, rfl, rfl, rfl, rfl, trivial⟩
       refine WP.next ?_; refine WP.condF rfl ?_; refine WP.skip (WP.leave (WP.next (WP.seq ?_)))
       refine WP.region [0, 1, 2, 3, 4, 5, 6, 7] rfl ?_; iterate 2 refine WP.mv rfl rfl ?_
       refine WP.vl rfl (Yld.conv64u x.toNat rfl ty_un_5 ty_ik_62 rfl (by omega)) ?_; refine WP.mv rfl rfl ?_; refine WP.vl rfl (Yld.mul64 rfl rfl rfl (by omega)) ?_; refine WP.vl rfl (Yld.shlU64 x.toNat (7 * i) rfl rfl (congrArg (fun z => some (Value.int .i64 z)) (show (7 : Int) * (i : Int) = ((7 * i : Nat) : Int) by omega)) (by omega)) ?_; refine WP.vl rfl (Yld.orU64 a _ ha (Nat.mod_lt _ (by decide)) rfl rfl rfl) ?_; refine WP.mv rfl rfl ?_; refine WP.nil ?_; refine WP.sub [(0, _), (1, _), (7, _), (8, _), (9, _), (10, _), (11, _), (16, _), (21, _), (32, _), (39, _)] ?_ ⟨rfl, rfl, rfl, rfl, rfl, rfl, rfl, rfl, rfl, rfl, rfl, trivial⟩
       refine WP.next (WP.seq (WP.seq ?_))
       refine WP.region [0, 1, 2] rfl ?_; iterate 2 refine WP.mv rfl rfl ?_
       refine WP.split rfl rfl rfl rfl (Yld.gtr rfl rfl rfl) (fun hbig => ?_) (fun hbig => ?_)
       ·refine WP.nil ?_
        refine WP.sub [(0, _), (1, _), (7, _), (8, _), (9, _), (10, _), (11, _), (16, _), (21, _), (32, _), (39, _), (55, _)] ?_ ⟨rfl, rfl, rfl, rfl, rfl, rfl, rfl, rfl, rfl, rfl, rfl, rfl, trivial⟩
        refine WP.next ?_; refine WP.condT rfl ?_; refine WP.seq ?_; refine WP.region [0, 1, 2] rfl ?_; iterate 3 refine WP.mv rfl rfl ?_
        refine WP.nil (WP.next (WP.ret ?_))
        refine WP.fn .ret (.inr rfl) (res3 rfl rfl rfl rfl) [] (Imm.le_refl _) ?_; rw [if_neg (by omega)] at hinv
        rw [if_neg (by omega)] at hinv
        rw [if_neg (by omega)] at hinv
        rw [if_pos (by omega)] at hinv
        rw [← hinv]; exact ⟨rfl, rfl, rfl⟩
       ·refine WP.nil ?_
        refine WP.sub [(0, _), (1, _), (7, _), (8, _), (9, _), (10, _), (11, _), (16, _), (21, _), (32, _), (39, _), (55, _)] ?_ ⟨rfl, rfl, rfl, rfl, rfl, rfl, rfl, rfl, rfl, rfl, rfl, rfl, trivial⟩
        refine WP.next ?_; refine WP.condF rfl ?_; refine WP.skip (WP.next (WP.seq ?_))
        refine WP.region [0, 1, 2, 3, 4, 5] rfl ?_; iterate 2 refine WP.mv rfl rfl ?_
        refine WP.vl rfl (Yld.add64 rfl rfl rfl (by omega)) ?_; iterate 3 refine WP.mv rfl rfl ?_
        refine WP.nil ?_; refine WP.sub [(0, _), (1, _), (4, _), (5, _), (6, _), (7, _), (8, _), (9, _), (10, _), (11, _), (16, _), (21, _), (32, _), (39, _), (55, _)] ?_ ⟨rfl, rfl, rfl, rfl, rfl, rfl, rfl, rfl, rfl, rfl, rfl, rfl, rfl, rfl, rfl, trivial⟩
        refine WP.next (WP.ret ?_)
        refine WP.fn .ret (.inr rfl) (res3 rfl rfl rfl rfl) [] (Imm.le_refl _) ?_; rw [if_neg (by omega)] at hinv
        rw [if_neg (by omega)] at hinv
        rw [if_neg (by omega)] at hinv
        rw [if_neg (by omega)] at hinv
        rw [← hinv]; exact ⟨rfl, rfl, rfl⟩
     ·refine WP.mv rfl rfl ?_
      iterate 2 refine WP.passG rfl rfl rfl rfl rfl rfl rfl rfl ?_
      refine WP.vl rfl (Yld.pickF rfl rfl rfl) ?_; refine WP.mv rfl rfl ?_; refine WP.nil ?_; refine WP.sub [(0, _), (1, _), (7, _), (8, _), (9, _), (10, _), (11, _), (16, _), (21, _), (32, _), (39, _)] ?_ ⟨rfl, rfl, rfl, rfl, rfl, rfl, rfl, rfl, rfl, rfl, rfl, trivial⟩
      refine WP.next ?_; refine WP.condF rfl ?_; refine WP.skip (WP.leave (WP.next (WP.seq ?_)))
      refine WP.region [0, 1, 2, 3, 4, 5, 6, 7] rfl ?_; iterate 2 refine WP.mv rfl rfl ?_
      refine WP.vl rfl (Yld.conv64u x.toNat rfl ty_un_5 ty_ik_62 rfl (by omega)) ?_; refine WP.mv rfl rfl ?_; refine WP.vl rfl (Yld.mul64 rfl rfl rfl (by omega)) ?_; refine WP.vl rfl (Yld.shlU64 x.toNat (7 * i) rfl rfl (congrArg (fun z => some (Value.int .i64 z)) (show (7 : Int) * (i : Int) = ((7 * i : Nat) : Int) by omega)) (by omega)) ?_; refine WP.vl rfl (Yld.orU64 a _ ha (Nat.mod_lt _ (by decide)) rfl rfl rfl) ?_; refine WP.mv rfl rfl ?_; refine WP.nil ?_; refine WP.sub [(0, _), (1, _), (7, _), (8, _), (9, _), (10, _), (11, _), (16, _), (21, _), (32, _), (39, _)] ?_ ⟨rfl, rfl, rfl, rfl, rfl, rfl, rfl, rfl, rfl, rfl, rfl, trivial⟩
      refine WP.next (WP.seq (WP.seq ?_))
      refine WP.region [0, 1, 2] rfl ?_; iterate 2 refine WP.mv rfl rfl ?_
      refine WP.split rfl rfl rfl rfl (Yld.gtr rfl rfl rfl) (fun hbig => ?_) (fun hbig => ?_)
      ·refine WP.nil ?_
       refine WP.sub [(0, _), (1, _), (7, _), (8, _), (9, _), (10, _), (11, _), (16, _), (21, _), (32, _), (39, _), (55, _)] ?_ ⟨rfl, rfl, rfl, rfl, rfl, rfl, rfl, rfl, rfl, rfl, rfl, rfl, trivial⟩
       refine WP.next ?_; refine WP.condT rfl ?_; refine WP.seq ?_; refine WP.region [0, 1, 2] rfl ?_; iterate 3 refine WP.mv rfl rfl ?_
       refine WP.nil (WP.next (WP.ret ?_))
       refine WP.fn .ret (.inr rfl) (res3 rfl rfl rfl rfl) [] (Imm.le_refl _) ?_; rw [if_neg (by omega)] at hinv
       rw [if_neg (by omega)] at hinv
       rw [if_neg (by omega)] at hinv
       rw [if_pos (by omega)] at hinv
       rw [← hinv]; exact ⟨rfl, rfl, rfl⟩
      ·refine WP.nil ?_
       refine WP.sub [(0, _), (1, _), (7, _), (8, _), (9, _), (10, _), (11, _), (16, _), (21, _), (32, _), (39, _), (55, _)] ?_ ⟨rfl, rfl, rfl, rfl, rfl, rfl, rfl, rfl, rfl, rfl, rfl, rfl, trivial⟩
       refine WP.next ?_; refine WP.condF rfl ?_; refine WP.skip (WP.next (WP.seq ?_))
       refine WP.region [0, 1, 2, 3, 4, 5] rfl ?_; iterate 2 refine WP.mv rfl rfl ?_
       refine WP.vl rfl (Yld.add64 rfl rfl rfl (by omega)) ?_; iterate 3 refine WP.mv rfl rfl ?_
       refine WP.nil ?_; refine WP.sub [(0, _), (1, _), (4, _), (5, _), (6, _), (7, _), (8, _), (9, _), (10, _), (11, _), (16, _), (21, _), (32, _), (39, _), (55, _)] ?_ ⟨rfl, rfl, rfl, rfl, rfl, rfl, rfl, rfl, rfl, rfl, rfl, rfl, rfl, rfl, rfl, trivial⟩
       refine WP.next (WP.ret ?_)
       refine WP.fn .ret (.inr rfl) (res3 rfl rfl rfl rfl) [] (Imm.le_refl _) ?_; rw [if_neg (by omega)] at hinv
       rw [if_neg (by omega)] at hinv
       rw [if_neg (by omega)] at hinv
       rw [if_neg (by omega)] at hinv
       rw [← hinv]; exact ⟨rfl, rfl, rfl⟩
 ·have h0 : 10 - i = 0 := by omega
  rw [h0] at hinv
  refine WP.nil (WP.next (WP.seq ?_))
  refine WP.condF rfl ?_; refine WP.exit (WP.thenE (WP.thenE (WP.hit (WP.next (WP.seq ?_)))))
  refine WP.region [0, 1, 2] rfl ?_; iterate 3 refine WP.mv rfl rfl ?_
  refine WP.nil (WP.next (WP.ret ?_))
  refine WP.fn .ret (.inr rfl) (res3 rfl rfl rfl rfl) [] (Imm.le_refl _) ?_; rw [← hinv]; exact ⟨rfl, rfl, rfl⟩


/-- A Reader. -/
inductive IsRd (I : Imm) (q : Nat) (s : Rs) : Chunks → Prop
 | mk {v : Value} (h : SlRd (Im I) v s.bs.length 1 (bytesV s.bs)) (hl : s.bs.length ≤ 140737488355328) : IsRd I q s [(q, row 91 [v, .int .i64 s.e])]
theorem IsRd.mono {I J : Imm} {q : Nat} {s : Rs} {L : Chunks} (h : IsRd I q s L) (hJ : I.le J) : IsRd J q s L := by
 cases h with | mk h hl => exact .mk (h.mono fun b o k => hJ.2 b o k) hl
theorem code_NewReader {I : Imm} {b : List UInt8} {vb : Value} (hb : SlRd (Im I) vb b.length 1 (bytesV b)) (hl : b.length ≤ 140737488355328) : Spec Tryz.prog 21 [vb] I [] (fun v J L => ∃ q, v = .pointer (some ⟨q, 0, none⟩) ∧ IsRd J q ⟨b, 0⟩ L) := by
 refine Spec.of Tryz.func21 rfl Tryz.ntmps21 (Nat.le_of_ble_eq_true rfl) (fun F => ?_)
 try simp only [nf]
 dsimp only [argsEnv]
 refine WP.seq ?_; refine WP.region [0] rfl ?_; refine WP.mv rfl rfl ?_; refine WP.nil (WP.next (WP.seq ?_))
 refine WP.region [0, 1, 2, 3, 4] rfl ?_; refine WP.mv rfl rfl ?_; refine WP.loud rfl rfl ?_; refine Op.cl (code_copied hb hl) rfl Tryz.func33 rfl rfl rfl rfl ?_; rintro v J Lc - ⟨rfl, hc⟩
 try simp only [nf]
 obtain ⟨Ac, cc, rfl, _⟩ := hc.slice
 refine WP.vl rfl (Yld.buildS (pl := [(0, 0, 1)]) rfl ty_zr_91 ty_zd_91 zK rfl (vs := [_]) rfl (segs := [(0, [_])]) rfl rfl zS) ?_; refine WP.loud rfl rfl ?_; refine Op.box rfl rfl rfl rfl rfl (fun q => ?_)
 refine WP.mv rfl rfl ?_; refine WP.nil ?_; refine WP.sub [(0, _), (2, _)] ?_ ⟨rfl, rfl, trivial⟩
 refine WP.shO hc (fun J2 hJ2 hd => ?_)
 refine WP.next (WP.ret ?_)
 refine WP.fn .ret (.inr rfl) (res1 rfl rfl) [(q, row 91 [(.slice Ac b.length cc), .int .i64 0])] hJ2 ?_; exact ⟨q, rfl, .mk (s := ⟨b, 0⟩) hd hl⟩

theorem code_RNum {I : Imm} {q : Nat} {s : Rs} {L : Chunks} (hq : IsRd I q s L) {most : Nat} : Spec Tryz.prog 23 [.pointer (some ⟨q, 0, none⟩), .int .u64 (most : Int)] I L (fun v J L' => v = .int .u64 ((rNum most s).1 : Int) ∧ I = J ∧ IsRd I q (rNum most s).2 L') := by
 cases hq with
 | @mk v hb hl =>
 obtain ⟨Av, cv, rfl, hcv, _, _⟩ := id hb
 refine Spec.of Tryz.func23 rfl Tryz.ntmps23 (Nat.le_of_ble_eq_true rfl) (fun F => ?_)
 try simp only [nf]
 dsimp only [argsEnv]
 refine WP.seq ?_; refine WP.region [0] rfl ?_; refine WP.mv rfl rfl ?_; refine WP.nil (WP.next (WP.seq (WP.seq ?_)))
 refine WP.region [0, 1, 2, 3, 4] rfl ?_; refine WP.mv rfl rfl ?_; refine WP.vl rfl (Yld.nilCheck rfl rfl) ?_; refine WP.vl rfl (Yld.fieldAddr rfl ty_fd_91_1 rfl) ?_; refine WP.vl rfl (Yld.ld (v := .int .i64 s.e) rfl ty_sc_27 rfl rfl) ?_; refine WP.split rfl rfl rfl rfl (Yld.neq rfl rfl rfl) (fun he => ?_) (fun he => ?_)
 ·refine WP.nil ?_
  refine WP.sub [(0, _), (1, _), (4, _), (12, _)] ?_ ⟨rfl, rfl, rfl, rfl, trivial⟩
  refine WP.next ?_; refine WP.condT rfl ?_; refine WP.seq ?_; refine WP.region [0] rfl ?_; refine WP.mv rfl rfl ?_; refine WP.nil (WP.next (WP.ret ?_))
  refine WP.fn .ret (.inr rfl) (res1 rfl rfl) [(q, row 91 [(.slice Av s.bs.length cv), .int .i64 s.e])] (Imm.le_refl _) ?_; have e : rNum most s = (0, s) := if_neg he
  rw [e]; exact ⟨rfl, rfl, .mk hb hl⟩
 ·refine WP.nil ?_
  refine WP.sub [(0, _), (1, _), (4, _), (12, _)] ?_ ⟨rfl, rfl, rfl, rfl, trivial⟩
  refine WP.next ?_; refine WP.condF rfl ?_; refine WP.skip (WP.next (WP.seq ?_))
  refine WP.region [0, 1, 2, 3, 4, 5, 6, 7, 8, 9, 10, 11, 12] rfl ?_; refine WP.mv rfl rfl ?_; refine WP.vl rfl (Yld.nilCheck rfl rfl) ?_; refine WP.vl rfl (Yld.fieldAddr rfl ty_fd_91_0 rfl) ?_; refine WP.vl rfl (Yld.ld (v := .slice Av s.bs.length cv) rfl ty_sc_25 rfl rfl) ?_; refine WP.mv rfl rfl ?_; refine WP.loud rfl rfl ?_; refine Op.cl (code_number (most := most) hb hl) rfl Tryz.func35 rfl rfl rfl rfl ?_; rintro v J L1 - ⟨rfl, rfl, rfl⟩
  try simp only [nf]
  refine WP.mv rfl rfl ?_; iterate 3 refine WP.vl rfl (Yld.extract rfl rfl rfl) ?_
  iterate 3 refine WP.mv rfl rfl ?_
  refine WP.nil ?_; refine WP.sub [(0, _), (1, _), (4, _), (5, _), (6, _), (7, _), (12, _)] ?_ ⟨rfl, rfl, rfl, rfl, rfl, rfl, rfl, trivial⟩
  refine WP.next (WP.seq ?_)
  refine WP.region [0, 1, 2, 3, 4, 5, 6, 7, 8, 9, 10, 11, 12, 13, 14] rfl ?_; iterate 3 refine WP.mv rfl rfl ?_
  refine WP.vl rfl (Yld.nilCheck rfl rfl) ?_; refine WP.vl rfl (Yld.fieldAddr rfl ty_fd_91_0 rfl) ?_; refine WP.vl rfl (Yld.ld (v := .slice Av s.bs.length cv) rfl ty_sc_25 rfl rfl) ?_; refine WP.mv rfl rfl ?_; refine WP.vl rfl (Yld.slice (l := (rdN most 10 0 0 s.bs).2.1) (h := s.bs.length) rfl ty_sl_25 rfl (Env.limS rfl) rfl rdN_bs (by omega)) ?_; refine WP.mv rfl rfl ?_; refine WP.vl rfl (Yld.nilCheck rfl rfl) ?_; refine WP.vl rfl (Yld.fieldAddr rfl ty_fd_91_0 rfl) ?_; refine WP.loud rfl rfl ?_; refine Op.s1 rfl rfl ty_sz_25 rfl rfl rfl ?_; refine WP.vl rfl (Yld.nilCheck rfl rfl) ?_; refine WP.vl rfl (Yld.fieldAddr rfl ty_fd_91_1 rfl) ?_; refine WP.loud rfl rfl ?_; refine Op.s1 rfl rfl ty_sz_27 rfl rfl rfl ?_; refine WP.nil ?_; refine WP.sub [(0, _), (1, _), (4, _), (5, _), (6, _), (7, _), (12, _)] ?_ ⟨rfl, rfl, rfl, rfl, rfl, rfl, rfl, trivial⟩
  refine WP.next (WP.seq ?_)
  refine WP.region [0, 1] rfl ?_; iterate 2 refine WP.mv rfl rfl ?_
  refine WP.nil ?_; refine WP.sub [(0, _), (1, _), (4, _), (5, _), (6, _), (7, _), (12, _)] ?_ ⟨rfl, rfl, rfl, rfl, rfl, rfl, rfl, trivial⟩
  refine WP.next (WP.ret ?_)
  refine WP.fn .ret (.inr rfl) (res1 rfl rfl) [(q, row 91 [(subSl 1 (rdN most 10 0 0 s.bs).2.1 s.bs.length (.slice Av s.bs.length cv)), .int .i64 (rdN most 10 0 0 s.bs).2.2])] (Imm.le_refl _) ?_; have e : rNum most s = _ := if_pos (by simpa using he)
  rw [e]; exact ⟨rfl, rfl, .mk (s := ⟨_, _⟩) (hb.dropB rdN_bs) (by rw [List.length_drop]; omega)⟩

theorem code_RDone {I : Imm} {q : Nat} {s : Rs} {L : Chunks} (hq : IsRd I q s L) : Spec Tryz.prog 24 [.pointer (some ⟨q, 0, none⟩)] I L (fun v J L' => v = .int .i64 s.done ∧ I = J ∧ IsRd I q s L') := by
 cases hq with
 | @mk v hb hl =>
 obtain ⟨Av, cv, rfl, hcv, _, _⟩ := id hb
 refine Spec.of Tryz.func24 rfl Tryz.ntmps24 (Nat.le_of_ble_eq_true rfl) (fun F => ?_)
 try simp only [nf]
 dsimp only [argsEnv]
 refine WP.seq ?_; refine WP.region [0] rfl ?_; refine WP.mv rfl rfl ?_; refine WP.nil (WP.next (WP.seq (WP.seq ?_)))
 refine WP.region [0, 1, 2, 3, 4, 5, 6, 7, 8, 9, 10, 11, 12] rfl ?_; refine WP.mv rfl rfl ?_; refine WP.vl rfl (Yld.nilCheck rfl rfl) ?_; refine WP.vl rfl (Yld.fieldAddr rfl ty_fd_91_1 rfl) ?_; refine WP.vl rfl (Yld.ld (v := .int .i64 s.e) rfl ty_sc_27 rfl rfl) ?_; refine WP.split rfl rfl rfl rfl (Yld.eql rfl rfl rfl) (fun he => ?_) (fun he => ?_)
 ·refine WP.mv rfl rfl ?_
  refine WP.valG rfl rfl rfl rfl rfl rfl rfl (Yld.move rfl rfl) ?_; refine WP.valG rfl rfl rfl rfl rfl rfl rfl (Yld.nilCheck rfl rfl) ?_; refine WP.valG rfl rfl rfl rfl rfl rfl rfl (Yld.fieldAddr rfl ty_fd_91_0 rfl) ?_; refine WP.valG rfl rfl rfl rfl rfl rfl rfl (Yld.ld (v := .slice Av s.bs.length cv) rfl ty_sc_25 rfl rfl) ?_; refine WP.valG rfl rfl rfl rfl rfl rfl rfl (Yld.len rfl ty_sl_25 rfl) ?_; refine WP.splitG rfl rfl rfl rfl rfl rfl rfl (Yld.gtr rfl rfl rfl) (fun hlen => ?_) (fun hlen => ?_)
  ·refine WP.vl rfl (Yld.pickT rfl rfl rfl) ?_
   refine WP.nil ?_; refine WP.sub [(0, _), (2, _), (15, _)] ?_ ⟨rfl, rfl, rfl, trivial⟩
   refine WP.next ?_; refine WP.condT rfl ?_; refine WP.seq ?_; refine WP.region [0] rfl ?_; refine WP.mv rfl rfl ?_; refine WP.nil (WP.next (WP.ret ?_))
   refine WP.fn .ret (.inr rfl) (res1 rfl rfl) [(q, row 91 [(.slice Av s.bs.length cv), .int .i64 s.e])] (Imm.le_refl _) ?_; have e : s.done = 13 := if_pos ⟨he, by omega⟩
   rw [e]; exact ⟨rfl, rfl, .mk hb hl⟩
  ·refine WP.vl rfl (Yld.pickT rfl rfl rfl) ?_
   refine WP.nil ?_; refine WP.sub [(0, _), (2, _), (15, _)] ?_ ⟨rfl, rfl, rfl, trivial⟩
   refine WP.next ?_; refine WP.condF rfl ?_; refine WP.skip (WP.next (WP.seq ?_))
   refine WP.region [0, 1, 2, 3, 4] rfl ?_; refine WP.mv rfl rfl ?_; refine WP.vl rfl (Yld.nilCheck rfl rfl) ?_; refine WP.vl rfl (Yld.fieldAddr rfl ty_fd_91_1 rfl) ?_; refine WP.vl rfl (Yld.ld (v := .int .i64 s.e) rfl ty_sc_27 rfl rfl) ?_; refine WP.mv rfl rfl ?_; refine WP.nil ?_; refine WP.sub [(0, _), (2, _), (15, _)] ?_ ⟨rfl, rfl, rfl, trivial⟩
   refine WP.next (WP.ret ?_)
   refine WP.fn .ret (.inr rfl) (res1 rfl rfl) [(q, row 91 [(.slice Av s.bs.length cv), .int .i64 s.e])] (Imm.le_refl _) ?_; have e : s.done = s.e := if_neg (fun h => by have h1 := h.1; have h2 := h.2; first | exact he h1 | omega)
   rw [e]; exact ⟨rfl, rfl, .mk hb hl⟩
 ·refine WP.mv rfl rfl ?_
  iterate 6 refine WP.passG rfl rfl rfl rfl rfl rfl rfl rfl ?_
  refine WP.vl rfl (Yld.pickF rfl rfl rfl) ?_; refine WP.nil ?_; refine WP.sub [(0, _), (2, _), (15, _)] ?_ ⟨rfl, rfl, rfl, trivial⟩
  refine WP.next ?_; refine WP.condF rfl ?_; refine WP.skip (WP.next (WP.seq ?_))
  refine WP.region [0, 1, 2, 3, 4] rfl ?_; refine WP.mv rfl rfl ?_; refine WP.vl rfl (Yld.nilCheck rfl rfl) ?_; refine WP.vl rfl (Yld.fieldAddr rfl ty_fd_91_1 rfl) ?_; refine WP.vl rfl (Yld.ld (v := .int .i64 s.e) rfl ty_sc_27 rfl rfl) ?_; refine WP.mv rfl rfl ?_; refine WP.nil ?_; refine WP.sub [(0, _), (2, _), (15, _)] ?_ ⟨rfl, rfl, rfl, trivial⟩
  refine WP.next (WP.ret ?_)
  refine WP.fn .ret (.inr rfl) (res1 rfl rfl) [(q, row 91 [(.slice Av s.bs.length cv), .int .i64 s.e])] (Imm.le_refl _) ?_; have e : s.done = s.e := if_neg (fun h => by have h1 := h.1; have h2 := h.2; first | exact he h1 | omega)
  rw [e]; exact ⟨rfl, rfl, .mk hb hl⟩


end Go.Hp
