import Derived.Test.YtcebcphnmbhcpaaGreatTxnC
set_option linter.unusedVariables false
set_option linter.unusedSimpArgs false
namespace Go.Hp
open Go Go.Proofs

theorem txn_laid {I : Imm} {q : Nat} {bs : List UInt8} {L : Chunks} (hq : IsWr q bs L) (hl : bs.length ≤ 140737488355328) : Spec Tryz.prog 87 [.pointer (some ⟨q, 0, none⟩)] I L (fun v J L' => ((12671 < (bs).length ∧ v = .tuple #[.slice none 0 0, .int .i64 2] ∧ L' = []) ∨ ((bs).length ≤ 12671 ∧ (∃ vb, v = .tuple #[vb, .int .i64 0] ∧ Own 5 1 vb (bytesV (bs)) (bs).length L')))) := by
 refine Spec.of Tryz.func87 rfl Tryz.ntmps87 (Nat.le_of_ble_eq_true rfl) (fun F => ?_)
 try simp only [nf]
 dsimp only [argsEnv]
 refine WP.seq ?_; refine WP.region [0, 1] rfl ?_; iterate 2 refine WP.mv rfl rfl ?_
 refine WP.nil (WP.next (WP.seq ?_))
 refine WP.region [0, 1, 2] rfl ?_; refine WP.mv rfl rfl ?_; refine WP.loud rfl rfl ?_; refine Op.cl (code_Done hq hl) rfl Tryz.func100 rfl rfl rfl rfl ?_; rintro v J2 Lc hJ2 hc
 try simp only [nf]
 obtain ⟨Ac, cc, rfl, _⟩ := hc.slice
 refine WP.mv rfl rfl ?_; refine WP.nil ?_; refine WP.sub [(0, _), (2, _), (3, _), (4, _)] ?_ ⟨rfl, rfl, rfl, rfl, trivial⟩
 refine WP.next (WP.seq (WP.seq ?_))
 refine WP.region [0, 1, 2] rfl ?_; refine WP.mv rfl rfl ?_; refine WP.vl rfl (Yld.len rfl ty_sl_47 rfl) ?_; refine WP.split rfl rfl rfl rfl (Yld.gtr rfl rfl rfl) (fun h1 => ?_) (fun h1 => ?_)
 ·refine WP.nil ?_
  refine WP.sub [(0, _), (2, _), (3, _), (4, _), (9, _)] ?_ ⟨rfl, rfl, rfl, rfl, rfl, trivial⟩
  refine WP.next ?_; refine WP.condT rfl ?_; refine WP.seq ?_; refine WP.region [0, 1] rfl ?_; iterate 2 refine WP.mv rfl rfl ?_
  refine WP.nil (WP.next (WP.ret ?_))
  refine WP.fn .ret (.inr rfl) (res2 rfl rfl rfl) [] hJ2 ?_; exact .inl ⟨by omega, rfl, rfl⟩
 ·refine WP.nil ?_
  refine WP.sub [(0, _), (2, _), (3, _), (4, _), (9, _)] ?_ ⟨rfl, rfl, rfl, rfl, rfl, trivial⟩
  refine WP.next ?_; refine WP.condF rfl ?_; refine WP.skip (WP.next (WP.seq ?_))
  refine WP.region [0, 1, 2] rfl ?_; iterate 3 refine WP.mv rfl rfl ?_
  refine WP.nil ?_; refine WP.sub [(0, _), (2, _), (3, _), (4, _), (9, _)] ?_ ⟨rfl, rfl, rfl, rfl, rfl, trivial⟩
  refine WP.next (WP.ret ?_)
  refine WP.fn .ret (.inr rfl) (res2 rfl rfl rfl) Lc hJ2 ?_; exact .inr ⟨by omega, _, rfl, hc⟩

theorem txn_EncodePage {I : Imm} {r : Pr} {vn : Value} (hr : RNodes I vn r.nodes) (hln : r.nodes.length ≤ 140737488351232) (hsz : 30 + (r.nodes.flatMap nodeB).length ≤ 140737488355328) : Spec Tryz.prog 78 [.agg ([.int .i64 r.page, .int .i64 r.prev, vn]).toArray] I [] (fun v J L' => ((¬ r.may ∧ v = .tuple #[.slice none 0 0, .int .i64 120] ∧ L' = []) ∨ (r.may ∧ ((12671 < (pageB r).length ∧ v = .tuple #[.slice none 0 0, .int .i64 2] ∧ L' = []) ∨ ((pageB r).length ≤ 12671 ∧ (∃ vb, v = .tuple #[vb, .int .i64 0] ∧ Own 5 1 vb (bytesV (pageB r)) (pageB r).length L')))))) := by
 obtain ⟨nv, hn, hno⟩ := id hr.ex
 obtain ⟨An, cn, rfl, hcn⟩ := hn.slice'
 refine Spec.of Tryz.func78 rfl Tryz.ntmps78 (Nat.le_of_ble_eq_true rfl) (fun F => ?_)
 try simp only [nf]
 dsimp only [argsEnv]
 refine WP.seq ?_; refine WP.region [0, 1, 2] rfl ?_; refine WP.loud rfl rfl ?_; refine Op.box rfl rfl rfl rfl rfl (fun b1 => ?_)
 iterate 2 refine WP.mv rfl rfl ?_
 refine WP.nil (WP.next (WP.seq (WP.seq ?_)))
 refine WP.region [0, 1, 2] rfl ?_; refine WP.vl rfl (Yld.ldg (vs := [.int .i64 r.page, .int .i64 r.prev, .slice An r.nodes.length cn]) rfl ty_ag_104 rfl rfl rfl) ?_; refine WP.loud rfl rfl ?_; refine Op.cl (txn_may hr hln) rfl Tryz.func83 rfl rfl rfl rfl ?_; rintro v J L1 - ⟨c, rfl, hc, rfl, rfl⟩
 try simp only [nf]
 by_cases hc1 : c = true
 ·try rw [hc1]
  refine WP.vl rfl (Yld.not rfl rfl) ?_; refine WP.nil ?_; refine WP.sub [(0, _), (1, _), (2, _), (3, _), (7, _)] ?_ ⟨rfl, rfl, rfl, rfl, rfl, trivial⟩
  refine WP.next ?_; refine WP.condF rfl ?_; refine WP.skip (WP.next (WP.seq ?_))
  refine WP.region [0, 1] rfl ?_; refine WP.loud rfl rfl ?_; refine Op.cl code_NewWriter rfl Tryz.func84 rfl rfl rfl rfl ?_; rintro v J L3 - ⟨rfl, q, rfl, hq⟩
  try simp only [nf]
  obtain ⟨⟨hp1, hp2⟩, hp3, hp4, _⟩ := hc.1 hc1
  have e1 : r.page = (r.page.toNat : Int) := by omega
  have e2 : r.prev = (r.prev.toNat : Int) := by omega
  have n1 := numB_10 (n := r.page.toNat) (by omega); have n2 := numB_10 (n := r.prev.toNat) (by omega); have n3 := numB_10 (n := r.nodes.length) (by omega)
  refine WP.mv rfl rfl ?_; refine WP.nil ?_; refine WP.sub [(0, _), (1, _), (2, _), (3, _), (4, _), (7, _)] ?_ ⟨rfl, rfl, rfl, rfl, rfl, rfl, trivial⟩
  refine WP.next (WP.seq ?_)
  refine WP.region [0, 1, 2, 3, 4] rfl ?_; refine WP.mv rfl rfl ?_; refine WP.vl rfl (Yld.fieldAddr rfl ty_fd_104_0 rfl) ?_; refine WP.vl rfl (Yld.ld rfl ty_sc_3 rfl rfl) ?_; refine WP.vl rfl (Yld.conv64u r.page.toNat rfl ty_un_3 ty_ik_44 (congrArg (fun z => some (Value.int .i64 z)) e1) (by omega)) ?_; refine WP.loud rfl rfl ?_; refine Op.cl (code_NumW (n := r.page.toNat) hq (by omega) (by simp only [List.length_nil]; omega)) rfl Tryz.func85 rfl rfl rfl rfl ?_; rintro v J L4 - ⟨rfl, rfl, hq⟩
  try simp only [nf]
  refine WP.nil ?_; refine WP.sub [(0, _), (1, _), (2, _), (3, _), (4, _), (7, _)] ?_ ⟨rfl, rfl, rfl, rfl, rfl, rfl, trivial⟩
  refine WP.next (WP.seq ?_)
  refine WP.region [0, 1, 2, 3, 4] rfl ?_; refine WP.mv rfl rfl ?_; refine WP.vl rfl (Yld.fieldAddr rfl ty_fd_104_1 rfl) ?_; refine WP.vl rfl (Yld.ld rfl ty_sc_3 rfl rfl) ?_; refine WP.vl rfl (Yld.conv64u r.prev.toNat rfl ty_un_3 ty_ik_44 (congrArg (fun z => some (Value.int .i64 z)) e2) (by omega)) ?_; refine WP.loud rfl rfl ?_; refine Op.cl (code_NumW (n := r.prev.toNat) hq (by omega) (by simp only [List.length_append, List.length_nil]; omega)) rfl Tryz.func85 rfl rfl rfl rfl ?_; rintro v J L5 - ⟨rfl, rfl, hq⟩
  try simp only [nf]
  refine WP.nil ?_; refine WP.sub [(0, _), (1, _), (2, _), (3, _), (4, _), (7, _)] ?_ ⟨rfl, rfl, rfl, rfl, rfl, rfl, trivial⟩
  refine WP.next (WP.seq ?_)
  refine WP.region [0, 1, 2, 3] rfl ?_; refine WP.mv rfl rfl ?_; refine WP.vl rfl (Yld.fieldAddr rfl ty_fd_104_2 rfl) ?_; refine WP.vl rfl (Yld.ld (v := .slice An r.nodes.length cn) rfl ty_sc_45 rfl rfl) ?_; refine WP.loud rfl rfl ?_; refine Op.cl (txn_layNodes hq hr hln (by simp only [List.length_append, List.length_nil]; omega)) rfl Tryz.func86 rfl rfl rfl rfl ?_; rintro v J L6 - ⟨rfl, rfl, hq⟩
  try simp only [nf]
  have hq : IsWr q (pageB r) L6 := by unfold pageB; simpa using hq
  have hpl : (pageB r).length ≤ 140737488355328 := by unfold pageB nodesB; simp only [List.length_append]; omega
  refine WP.nil ?_; refine WP.sub [(0, _), (1, _), (2, _), (3, _), (4, _), (7, _)] ?_ ⟨rfl, rfl, rfl, rfl, rfl, rfl, trivial⟩
  refine WP.next (WP.seq ?_)
  refine WP.region [0, 1, 2, 3, 4, 5] rfl ?_; refine WP.mv rfl rfl ?_; refine WP.loud rfl rfl ?_; refine Op.cl (txn_laid hq hpl) rfl Tryz.func87 rfl rfl rfl rfl ?_; rintro v J2 L7 hJ2 hlaid
  try simp only [nf]
  obtain ⟨vA, vE, rfl⟩ : ∃ vA vE, v = .tuple #[vA, vE] := by rcases hlaid with ⟨_, rfl, _⟩ | ⟨_, vb, rfl, _⟩ <;> exact ⟨_, _, rfl⟩
  iterate 2 refine WP.vl rfl (Yld.extract rfl rfl rfl) ?_
  iterate 2 refine WP.mv rfl rfl ?_
  refine WP.nil ?_; refine WP.sub [(0, _), (1, _), (2, _), (3, _), (4, _), (7, _)] ?_ ⟨rfl, rfl, rfl, rfl, rfl, rfl, trivial⟩
  refine WP.next (WP.ret ?_)
  refine WP.fn .ret (.inr rfl) (res2 rfl rfl rfl) L7 hJ2 ?_; exact .inr ⟨hc.1 hc1, hlaid⟩
 ·have hc1 : c = false := eq_false_of_ne_true hc1
  try rw [hc1]
  refine WP.vl rfl (Yld.not rfl rfl) ?_; refine WP.nil ?_; refine WP.sub [(0, _), (1, _), (2, _), (3, _), (7, _)] ?_ ⟨rfl, rfl, rfl, rfl, rfl, trivial⟩
  refine WP.next ?_; refine WP.condT rfl ?_; refine WP.seq ?_; refine WP.region [0, 1] rfl ?_; iterate 2 refine WP.mv rfl rfl ?_
  refine WP.nil (WP.next (WP.ret ?_))
  refine WP.fn .ret (.inr rfl) (res2 rfl rfl rfl) [] (Imm.le_refl _) ?_; exact .inl ⟨fun h => (by rw [hc.2 h] at hc1; cases hc1), rfl, rfl⟩


theorem RNodes.nil (J : Imm) : RNodes J (.slice none 0 0) [] := ⟨[], ⟨none, 0, rfl, Nat.le_refl _, rfl, .inl rfl⟩, ⟨rfl, fun i x h => by cases h⟩⟩

theorem wrap_u64 (m : Nat) : IntKind.u64.wrap (m : Int) = ((m % 18446744073709551616 : Nat) : Int) := by
 simp [IntKind.wrap, IntKind.bits, IntKind.signed]
section
variable {P : Program} {n : Nat} {E : Env} {V : Nat → Obj → Prop} {o : Oper}
theorem Yld.orU64 {X Y : Operand} {t t' : TypeId} (a b : Nat) (ha : a < 18446744073709551616) (hb : b < 18446744073709551616) (hop : o.op = .binOp .or t X Y t') (hx : E.ev X = some (.int .u64 (a : Int))) (hy : E.ev Y = some (.int .u64 (b : Int))) : Yld P n E V o (.int .u64 ((a ||| b : Nat) : Int)) :=
 Yld.arith hop hx hy fun W => by
  have e1 : BitVec.ofInt IntKind.u64.bits (a : Int) = BitVec.ofNat 64 a := rfl
  have e2 : BitVec.ofInt IntKind.u64.bits (b : Int) = BitVec.ofNat 64 b := rfl
  simp only [binOp, Op.intBits, e1, e2]
  simp only [ne_eq, not_true_eq_false, if_false, Sem.run_pure]
  have h : ((BitVec.ofNat 64 a ||| BitVec.ofNat 64 b : BitVec 64).toNat) = a ||| b := by
   rw [BitVec.toNat_or, BitVec.toNat_ofNat, BitVec.toNat_ofNat, Nat.mod_eq_of_lt ha, Nat.mod_eq_of_lt hb]
  have h2 : a ||| b < 2 ^ 64 := Nat.or_lt_two_pow ha hb
  exact congrArg (fun z => Result.ok (Value.int .u64 z) W) ((congrArg (fun z : Nat => IntKind.u64.wrap (z : Int)) h).trans ((wrap_u64 _).trans (by rw [Nat.mod_eq_of_lt h2])))
theorem Yld.addU64N {X Y : Operand} {t t' : TypeId} (a b : Nat) (h : a + b < 18446744073709551616) (hop : o.op = .binOp .add t X Y t') (hx : E.ev X = some (.int .u64 (a : Int))) (hy : E.ev Y = some (.int .u64 (b : Int))) : Yld P n E V o (.int .u64 ((a + b : Nat) : Int)) := by
 have := Yld.add (P := P) (n := n) (V := V) hop hx hy
 rwa [show IntKind.u64.wrap ((a : Int) + (b : Int)) = ((a + b : Nat) : Int) from by rw [show (a : Int) + (b : Int) = ((a + b : Nat) : Int) by omega, wrap_u64, Nat.mod_eq_of_lt h]] at this
theorem Yld.shlU64 {X Y : Operand} {t t' : TypeId} {yk : IntKind} (x k : Nat) (hop : o.op = .binOp .shl t X Y t') (hx : E.ev X = some (.int .u64 (x : Int))) (hy : E.ev Y = some (.int yk (k : Int))) (hk : k < 64) : Yld P n E V o (.int .u64 ((x * 2 ^ k % 18446744073709551616 : Nat) : Int)) := fun a W ha _ => by
 have h : (binOp .shl t (.int .u64 (x : Int)) (.int yk (k : Int))).run P W = .ok (.int .u64 ((x * 2 ^ k % 18446744073709551616 : Nat) : Int)) W := by
  have h0 : ¬ ((k : Int) < 0) := by omega
  have h1 : min k IntKind.u64.bits = k := by simp [IntKind.bits]; omega
  have h2 : IntKind.u64.wrap ((x : Int) * 2 ^ k) = ((x * 2 ^ k % 18446744073709551616 : Nat) : Int) := by
   rw [← wrap_u64]; simp
  simp only [binOp, Op.shift, h0, if_false, Int.toNat_natCast, h1, Sem.run_pure, h2]
 simp [execOp, hop, ha.ev hx, ha.ev hy, eqGuard_int, h]
end
section
variable {P : Program} {n : Nat} {E : Env} {V : Nat → Obj → Prop} {o : Oper}
theorem Yld.sub8N {X Y : Operand} {t t' : TypeId} (a b : Nat) (h : b ≤ a) (h2 : a < 256) (hop : o.op = .binOp .sub t X Y t') (hx : E.ev X = some (.int .u8 (a : Int))) (hy : E.ev Y = some (.int .u8 (b : Int))) : Yld P n E V o (.int .u8 ((a - b : Nat) : Int)) := by
 have := Yld.sub (P := P) (n := n) (V := V) hop hx hy
 have e : IntKind.u8.wrap ((a : Int) - (b : Int)) = ((a - b : Nat) : Int) := by
  have : ((a : Int) - (b : Int)) = ((a - b : Nat) : Int) := by omega
  rw [this]; simp [IntKind.wrap, IntKind.bits, IntKind.signed]; omega
 rwa [e] at this
end
/-- A number's first bytes: the number, how many bytes, the error. -/
def rdN (most : Nat) : Nat → Nat → Nat → List UInt8 → Nat × Nat × Int
 | 0, _, _, _ => (0, 0, 11)
 | _ + 1, _, _, [] => (0, 0, 10)
 | k + 1, i, a, x :: l =>
  if 128 ≤ x.toNat then rdN most k (i + 1) (a ||| ((x.toNat - 128) * 2 ^ (7 * i) % 18446744073709551616)) l
  else if x.toNat = 0 ∧ 0 < i then (0, 0, 11)
  else if i = 9 ∧ 1 < x.toNat then (0, 0, 12)
  else if most < a ||| (x.toNat * 2 ^ (7 * i) % 18446744073709551616) then (0, 0, 12)
  else (a ||| (x.toNat * 2 ^ (7 * i) % 18446744073709551616), i + 1, 0)
theorem or_dig {a x i : Nat} (ha : a < 128 ^ i) (h : a + x * 128 ^ i < 18446744073709551616) : a ||| (x * 2 ^ (7 * i) % 18446744073709551616) = a + x * 128 ^ i := by
 have e : 2 ^ (7 * i) = 128 ^ i := by rw [Nat.pow_mul]
 rw [e, Nat.mod_eq_of_lt (by omega), Nat.or_comm, ← e, ← Nat.shiftLeft_eq, ← Nat.shiftLeft_add_eq_or_of_lt (by rw [e]; exact ha), Nat.shiftLeft_eq, Nat.add_comm]
theorem p9 {u i : Nat} (hu : u ≠ 0) (h : u * 128 ^ i < 18446744073709551616) : i ≤ 9 ∧ (i = 9 → u ≤ 1) := by
 have h9 : i ≤ 9 := by
  rcases Nat.lt_or_ge 9 i with h1 | h1
  ·have : 128 ^ 10 ≤ 128 ^ i := Nat.pow_le_pow_right (by decide) h1
   have h2 : 1 * 128 ^ i ≤ u * 128 ^ i := Nat.mul_le_mul_right _ (by omega)
   omega
  ·exact h1
 exact ⟨h9, fun e => by subst e; omega⟩
/-- What was laid down is taken up. -/
theorem rd_num (most : Nat) (rest : List UInt8) : ∀ (v i a : Nat), a < 128 ^ i → a + v * 128 ^ i < 18446744073709551616 → a + v * 128 ^ i ≤ most → (i = 0 ∨ v ≠ 0) → rdN most (10 - i) i a (numB v ++ rest) = (a + v * 128 ^ i, i + (numB v).length, 0) := by
 intro v
 induction v using Nat.strongRecOn with
 | _ v ih =>
  intro i a ha hv hm hi
  have h9 : i ≤ 9 ∧ (i = 9 → v ≤ 1) := by
   rcases Nat.eq_zero_or_pos v with h | h
   ·rcases hi with hi | hi
    ·omega
    ·omega
   ·exact p9 (by omega) (by omega)
  obtain ⟨k, hk⟩ : ∃ k, 10 - i = k + 1 := ⟨9 - i, by omega⟩
  rw [hk]
  by_cases hlo : v < 128
  ·rw [numB_lo hlo]
   have e : (UInt8.ofNat v).toNat = v := by rw [UInt8.toNat_ofNat']; omega
   have eo := or_dig (x := v) ha hv
   simp only [List.cons_append, List.nil_append, rdN, e]
   rw [if_neg (by omega), if_neg (by omega), if_neg (by omega), eo, if_neg (by omega)]
   rfl
  ·rw [numB_hi hlo]
   have e : (UInt8.ofNat (v % 128 + 128)).toNat = v % 128 + 128 := by rw [UInt8.toNat_ofNat']; omega
   have e3 : v % 128 * 128 ^ i + v / 128 * 128 ^ (i + 1) = v * 128 ^ i := by
    rw [Nat.pow_succ, Nat.mul_comm (128 ^ i) 128, ← Nat.mul_assoc, ← Nat.add_mul]; congr 1; omega
   have eo := or_dig (x := v % 128) ha (by omega)
   simp only [List.cons_append, rdN, e]
   rw [if_pos (by omega), show v % 128 + 128 - 128 = v % 128 by omega, eo]
   have hk2 : k = 10 - (i + 1) := by omega
   have hlt : v % 128 * 128 ^ i + 128 ^ i ≤ 128 ^ (i + 1) := by
    rw [Nat.pow_succ, Nat.mul_comm (128 ^ i) 128, ← Nat.succ_mul]; exact Nat.mul_le_mul_right _ (by omega)
   rw [hk2, ih (v / 128) (by omega) (i + 1) (a + v % 128 * 128 ^ i) (by omega) (by omega) (by omega) (.inr (by omega))]
   rw [List.length_cons]
   refine Prod.ext ?_ (Prod.ext ?_ rfl)
   ·show a + v % 128 * 128 ^ i + v / 128 * 128 ^ (i + 1) = a + v * 128 ^ i
    omega
   ·show i + 1 + (numB (v / 128)).length = i + ((numB (v / 128)).length + 1)
    omega
/-- A Reader: what is left, the error. -/
structure Rs where
 bs : List UInt8
 e : Int
def rNum (most : Nat) (s : Rs) : Nat × Rs := if s.e = 0 then ((rdN most 10 0 0 s.bs).1, ⟨s.bs.drop (rdN most 10 0 0 s.bs).2.1, (rdN most 10 0 0 s.bs).2.2⟩) else (0, s)
def rByt (most : Nat) (s : Rs) : List UInt8 × Rs :=
 if s.e = 0 then
  if (rdN most 10 0 0 s.bs).2.2 = 0 then
   if (rdN most 10 0 0 s.bs).1 ≤ s.bs.length - (rdN most 10 0 0 s.bs).2.1 then ((s.bs.drop (rdN most 10 0 0 s.bs).2.1).take (rdN most 10 0 0 s.bs).1, ⟨(s.bs.drop (rdN most 10 0 0 s.bs).2.1).drop (rdN most 10 0 0 s.bs).1, 0⟩)
   else ([], ⟨s.bs, 10⟩)
  else ([], ⟨s.bs, (rdN most 10 0 0 s.bs).2.2⟩)
 else ([], s)
def Rs.done (s : Rs) : Int := if s.e = 0 ∧ 0 < s.bs.length then 13 else s.e
theorem rdN_size (most : Nat) : ∀ (k i a : Nat) (l : List UInt8), (rdN most k i a l).2.1 ≤ i + l.length
 | 0, i, a, l => Nat.zero_le _
 | k + 1, i, a, [] => Nat.zero_le _
 | k + 1, i, a, x :: l => by
  rw [rdN, List.length_cons]
  split
  ·have := rdN_size most k (i + 1) (a ||| ((x.toNat - 128) * 2 ^ (7 * i) % 18446744073709551616)) l; omega
  ·split
   ·exact Nat.zero_le _
   ·split
    ·exact Nat.zero_le _
    ·split
     ·exact Nat.zero_le _
     ·show i + 1 ≤ _; omega
theorem rdN_lay {v most : Nat} {rest : List UInt8} (h : v ≤ most) (h2 : v < 18446744073709551616) : rdN most 10 0 0 (numB v ++ rest) = (v, (numB v).length, 0) := by
 have := rd_num most rest v 0 0 (by decide) (by omega) (by omega) (.inl rfl)
 simpa using this
theorem rNum_lay {v most : Nat} {rest : List UInt8} (h : v ≤ most) (h2 : v < 18446744073709551616) : rNum most ⟨numB v ++ rest, 0⟩ = (v, ⟨rest, 0⟩) := by
 unfold rNum
 rw [if_pos rfl]
 simp only [rdN_lay h h2, List.drop_left]
theorem rByt_lay {d : List UInt8} {most : Nat} {rest : List UInt8} (h : d.length ≤ most) (h2 : d.length < 18446744073709551616) : rByt most ⟨numB d.length ++ (d ++ rest), 0⟩ = (d, ⟨rest, 0⟩) := by
 unfold rByt
 rw [if_pos rfl]
 simp only [rdN_lay h h2, List.drop_left, if_true, List.length_append]
 rw [if_pos (by omega)]
 simp
def tkL : Nat → Rs → List (Bool × List UInt8) × Rs
 | 0, s => ([], s)
 | n + 1, s => ((decide (((rNum 1 s).1 : Int) = 1), (rByt 12671 (rNum 1 s).2).1) :: (tkL n (rByt 12671 (rNum 1 s).2).2).1, (tkL n (rByt 12671 (rNum 1 s).2).2).2)
def tkN (s : Rs) : List (Bool × List UInt8) × Rs := tkL (rNum 64 s).1 (rNum 64 s).2
theorem tkL_lay (rest : List UInt8) : ∀ (l : List (Bool × List UInt8)), (∀ x ∈ l, x.2.length ≤ 12671) → tkL l.length ⟨l.flatMap nodeB ++ rest, 0⟩ = (l, ⟨rest, 0⟩)
 | [], _ => rfl
 | (b, d) :: l, h => by
  have hd := h _ (.head _)
  dsimp only at hd
  have e : ((b, d) :: l).flatMap nodeB ++ rest = numB (if b then 1 else 0) ++ (numB d.length ++ (d ++ (l.flatMap nodeB ++ rest))) := by simp [nodeB]
  have hb : (if b then 1 else 0) ≤ 1 := by cases b <;> decide
  rw [e, List.length_cons, tkL, rNum_lay hb (by omega)]
  simp only [rByt_lay hd (by omega), tkL_lay rest l fun x hx => h x (.tail _ hx)]
  cases b <;> rfl
theorem tkN_lay (rest : List UInt8) {l : List (Bool × List UInt8)} (hl : l.length ≤ 64) (h : ∀ x ∈ l, x.2.length ≤ 12671) : tkN ⟨nodesB l ++ rest, 0⟩ = (l, ⟨rest, 0⟩) := by
 unfold tkN nodesB
 rw [List.append_assoc, rNum_lay hl (by omega)]
 exact tkL_lay rest l h
theorem tkL_len : ∀ (n : Nat) (s : Rs), (tkL n s).1.length = n
 | 0, s => rfl
 | n + 1, s => by rw [tkL, List.length_cons, tkL_len n]
/-- A page's record, read. -/
def rdP (bs : List UInt8) : Pr × Rs := (⟨((rNum 512 ⟨bs, 0⟩).1 : Int), ((rNum 1099511627776 (rNum 512 ⟨bs, 0⟩).2).1 : Int), (tkN (rNum 1099511627776 (rNum 512 ⟨bs, 0⟩).2).2).1⟩, (tkN (rNum 1099511627776 (rNum 512 ⟨bs, 0⟩).2).2).2)
def okP (bs : List UInt8) : Prop := (rdP bs).2.done = 0 ∧ bs.length ≤ 12671 ∧ (rdP bs).1.may
theorem data_le {l : List (Bool × List UInt8)} {x : Bool × List UInt8} (h : x ∈ l) : x.2.length ≤ (l.flatMap nodeB).length := by
 induction l with
 | nil => cases h
 | cons a l ih =>
  rw [List.flatMap_cons, List.length_append]
  rcases List.mem_cons.1 h with rfl | h
  ·unfold nodeB; simp only [List.length_append]; omega
  ·have := ih h; omega
theorem rdP_lay {r : Pr} (h : r.may) (hl : (pageB r).length ≤ 12671) : rdP (pageB r) = (r, ⟨[], 0⟩) := by
 obtain ⟨⟨h1, h2⟩, h3, h4, h5, h6, _⟩ := h
 have e1 : numB r.page.toNat ++ (numB r.prev.toNat ++ nodesB r.nodes) = numB r.page.toNat ++ (numB r.prev.toNat ++ (nodesB r.nodes ++ [])) := by simp
 unfold rdP pageB at *
 rw [e1, rNum_lay (by omega) (by omega)]
 simp only [rNum_lay (show r.prev.toNat ≤ 1099511627776 by omega) (by omega)]
 rw [tkN_lay [] h6 (fun x hx => by
  have := data_le hx
  unfold nodesB at hl
  simp only [List.length_append] at hl
  omega)]
 dsimp only
 rw [Int.toNat_of_nonneg (by omega), Int.toNat_of_nonneg h3]
theorem okP_lay {r : Pr} (h : r.may) (hl : (pageB r).length ≤ 12671) : okP (pageB r) ∧ (rdP (pageB r)).1 = r := by
 unfold okP
 rw [rdP_lay h hl]
 exact ⟨⟨rfl, hl, h⟩, rfl⟩
theorem rdN_le (most : Nat) : ∀ (k i a : Nat) (l : List UInt8), (rdN most k i a l).1 ≤ most
 | 0, i, a, l => Nat.zero_le _
 | k + 1, i, a, [] => Nat.zero_le _
 | k + 1, i, a, x :: l => by
  rw [rdN]
  split
  ·exact rdN_le most k _ _ _
  ·split
   ·exact Nat.zero_le _
   ·split
    ·exact Nat.zero_le _
    ·split
     ·exact Nat.zero_le _
     ·show _ ≤ most; omega
theorem rNum_le (most : Nat) (s : Rs) : (rNum most s).1 ≤ most := by unfold rNum; split; exact rdN_le _ _ _ _ _; exact Nat.zero_le _
theorem rdN_bs {most : Nat} {l : List UInt8} : (rdN most 10 0 0 l).2.1 ≤ l.length := by have := rdN_size most 10 0 0 l; omega
theorem rNum_bs (most : Nat) (s : Rs) : (rNum most s).2.bs.length ≤ s.bs.length := by
 unfold rNum; split
 ·show (List.drop _ _).length ≤ _; rw [List.length_drop]; omega
 ·exact Nat.le_refl _
theorem rByt_bs (most : Nat) (s : Rs) : (rByt most s).2.bs.length ≤ s.bs.length := by
 unfold rByt; (repeat' split) <;> first | exact Nat.le_refl _ | (show (List.drop _ (List.drop _ _)).length ≤ _; rw [List.length_drop, List.length_drop]; omega)
theorem tkN_len (s : Rs) : (tkN s).1.length ≤ 64 := by unfold tkN; rw [tkL_len]; exact rNum_le _ _
theorem SlRd.byte {V : Nat → Obj → Prop} {v : Value} {bs : List UInt8} (h : SlRd V v bs.length 1 (bytesV bs)) {i : Nat} (hi : i < bs.length) : ∃ b k c T fr arr, v = .slice (some ⟨b, k, none⟩) bs.length c ∧ V b (.cells arr T fr) ∧ arr[k + i * 1]? = some (byteV bs[i]) := by
 obtain ⟨b, k, c, T, fr, arr, e, _, hb, hcd⟩ := h.get (by omega)
 refine ⟨b, k, c, T, fr, arr, e, hb, ?_⟩
 have := take_cells hcd i (byteV bs[i]) (by simp [bytesV, hi]) (by rw [bytesV_len]; exact hi)
 rw [Array.getElem?_toList] at this
 rwa [Nat.mul_one]
theorem SlRd.takeB {V : Nat → Obj → Prop} {v : Value} {bs : List UInt8} {l : Nat} (h : SlRd V v bs.length 1 (bytesV bs)) (hl : l ≤ bs.length) : SlRd V (subSl 1 0 l v) (bs.take l).length 1 (bytesV (bs.take l)) := by
 have := h.sub (Nat.zero_le l) hl
 rw [Nat.zero_mul, List.drop_zero, bytesV_take, Nat.sub_zero, Nat.mul_one] at this
 rw [List.length_take, Nat.min_eq_left hl]; exact this
theorem code_number {I : Imm} {most : Nat} {b : List UInt8} {vb : Value} (hb : SlRd (Im I) vb b.length 1 (bytesV b)) (hl : b.length ≤ 140737488355328) : Spec Tryz.prog 122 [vb, .int .u64 (most : Int)] I [] (fun v J L => v = .tuple #[.int .u64 ((rdN most 10 0 0 b).1 : Int), .int .i64 ((rdN most 10 0 0 b).2.1 : Int), .int .i64 (rdN most 10 0 0 b).2.2] ∧ I = J ∧ L = []) := by
 obtain ⟨Ab, cb, rfl, _, _, _⟩ := id hb
 refine Spec.of Tryz.func122 rfl Tryz.ntmps122 (Nat.le_of_ble_eq_true rfl) (fun F => ?_)
 try simp only [nf]
 dsimp only [argsEnv]
 refine WP.seq ?_; refine WP.region [0, 1, 2] rfl ?_; iterate 3 refine WP.mv rfl rfl ?_
 refine WP.nil (WP.next (WP.seq ?_))
 refine WP.region [0] rfl ?_; refine WP.mv rfl rfl ?_; refine WP.nil (WP.next (WP.seq (WP.seq ?_)))
 refine WP.region [0] rfl ?_; refine WP.mv rfl rfl ?_; refine WP.nil (WP.next (WP.block ?_))
 refine WP.loop (X := Nat × Nat) (fun t : Nat × Nat => [(0, .slice Ab b.length cb), (1, .int .u64 (most : Int)), (7, .int .u64 (t.2 : Int)), (10, .int .i64 (t.1 : Int))]) (fun _ => I) (fun _ : Nat × Nat => F) (fun t : Nat × Nat => t.1 ≤ 10 ∧ t.1 ≤ b.length ∧ t.2 < 18446744073709551616 ∧ rdN most (10 - t.1) t.1 t.2 (b.drop t.1) = (rdN most 10 0 0 b)) (fun t => 10 - t.1) (0, 0) ⟨Nat.zero_le _, Nat.zero_le _, by decide, rfl⟩ ⟨rfl, rfl, rfl, rfl, trivial⟩ rfl zP ?_; rintro ⟨i, a⟩ ⟨h10, hib, ha, hinv⟩; dsimp only at h10 hib ha hinv
 try dsimp only
 try simp only [nf]
 refine WP.seq ?_; refine WP.region [0] rfl ?_; refine WP.split rfl rfl rfl rfl (Yld.lss rfl rfl rfl) (fun hlt => ?_) (fun hlt => ?_)
 ·refine WP.nil ?_
  refine WP.next (WP.seq ?_)
  refine WP.condT rfl ?_; refine WP.skip (WP.next (WP.seq (WP.block (WP.seq ?_))))
  refine WP.region [0, 1] rfl ?_; iterate 2 refine WP.mv rfl rfl ?_
  refine WP.nil ?_; refine WP.sub [(0, _), (1, _), (7, _), (8, _), (10, _), (11, _)] ?_ ⟨rfl, rfl, rfl, rfl, rfl, rfl, trivial⟩
  refine WP.next (WP.seq (WP.seq ?_))
  refine WP.region [0, 1, 2, 3] rfl ?_; iterate 2 refine WP.mv rfl rfl ?_
  refine WP.vl rfl (Yld.len rfl ty_sl_47 rfl) ?_; refine WP.split rfl rfl rfl rfl (Yld.eql rfl rfl rfl) (fun heq => ?_) (fun heq => ?_)
  ·have hbe : b.drop i = [] := List.drop_eq_nil_of_le (by omega)
   obtain ⟨k, hk⟩ : ∃ k, 10 - i = k + 1 := ⟨9 - i, by omega⟩
   rw [hk, hbe] at hinv
   refine WP.nil ?_; refine WP.sub [(0, _), (1, _), (7, _), (8, _), (10, _), (11, _), (16, _)] ?_ ⟨rfl, rfl, rfl, rfl, rfl, rfl, rfl, trivial⟩
   refine WP.next ?_; refine WP.condT rfl ?_; refine WP.seq ?_; refine WP.region [0, 1, 2] rfl ?_; iterate 3 refine WP.mv rfl rfl ?_
   refine WP.nil (WP.next (WP.ret ?_))
   refine WP.fn .ret (.inr rfl) (res3 rfl rfl rfl rfl) [] (Imm.le_refl _) ?_; rw [← hinv]; exact ⟨rfl, rfl, rfl⟩
  ·have hi : i < b.length := by omega
   obtain ⟨bb, kb, cb2, Tb, fb, arb, eb, hbb, hxb⟩ := hb.byte hi
   injection eb with eb1 _ eb2; subst eb1; subst eb2
   obtain ⟨x, hx⟩ : ∃ x, x = b[i] := ⟨_, rfl⟩
   rw [← hx] at hxb
   have hx8 := x.toNat_lt
   have hdr : b.drop i = x :: b.drop (i + 1) := by rw [List.drop_eq_getElem_cons hi, hx]
   obtain ⟨k, hk⟩ : ∃ k, 10 - i = k + 1 := ⟨9 - i, by omega⟩
   rw [hk, hdr, rdN] at hinv
   refine WP.nil ?_; refine WP.sub [(0, _), (1, _), (7, _), (8, _), (10, _), (11, _), (16, _)] ?_ ⟨rfl, rfl, rfl, rfl, rfl, rfl, rfl, trivial⟩
   refine WP.next ?_; refine WP.condF rfl ?_; refine WP.skip (WP.next (WP.seq ?_))
   refine WP.region [0, 1, 2, 3, 4] rfl ?_; iterate 2 refine WP.mv rfl rfl ?_
   refine WP.vl rfl (Yld.indexAddr (i := i) rfl ty_sl_47 rfl rfl hi) ?_; refine WP.vl rfl (Yld.loadC (v := .int .u8 (x.toNat : Int)) rfl ty_sc_5 rfl (There.i hbb) hxb) ?_; refine WP.mv rfl rfl ?_; refine WP.nil ?_; refine WP.sub [(0, _), (1, _), (7, _), (8, _), (9, _), (10, _), (11, _), (16, _)] ?_ ⟨rfl, rfl, rfl, rfl, rfl, rfl, rfl, rfl, trivial⟩
   refine WP.next (WP.seq (WP.block (WP.seq ?_)))
   refine WP.region [0, 1, 2] rfl ?_; refine WP.mv rfl rfl ?_; refine WP.split rfl rfl rfl rfl (Yld.geq rfl rfl rfl) (fun hc => ?_) (fun hc => ?_)
   ·refine WP.mv rfl rfl ?_
    refine WP.nil ?_; refine WP.sub [(0, _), (1, _), (7, _), (8, _), (9, _), (10, _), (11, _), (16, _), (21, _)] ?_ ⟨rfl, rfl, rfl, rfl, rfl, rfl, rfl, rfl, rfl, trivial⟩
    refine WP.next ?_; refine WP.condT rfl ?_; refine WP.seq ?_; refine WP.region [0, 1, 2, 3, 4, 5, 6, 7, 8] rfl ?_; iterate 2 refine WP.mv rfl rfl ?_
    refine WP.vl rfl (Yld.sub8N x.toNat 128 (by omega) (by omega) rfl rfl rfl) ?_; refine WP.vl rfl (Yld.conv64u (x.toNat - 128) rfl ty_un_5 ty_ik_44 rfl (by omega)) ?_; refine WP.mv rfl rfl ?_; refine WP.vl rfl (Yld.mul64 rfl rfl rfl (by omega)) ?_; refine WP.vl rfl (Yld.shlU64 (x.toNat - 128) (7 * i) rfl rfl (congrArg (fun z => some (Value.int .i64 z)) (show (7 : Int) * (i : Int) = ((7 * i : Nat) : Int) by omega)) (by omega)) ?_; refine WP.vl rfl (Yld.orU64 a _ ha (Nat.mod_lt _ (by decide)) rfl rfl rfl) ?_; refine WP.mv rfl rfl ?_; refine WP.nil ?_; refine WP.sub [(0, _), (1, _), (7, _), (8, _), (9, _), (10, _), (11, _), (16, _), (21, _)] ?_ ⟨rfl, rfl, rfl, rfl, rfl, rfl, rfl, rfl, rfl, trivial⟩
    refine WP.next (WP.exit ?_)
    refine WP.miss rfl ?_; refine WP.thenE (WP.hit (WP.next ?_))
    refine WP.region [0, 1] rfl ?_; refine WP.vl rfl (Yld.add64 rfl rfl rfl (by omega)) ?_; refine WP.mv rfl rfl ?_; refine WP.nil ?_; refine WP.sub [(0, _), (1, _), (7, _), (8, _), (9, _), (10, _), (11, _), (16, _), (21, _)] ?_ ⟨rfl, rfl, rfl, rfl, rfl, rfl, rfl, rfl, rfl, trivial⟩
    exact WP.ag (i + 1, a ||| ((x.toNat - 128) * 2 ^ (7 * i) % 18446744073709551616)) ⟨by omega, hi, Nat.or_lt_two_pow (n := 64) ha (Nat.mod_lt _ (by decide)), by dsimp only; rw [if_pos (by omega)] at hinv; rw [show 10 - (i + 1) = k by omega]; exact hinv⟩ (show 10 - (i + 1) < 10 - i by omega) ⟨rfl, rfl, rfl, rfl, trivial⟩ rfl
   ·refine WP.mv rfl rfl ?_
    refine WP.nil ?_; refine WP.sub [(0, _), (1, _), (7, _), (8, _), (9, _), (10, _), (11, _), (16, _), (21, _)] ?_ ⟨rfl, rfl, rfl, rfl, rfl, rfl, rfl, rfl, rfl, trivial⟩
    refine WP.next ?_; refine WP.condF rfl ?_; refine WP.seq ?_; refine WP.region [0, 1, 2, 3, 4, 5, 6] rfl ?_; refine WP.mv rfl rfl ?_; refine WP.split rfl rfl rfl rfl (Yld.eql rfl rfl rfl) (fun hz => ?_) (fun hz => ?_)
    ·refine WP.mv rfl rfl ?_
     refine WP.valG rfl rfl rfl rfl rfl rfl rfl (Yld.move rfl rfl) ?_; refine WP.splitG rfl rfl rfl rfl rfl rfl rfl (Yld.gtr rfl rfl rfl) (fun hz0 => ?_) (fun hz0 => ?_)
     ·refine WP.vl rfl (Yld.pickT rfl rfl rfl) ?_
      refine WP.mv rfl rfl ?_; refine WP.nil ?_; refine WP.sub [(0, _), (1, _), (7, _), (8, _), (9, _), (10, _), (11, _), (16, _), (21, _), (32, _)] ?_ ⟨rfl, rfl, rfl, rfl, rfl, rfl, rfl, rfl, rfl, rfl, trivial⟩
      refine WP.next ?_; refine WP.condT rfl ?_; refine WP.seq ?_; refine WP.region [0, 1, 2] rfl ?_; iterate 3 refine WP.mv rfl rfl ?_
      refine WP.nil (WP.next (WP.ret ?_))
      refine WP.fn .ret (.inr rfl) (res3 rfl rfl rfl rfl) [] (Imm.le_refl _) ?_; rw [if_neg (by omega)] at hinv
      rw [if_pos ⟨by omega, by omega⟩] at hinv
      rw [← hinv]; exact ⟨rfl, rfl, rfl⟩
     ·refine WP.vl rfl (Yld.pickT rfl rfl rfl) ?_
      refine WP.mv rfl rfl ?_; refine WP.nil ?_; refine WP.sub [(0, _), (1, _), (7, _), (8, _), (9, _), (10, _), (11, _), (16, _), (21, _), (32, _)] ?_ ⟨rfl, rfl, rfl, rfl, rfl, rfl, rfl, rfl, rfl, rfl, trivial⟩
      refine WP.next ?_; refine WP.condF rfl ?_; refine WP.seq ?_; refine WP.region [0, 1, 2, 3, 4, 5, 6] rfl ?_; refine WP.mv rfl rfl ?_; refine WP.split rfl rfl rfl rfl (Yld.eql rfl rfl rfl) (fun h9 => ?_) (fun h9 => ?_)
      ·refine WP.mv rfl rfl ?_
       refine WP.valG rfl rfl rfl rfl rfl rfl rfl (Yld.move rfl rfl) ?_; refine WP.splitG rfl rfl rfl rfl rfl rfl rfl (Yld.gtr rfl rfl rfl) (fun h91 => ?_) (fun h91 => ?_)
       ·refine WP.vl rfl (Yld.pickT rfl rfl rfl) ?_
        refine WP.mv rfl rfl ?_; refine WP.nil ?_; refine WP.sub [(0, _), (1, _), (7, _), (8, _), (9, _), (10, _), (11, _), (16, _), (21, _), (32, _), (39, _)] ?_ ⟨rfl, rfl, rfl, rfl, rfl, rfl, rfl, rfl, rfl, rfl, rfl, trivial⟩
        refine WP.next ?_; refine WP.condT rfl ?_; refine WP.seq ?_; refine WP.region [0, 1, 2] rfl ?_; iterate 3 refine WP.mv rfl rfl ?_
        refine WP.nil (WP.next (WP.ret ?_))
        refine WP.fn .ret (.inr rfl) (res3 rfl rfl rfl rfl) [] (Imm.le_refl _) ?_; rw [if_neg (by omega)] at hinv
        rw [if_neg (by omega)] at hinv
        rw [if_pos ⟨by omega, by omega⟩] at hinv
        rw [← hinv]; exact ⟨rfl, rfl, rfl⟩
       ·refine WP.vl rfl (Yld.pickT rfl rfl rfl) ?_
        refine WP.mv rfl rfl ?_; refine WP.nil ?_; refine WP.sub [(0, _), (1, _), (7, _), (8, _), (9, _), (10, _), (11, _), (16, _), (21, _), (32, _), (39, _)] ?_ ⟨rfl, rfl, rfl, rfl, rfl, rfl, rfl, rfl, rfl, rfl, rfl, trivial⟩
        refine WP.next ?_; refine WP.condF rfl ?_; refine WP.skip (WP.leave (WP.next (WP.seq ?_)))
        refine WP.region [0, 1, 2, 3, 4, 5, 6, 7] rfl ?_; iterate 2 refine WP.mv rfl rfl ?_
        refine WP.vl rfl (Yld.conv64u x.toNat rfl ty_un_5 ty_ik_44 rfl (by omega)) ?_; refine WP.mv rfl rfl ?_; refine WP.vl rfl (Yld.mul64 rfl rfl rfl (by omega)) ?_; refine WP.vl rfl (Yld.shlU64 x.toNat (7 * i) rfl rfl (congrArg (fun z => some (Value.int .i64 z)) (show (7 : Int) * (i : Int) = ((7 * i : Nat) : Int) by omega)) (by omega)) ?_; refine WP.vl rfl (Yld.orU64 a _ ha (Nat.mod_lt _ (by decide)) rfl rfl rfl) ?_; refine WP.mv rfl rfl ?_; refine WP.nil ?_; refine WP.sub [(0, _), (1, _), (7, _), (8, _), (9, _), (10, _), (11, _), (16, _), (21, _), (32, _), (39, _)] ?_ ⟨rfl, rfl, rfl, rfl, rfl, rfl, rfl, rfl, rfl, rfl, rfl, trivial⟩
        refine WP.next (WP.seq (WP.seq ?_))
        refine WP.region [0, 1, 2] rfl ?_; iterate 2 refine WP.mv rfl rfl ?_
        refine WP.split rfl rfl rfl rfl (Yld.gtr rfl rfl rfl) (fun hbig => ?_) (fun hbig => ?_)
        ·refine WP.nil ?_
         refine WP.sub [(0, _), (1, _), (7, _), (8, _), (9, _), (10, _), (11, _), (16, _), (21, _), (32, _), (39, _), (55, _)] ?_ ⟨rfl, rfl, rfl, rfl, rfl, rfl, rfl, rfl, rfl, rfl, rfl, rfl, trivial⟩
         refine WP.next ?_; refine WP.condT rfl ?_; refine WP.seq ?_; refine WP.region [0, 1, 2] rfl ?_; iterate 3 refine WP.mv rfl rfl ?_
         refine WP.nil (WP.next (WP.ret ?_))
         refine WP.fn .ret (.inr rfl) (res3 rfl rfl rfl rfl) [] (Imm.le_refl _) ?_; rw [if_neg (by omega)] at hinv
         rw [if_neg (by omega)] at hinv
         rw [if_neg (by omega)] at hinv
         rw [if_pos (by omega)] at hinv
         rw [← hinv]; exact ⟨rfl, rfl, rfl⟩
        ·refine WP.nil ?_
         refine WP.sub [(0, _), (1, _), (7, _), (8, _), (9, _), (10, _), (11, _), (16, _), (21, _), (32, _), (39, _), (55, _)] ?_ ⟨rfl, rfl, rfl, rfl, rfl, rfl, rfl, rfl, rfl, rfl, rfl, rfl, trivial⟩
         refine WP.next ?_; refine WP.condF rfl ?_; refine WP.skip (WP.next (WP.seq ?_))
         refine WP.region [0, 1, 2, 3, 4, 5] rfl ?_; iterate 2 refine WP.mv rfl rfl ?_
         refine WP.vl rfl (Yld.add64 rfl rfl rfl (by omega)) ?_; iterate 3 refine WP.mv rfl rfl ?_
         refine WP.nil ?_; refine WP.sub [(0, _), (1, _), (4, _), (5, _), (6, _), (7, _), (8, _), (9, _), (10, _), (11, _), (16, _), (21, _), (32, _), (39, _), (55, _)] ?_ ⟨rfl, rfl, rfl, rfl, rfl, rfl, rfl, rfl, rfl, rfl, rfl, rfl, rfl, rfl, rfl, trivial⟩
         refine WP.next (WP.ret ?_)
         refine WP.fn .ret (.inr rfl) (res3 rfl rfl rfl rfl) [] (Imm.le_refl _) ?_; rw [if_neg (by omega)] at hinv
         rw [if_neg (by omega)] at hinv
         rw [if_neg (by omega)] at hinv
         rw [if_neg (by omega)] at hinv
         rw [← hinv]; exact ⟨rfl, rfl, rfl⟩
      ·refine WP.mv rfl rfl ?_
       iterate 2 refine WP.passG rfl rfl rfl rfl rfl rfl rfl rfl ?_
       refine WP.vl rfl (Yld.pickF rfl rfl rfl) ?_; refine WP.mv rfl rfl ?_; refine WP.nil ?_; refine WP.sub [(0, _), (1, _), (7, _), (8, _), (9, _), (10, _), (11, _), (16, _), (21, _), (32, _), (39, _)] ?_ ⟨rfl, rfl, rfl, rfl, rfl, rfl, rfl, rfl, rfl, rfl, rfl, trivial⟩
       refine WP.next ?_; refine WP.condF rfl ?_; refine WP.skip (WP.leave (WP.next (WP.seq ?_)))
       refine WP.region [0, 1, 2, 3, 4, 5, 6, 7] rfl ?_; iterate 2 refine WP.mv rfl rfl ?_
       refine WP.vl rfl (Yld.conv64u x.toNat rfl ty_un_5 ty_ik_44 rfl (by omega)) ?_; refine WP.mv rfl rfl ?_; refine WP.vl rfl (Yld.mul64 rfl rfl rfl (by omega)) ?_; refine WP.vl rfl (Yld.shlU64 x.toNat (7 * i) rfl rfl (congrArg (fun z => some (Value.int .i64 z)) (show (7 : Int) * (i : Int) = ((7 * i : Nat) : Int) by omega)) (by omega)) ?_; refine WP.vl rfl (Yld.orU64 a _ ha (Nat.mod_lt _ (by decide)) rfl rfl rfl) ?_; refine WP.mv rfl rfl ?_; refine WP.nil ?_; refine WP.sub [(0, _), (1, _), (7, _), (8, _), (9, _), (10, _), (11, _), (16, _), (21, _), (32, _), (39, _)] ?_ ⟨rfl, rfl, rfl, rfl, rfl, rfl, rfl, rfl, rfl, rfl, rfl, trivial⟩
       refine WP.next (WP.seq (WP.seq ?_))
       refine WP.region [0, 1, 2] rfl ?_; iterate 2 refine WP.mv rfl rfl ?_
       refine WP.split rfl rfl rfl rfl (Yld.gtr rfl rfl rfl) (fun hbig => ?_) (fun hbig => ?_)
       ·refine WP.nil ?_
        refine WP.sub [(0, _), (1, _), (7, _), (8, _), (9, _), (10, _), (11, _), (16, _), (21, _), (32, _), (39, _), (55, _)] ?_ ⟨rfl, rfl, rfl, rfl, rfl, rfl, rfl, rfl, rfl, rfl, rfl, rfl, trivial⟩
        refine WP.next ?_; refine WP.condT rfl ?_; refine WP.seq ?_; refine WP.region [0, 1, 2] rfl ?_; iterate 3 refine WP.mv rfl rfl ?_
        refine WP.nil (WP.next (WP.ret ?_))
        refine WP.fn .ret (.inr rfl) (res3 rfl rfl rfl rfl) [] (Imm.le_refl _) ?_; rw [if_neg (by omega)] at hinv
        rw [if_neg (by omega)] at hinv
        rw [if_neg (by omega)] at hinv
        rw [if_pos (by omega)] at hinv
        rw [← hinv]; exact ⟨rfl, rfl, rfl⟩
       ·refine WP.nil ?_
        refine WP.sub [(0, _), (1, _), (7, _), (8, _), (9, _), (10, _), (11, _), (16, _), (21, _), (32, _), (39, _), (55, _)] ?_ ⟨rfl, rfl, rfl, rfl, rfl, rfl, rfl, rfl, rfl, rfl, rfl, rfl, trivial⟩
        refine WP.next ?_; refine WP.condF rfl ?_; refine WP.skip (WP.next (WP.seq ?_))
        refine WP.region [0, 1, 2, 3, 4, 5] rfl ?_; iterate 2 refine WP.mv rfl rfl ?_
        refine WP.vl rfl (Yld.add64 rfl rfl rfl (by omega)) ?_; iterate 3 refine WP.mv rfl rfl ?_
        refine WP.nil ?_; refine WP.sub [(0, _), (1, _), (4, _), (5, _), (6, _), (7, _), (8, _), (9, _), (10, _), (11, _), (16, _), (21, _), (32, _), (39, _), (55, _)] ?_ ⟨rfl, rfl, rfl, rfl, rfl, rfl, rfl, rfl, rfl, rfl, rfl, rfl, rfl, rfl, rfl, trivial⟩
        refine WP.next (WP.ret ?_)
        refine WP.fn .ret (.inr rfl) (res3 rfl rfl rfl rfl) [] (Imm.le_refl _) ?_; rw [if_neg (by omega)] at hinv
        rw [if_neg (by omega)] at hinv
        rw [if_neg (by omega)] at hinv
        rw [if_neg (by omega)] at hinv
        rw [← hinv]; exact ⟨rfl, rfl, rfl⟩
    ·refine WP.mv rfl rfl ?_
     iterate 2 refine WP.passG rfl rfl rfl rfl rfl rfl rfl rfl ?_
     refine WP.vl rfl (Yld.pickF rfl rfl rfl) ?_; refine WP.mv rfl rfl ?_; refine WP.nil ?_; refine WP.sub [(0, _), (1, _), (7, _), (8, _), (9, _), (10, _), (11, _), (16, _), (21, _), (32, _)] ?_ ⟨rfl, rfl, rfl, rfl, rfl, rfl, rfl, rfl, rfl, rfl, trivial⟩
     refine WP.next ?_; refine WP.condF rfl ?_; refine WP.seq ?_; refine WP.region [0, 1, 2, 3, 4, 5, 6] rfl ?_; refine WP.mv rfl rfl ?_; refine WP.split rfl rfl rfl rfl (Yld.eql rfl rfl rfl) (fun h9 => ?_) (fun h9 => ?_)
     ·refine WP.mv rfl rfl ?_
      refine WP.valG rfl rfl rfl rfl rfl rfl rfl (Yld.move rfl rfl) ?_; refine WP.splitG rfl rfl rfl rfl rfl rfl rfl (Yld.gtr rfl rfl rfl) (fun h91 => ?_) (fun h91 => ?_)
      ·refine WP.vl rfl (Yld.pickT rfl rfl rfl) ?_
       refine WP.mv rfl rfl ?_; refine WP.nil ?_; refine WP.sub [(0, _), (1, _), (7, _), (8, _), (9, _), (10, _), (11, _), (16, _), (21, _), (32, _), (39, _)] ?_ ⟨rfl, rfl, rfl, rfl, rfl, rfl, rfl, rfl, rfl, rfl, rfl, trivial⟩
       refine WP.next ?_; refine WP.condT rfl ?_; refine WP.seq ?_; refine WP.region [0, 1, 2] rfl ?_; iterate 3 refine WP.mv rfl rfl ?_
       refine WP.nil (WP.next (WP.ret ?_))
       refine WP.fn .ret (.inr rfl) (res3 rfl rfl rfl rfl) [] (Imm.le_refl _) ?_; rw [if_neg (by omega)] at hinv
       rw [if_neg (by omega)] at hinv
       rw [if_pos ⟨by omega, by omega⟩] at hinv
       rw [← hinv]; exact ⟨rfl, rfl, rfl⟩
      ·refine WP.vl rfl (Yld.pickT rfl rfl rfl) ?_
       refine WP.mv rfl rfl ?_; refine WP.nil ?_; refine WP.sub [(0, _), (1, _), (7, _), (8, _), (9, _), (10, _), (11, _), (16, _), (21, _), (32, _), (39, _)] ?_ ⟨rfl, rfl, rfl, rfl, rfl, rfl, rfl, rfl, rfl, rfl, rfl, trivial⟩
       refine WP.next ?_; refine WP.condF rfl ?_; refine WP.skip (WP.leave (WP.next (WP.seq ?_)))
       refine WP.region [0, 1, 2, 3, 4, 5, 6, 7] rfl ?_; iterate 2 refine WP.mv rfl rfl ?_
       refine WP.vl rfl (Yld.conv64u x.toNat rfl ty_un_5 ty_ik_44 rfl (by omega)) ?_; refine WP.mv rfl rfl ?_; refine WP.vl rfl (Yld.mul64 rfl rfl rfl (by omega)) ?_; refine WP.vl rfl (Yld.shlU64 x.toNat (7 * i) rfl rfl (congrArg (fun z => some (Value.int .i64 z)) (show (7 : Int) * (i : Int) = ((7 * i : Nat) : Int) by omega)) (by omega)) ?_; refine WP.vl rfl (Yld.orU64 a _ ha (Nat.mod_lt _ (by decide)) rfl rfl rfl) ?_; refine WP.mv rfl rfl ?_; refine WP.nil ?_; refine WP.sub [(0, _), (1, _), (7, _), (8, _), (9, _), (10, _), (11, _), (16, _), (21, _), (32, _), (39, _)] ?_ ⟨rfl, rfl, rfl, rfl, rfl, rfl, rfl, rfl, rfl, rfl, rfl, trivial⟩
       refine WP.next (WP.seq (WP.seq ?_))
       refine WP.region [0, 1, 2] rfl ?_; iterate 2 refine WP.mv rfl rfl ?_
       refine WP.split rfl rfl rfl rfl (Yld.gtr rfl rfl rfl) (fun hbig => ?_) (fun hbig => ?_)
       ·refine WP.nil ?_
        refine WP.sub [(0, _), (1, _), (7, _), (8, _), (9, _), (10, _), (11, _), (16, _), (21, _), (32, _), (39, _), (55, _)] ?_ ⟨rfl, rfl, rfl, rfl, rfl, rfl, rfl, rfl, rfl, rfl, rfl, rfl, trivial⟩
        refine WP.next ?_; refine WP.condT rfl ?_; refine WP.seq ?_; refine WP.region [0, 1, 2] rfl ?_; iterate 3 refine WP.mv rfl rfl ?_
        refine WP.nil (WP.next (WP.ret ?_))
        refine WP.fn .ret (.inr rfl) (res3 rfl rfl rfl rfl) [] (Imm.le_refl _) ?_; rw [if_neg (by omega)] at hinv
        rw [if_neg (by omega)] at hinv
        rw [if_neg (by omega)] at hinv
        rw [if_pos (by omega)] at hinv
        rw [← hinv]; exact ⟨rfl, rfl, rfl⟩
       ·refine WP.nil ?_
        refine WP.sub [(0, _), (1, _), (7, _), (8, _), (9, _), (10, _), (11, _), (16, _), (21, _), (32, _), (39, _), (55, _)] ?_ ⟨rfl, rfl, rfl, rfl, rfl, rfl, rfl, rfl, rfl, rfl, rfl, rfl, trivial⟩
        refine WP.next ?_; refine WP.condF rfl ?_; refine WP.skip (WP.next (WP.seq ?_))
        refine WP.region [0, 1, 2, 3, 4, 5] rfl ?_; iterate 2 refine WP.mv rfl rfl ?_
        refine WP.vl rfl (Yld.add64 rfl rfl rfl (by omega)) ?_; iterate 3 refine WP.mv rfl rfl ?_
        refine WP.nil ?_; refine WP.sub [(0, _), (1, _), (4, _), (5, _), (6, _), (7, _), (8, _), (9, _), (10, _), (11, _), (16, _), (21, _), (32, _), (39, _), (55, _)] ?_ ⟨rfl, rfl, rfl, rfl, rfl, rfl, rfl, rfl, rfl, rfl, rfl, rfl, rfl, rfl, rfl, trivial⟩
        refine WP.next (WP.ret ?_)
        refine WP.fn .ret (.inr rfl) (res3 rfl rfl rfl rfl) [] (Imm.le_refl _) ?_; rw [if_neg (by omega)] at hinv
        rw [if_neg (by omega)] at hinv
        rw [if_neg (by omega)] at hinv
        rw [if_neg (by omega)] at hinv
        rw [← hinv]; exact ⟨rfl, rfl, rfl⟩
     ·refine WP.mv rfl rfl ?_
      iterate 2 refine WP.passG rfl rfl rfl rfl rfl rfl rfl rfl ?_
      refine WP.vl rfl (Yld.pickF rfl rfl rfl) ?_; refine WP.mv rfl rfl ?_; refine WP.nil ?_; refine WP.sub [(0, _), (1, _), (7, _), (8, _), (9, _), (10, _), (11, _), (16, _), (21, _), (32, _), (39, _)] ?_ ⟨rfl, rfl, rfl, rfl, rfl, rfl, rfl, rfl, rfl, rfl, rfl, trivial⟩
      refine WP.next ?_; refine WP.condF rfl ?_; refine WP.skip (WP.leave (WP.next (WP.seq ?_)))
      refine WP.region [0, 1, 2, 3, 4, 5, 6, 7] rfl ?_; iterate 2 refine WP.mv rfl rfl ?_
      refine WP.vl rfl (Yld.conv64u x.toNat rfl ty_un_5 ty_ik_44 rfl (by omega)) ?_; refine WP.mv rfl rfl ?_; refine WP.vl rfl (Yld.mul64 rfl rfl rfl (by omega)) ?_; refine WP.vl rfl (Yld.shlU64 x.toNat (7 * i) rfl rfl (congrArg (fun z => some (Value.int .i64 z)) (show (7 : Int) * (i : Int) = ((7 * i : Nat) : Int) by omega)) (by omega)) ?_; refine WP.vl rfl (Yld.orU64 a _ ha (Nat.mod_lt _ (by decide)) rfl rfl rfl) ?_; refine WP.mv rfl rfl ?_; refine WP.nil ?_; refine WP.sub [(0, _), (1, _), (7, _), (8, _), (9, _), (10, _), (11, _), (16, _), (21, _), (32, _), (39, _)] ?_ ⟨rfl, rfl, rfl, rfl, rfl, rfl, rfl, rfl, rfl, rfl, rfl, trivial⟩
      refine WP.next (WP.seq (WP.seq ?_))
      refine WP.region [0, 1, 2] rfl ?_; iterate 2 refine WP.mv rfl rfl ?_
      refine WP.split rfl rfl rfl rfl (Yld.gtr rfl rfl rfl) (fun hbig => ?_) (fun hbig => ?_)
      ·refine WP.nil ?_
       refine WP.sub [(0, _), (1, _), (7, _), (8, _), (9, _), (10, _), (11, _), (16, _), (21, _), (32, _), (39, _), (55, _)] ?_ ⟨rfl, rfl, rfl, rfl, rfl, rfl, rfl, rfl, rfl, rfl, rfl, rfl, trivial⟩
       refine WP.next ?_; refine WP.condT rfl ?_; refine WP.seq ?_; refine WP.region [0, 1, 2] rfl ?_; iterate 3 refine WP.mv rfl rfl ?_
       refine WP.nil (WP.next (WP.ret ?_))
       refine WP.fn .ret (.inr rfl) (res3 rfl rfl rfl rfl) [] (Imm.le_refl _) ?_; rw [if_neg (by omega)] at hinv
       rw [if_neg (by omega)] at hinv
       rw [if_neg (by omega)] at hinv
       rw [if_pos (by omega)] at hinv
       rw [← hinv]; exact ⟨rfl, rfl, rfl⟩
      ·refine WP.nil ?_
       refine WP.sub [(0, _), (1, _), (7, _), (8, _), (9, _), (10, _), (11, _), (16, _), (21, _), (32, _), (39, _), (55, _)] ?_ ⟨rfl, rfl, rfl, rfl, rfl, rfl, rfl, rfl, rfl, rfl, rfl, rfl, trivial⟩
       refine WP.next ?_; refine WP.condF rfl ?_; refine WP.skip (WP.next (WP.seq ?_))
       refine WP.region [0, 1, 2, 3, 4, 5] rfl ?_; iterate 2 refine WP.mv rfl rfl ?_
       refine WP.vl rfl (Yld.add64 rfl rfl rfl (by omega)) ?_; iterate 3 refine WP.mv rfl rfl ?_
       refine WP.nil ?_; refine WP.sub [(0, _), (1, _), (4, _), (5, _), (6, _), (7, _), (8, _), (9, _), (10, _), (11, _), (16, _), (21, _), (32, _), (39, _), (55, _)] ?_ ⟨rfl, rfl, rfl, rfl, rfl, rfl, rfl, rfl, rfl, rfl, rfl, rfl, rfl, rfl, rfl, trivial⟩
       refine WP.next (WP.ret ?_)
       refine WP.fn .ret (.inr rfl) (res3 rfl rfl rfl rfl) [] (Imm.le_refl _) ?_; rw [if_neg (by omega)] at hinv
       rw [if_neg (by omega)] at hinv
       rw [if_neg (by omega)] at hinv
       rw [if_neg (by omega)] at hinv
       rw [← hinv]; exact ⟨rfl, rfl, rfl⟩
 ·have h0 : 10 - i = 0 := by omega
  rw [h0] at hinv
  refine WP.nil (WP.next (WP.seq ?_))
  refine WP.condF rfl ?_; refine WP.exit (WP.thenE (WP.thenE (WP.hit (WP.next (WP.seq ?_)))))
  refine WP.region [0, 1, 2] rfl ?_; iterate 3 refine WP.mv rfl rfl ?_
  refine WP.nil (WP.next (WP.ret ?_))
  refine WP.fn .ret (.inr rfl) (res3 rfl rfl rfl rfl) [] (Imm.le_refl _) ?_; rw [← hinv]; exact ⟨rfl, rfl, rfl⟩


/-- A Reader. -/
inductive IsRd (I : Imm) (q : Nat) (s : Rs) : Chunks → Prop
 | mk {v : Value} (h : SlRd (Im I) v s.bs.length 1 (bytesV s.bs)) (hl : s.bs.length ≤ 140737488355328) : IsRd I q s [(q, row 243 [v, .int .i64 s.e])]
theorem IsRd.mk' {I : Imm} {q : Nat} {s : Rs} {v : Value} {e : Int} (h : SlRd (Im I) v s.bs.length 1 (bytesV s.bs)) (hl : s.bs.length ≤ 140737488355328) (he : e = s.e) : IsRd I q s [(q, row 243 [v, .int .i64 e])] := by
 subst he; exact .mk h hl
theorem IsRd.mono {I J : Imm} {q : Nat} {s : Rs} {L : Chunks} (h : IsRd I q s L) (hJ : I.le J) : IsRd J q s L := by
 cases h with | mk h hl => exact .mk (h.mono fun b o k => hJ.2 b o k) hl
theorem code_NewReader {I : Imm} {b : List UInt8} {vb : Value} (hb : SlRd (Im I) vb b.length 1 (bytesV b)) (hl : b.length ≤ 140737488355328) : Spec Tryz.prog 114 [vb] I [] (fun v J L => ∃ q, v = .pointer (some ⟨q, 0, none⟩) ∧ IsRd J q ⟨b, 0⟩ L) := by
 refine Spec.of Tryz.func114 rfl Tryz.ntmps114 (Nat.le_of_ble_eq_true rfl) (fun F => ?_)
 try simp only [nf]
 dsimp only [argsEnv]
 refine WP.seq ?_; refine WP.region [0] rfl ?_; refine WP.mv rfl rfl ?_; refine WP.nil (WP.next (WP.seq ?_))
 refine WP.region [0, 1, 2, 3, 4] rfl ?_; refine WP.mv rfl rfl ?_; refine WP.loud rfl rfl ?_; refine Op.cl (code_copied hb hl) rfl Tryz.func110 rfl rfl rfl rfl ?_; rintro v J Lc - ⟨rfl, hc⟩
 try simp only [nf]
 obtain ⟨Ac, cc, rfl, _⟩ := hc.slice
 refine WP.vl rfl (Yld.buildS (pl := [(0, 0, 1)]) rfl ty_zr_243 ty_zd_243 zK rfl (vs := [_]) rfl (segs := [(0, [_])]) rfl rfl zS) ?_; refine WP.loud rfl rfl ?_; refine Op.box rfl rfl rfl rfl rfl (fun q => ?_)
 refine WP.mv rfl rfl ?_; refine WP.nil ?_; refine WP.sub [(0, _), (2, _)] ?_ ⟨rfl, rfl, trivial⟩
 refine WP.shO hc (fun J2 hJ2 hd => ?_)
 refine WP.next (WP.ret ?_)
 refine WP.fn .ret (.inr rfl) (res1 rfl rfl) [(q, row 243 [(.slice Ac b.length cc), .int .i64 0])] hJ2 ?_; exact ⟨q, rfl, .mk (s := ⟨b, 0⟩) hd hl⟩

theorem code_RNum {I : Imm} {q : Nat} {s : Rs} {L : Chunks} (hq : IsRd I q s L) {most : Nat} : Spec Tryz.prog 115 [.pointer (some ⟨q, 0, none⟩), .int .u64 (most : Int)] I L (fun v J L' => v = .int .u64 ((rNum most s).1 : Int) ∧ I = J ∧ IsRd I q (rNum most s).2 L') := by
 cases hq with
 | @mk v hb hl =>
 obtain ⟨Av, cv, rfl, hcv, _, _⟩ := id hb
 refine Spec.of Tryz.func115 rfl Tryz.ntmps115 (Nat.le_of_ble_eq_true rfl) (fun F => ?_)
 try simp only [nf]
 dsimp only [argsEnv]
 refine WP.seq ?_; refine WP.region [0] rfl ?_; refine WP.mv rfl rfl ?_; refine WP.nil (WP.next (WP.seq (WP.seq ?_)))
 refine WP.region [0, 1, 2, 3, 4] rfl ?_; refine WP.mv rfl rfl ?_; refine WP.vl rfl (Yld.nilCheck rfl rfl) ?_; refine WP.vl rfl (Yld.fieldAddr rfl ty_fd_243_1 rfl) ?_; refine WP.vl rfl (Yld.ld (v := .int .i64 s.e) rfl ty_sc_40 rfl rfl) ?_; refine WP.split rfl rfl rfl rfl (Yld.neq rfl rfl rfl) (fun he => ?_) (fun he => ?_)
 ·refine WP.nil ?_
  refine WP.sub [(0, _), (1, _), (4, _), (12, _)] ?_ ⟨rfl, rfl, rfl, rfl, trivial⟩
  refine WP.next ?_; refine WP.condT rfl ?_; refine WP.seq ?_; refine WP.region [0] rfl ?_; refine WP.mv rfl rfl ?_; refine WP.nil (WP.next (WP.ret ?_))
  refine WP.fn .ret (.inr rfl) (res1 rfl rfl) [(q, row 243 [(.slice Av s.bs.length cv), .int .i64 s.e])] (Imm.le_refl _) ?_; have e : rNum most s = (0, s) := if_neg he
  rw [e]; exact ⟨rfl, rfl, .mk hb hl⟩
 ·refine WP.nil ?_
  refine WP.sub [(0, _), (1, _), (4, _), (12, _)] ?_ ⟨rfl, rfl, rfl, rfl, trivial⟩
  refine WP.next ?_; refine WP.condF rfl ?_; refine WP.skip (WP.next (WP.seq ?_))
  refine WP.region [0, 1, 2, 3, 4, 5, 6, 7, 8, 9, 10, 11, 12] rfl ?_; refine WP.mv rfl rfl ?_; refine WP.vl rfl (Yld.nilCheck rfl rfl) ?_; refine WP.vl rfl (Yld.fieldAddr rfl ty_fd_243_0 rfl) ?_; refine WP.vl rfl (Yld.ld (v := .slice Av s.bs.length cv) rfl ty_sc_47 rfl rfl) ?_; refine WP.mv rfl rfl ?_; refine WP.loud rfl rfl ?_; refine Op.cl (code_number (most := most) hb hl) rfl Tryz.func122 rfl rfl rfl rfl ?_; rintro v J L1 - ⟨rfl, rfl, rfl⟩
  try simp only [nf]
  refine WP.mv rfl rfl ?_; iterate 3 refine WP.vl rfl (Yld.extract rfl rfl rfl) ?_
  iterate 3 refine WP.mv rfl rfl ?_
  refine WP.nil ?_; refine WP.sub [(0, _), (1, _), (4, _), (5, _), (6, _), (7, _), (12, _)] ?_ ⟨rfl, rfl, rfl, rfl, rfl, rfl, rfl, trivial⟩
  refine WP.next (WP.seq ?_)
  refine WP.region [0, 1, 2, 3, 4, 5, 6, 7, 8, 9, 10, 11, 12, 13, 14] rfl ?_; iterate 3 refine WP.mv rfl rfl ?_
  refine WP.vl rfl (Yld.nilCheck rfl rfl) ?_; refine WP.vl rfl (Yld.fieldAddr rfl ty_fd_243_0 rfl) ?_; refine WP.vl rfl (Yld.ld (v := .slice Av s.bs.length cv) rfl ty_sc_47 rfl rfl) ?_; refine WP.mv rfl rfl ?_; refine WP.vl rfl (Yld.slice (l := (rdN most 10 0 0 s.bs).2.1) (h := s.bs.length) rfl ty_sl_47 rfl (Env.limS rfl) rfl rdN_bs (by omega)) ?_; refine WP.mv rfl rfl ?_; refine WP.vl rfl (Yld.nilCheck rfl rfl) ?_; refine WP.vl rfl (Yld.fieldAddr rfl ty_fd_243_0 rfl) ?_; refine WP.loud rfl rfl ?_; refine Op.s1 rfl rfl ty_sz_47 rfl rfl rfl ?_; refine WP.vl rfl (Yld.nilCheck rfl rfl) ?_; refine WP.vl rfl (Yld.fieldAddr rfl ty_fd_243_1 rfl) ?_; refine WP.loud rfl rfl ?_; refine Op.s1 rfl rfl ty_sz_40 rfl rfl rfl ?_; refine WP.nil ?_; refine WP.sub [(0, _), (1, _), (4, _), (5, _), (6, _), (7, _), (12, _)] ?_ ⟨rfl, rfl, rfl, rfl, rfl, rfl, rfl, trivial⟩
  refine WP.next (WP.seq ?_)
  refine WP.region [0, 1] rfl ?_; iterate 2 refine WP.mv rfl rfl ?_
  refine WP.nil ?_; refine WP.sub [(0, _), (1, _), (4, _), (5, _), (6, _), (7, _), (12, _)] ?_ ⟨rfl, rfl, rfl, rfl, rfl, rfl, rfl, trivial⟩
  refine WP.next (WP.ret ?_)
  refine WP.fn .ret (.inr rfl) (res1 rfl rfl) [(q, row 243 [(subSl 1 (rdN most 10 0 0 s.bs).2.1 s.bs.length (.slice Av s.bs.length cv)), .int .i64 (rdN most 10 0 0 s.bs).2.2])] (Imm.le_refl _) ?_; have e : rNum most s = _ := if_pos (by simpa using he)
  rw [e]; exact ⟨rfl, rfl, .mk (s := ⟨_, _⟩) (hb.dropB rdN_bs) (by rw [List.length_drop]; omega)⟩

theorem code_RDone {I : Imm} {q : Nat} {s : Rs} {L : Chunks} (hq : IsRd I q s L) : Spec Tryz.prog 117 [.pointer (some ⟨q, 0, none⟩)] I L (fun v J L' => v = .int .i64 s.done ∧ I = J ∧ IsRd I q s L') := by
 cases hq with
 | @mk v hb hl =>
 obtain ⟨Av, cv, rfl, hcv, _, _⟩ := id hb
 refine Spec.of Tryz.func117 rfl Tryz.ntmps117 (Nat.le_of_ble_eq_true rfl) (fun F => ?_)
 try simp only [nf]
 dsimp only [argsEnv]
 refine WP.seq ?_; refine WP.region [0] rfl ?_; refine WP.mv rfl rfl ?_; refine WP.nil (WP.next (WP.seq (WP.seq ?_)))
 refine WP.region [0, 1, 2, 3, 4, 5, 6, 7, 8, 9, 10, 11, 12] rfl ?_; refine WP.mv rfl rfl ?_; refine WP.vl rfl (Yld.nilCheck rfl rfl) ?_; refine WP.vl rfl (Yld.fieldAddr rfl ty_fd_243_1 rfl) ?_; refine WP.vl rfl (Yld.ld (v := .int .i64 s.e) rfl ty_sc_40 rfl rfl) ?_; refine WP.split rfl rfl rfl rfl (Yld.eql rfl rfl rfl) (fun he => ?_) (fun he => ?_)
 ·refine WP.mv rfl rfl ?_
  refine WP.valG rfl rfl rfl rfl rfl rfl rfl (Yld.move rfl rfl) ?_; refine WP.valG rfl rfl rfl rfl rfl rfl rfl (Yld.nilCheck rfl rfl) ?_; refine WP.valG rfl rfl rfl rfl rfl rfl rfl (Yld.fieldAddr rfl ty_fd_243_0 rfl) ?_; refine WP.valG rfl rfl rfl rfl rfl rfl rfl (Yld.ld (v := .slice Av s.bs.length cv) rfl ty_sc_47 rfl rfl) ?_; refine WP.valG rfl rfl rfl rfl rfl rfl rfl (Yld.len rfl ty_sl_47 rfl) ?_; refine WP.splitG rfl rfl rfl rfl rfl rfl rfl (Yld.gtr rfl rfl rfl) (fun hlen => ?_) (fun hlen => ?_)
  ·refine WP.vl rfl (Yld.pickT rfl rfl rfl) ?_
   refine WP.nil ?_; refine WP.sub [(0, _), (2, _), (15, _)] ?_ ⟨rfl, rfl, rfl, trivial⟩
   refine WP.next ?_; refine WP.condT rfl ?_; refine WP.seq ?_; refine WP.region [0] rfl ?_; refine WP.mv rfl rfl ?_; refine WP.nil (WP.next (WP.ret ?_))
   refine WP.fn .ret (.inr rfl) (res1 rfl rfl) [(q, row 243 [(.slice Av s.bs.length cv), .int .i64 s.e])] (Imm.le_refl _) ?_; have e : s.done = 13 := if_pos ⟨he, by omega⟩
   rw [e]; exact ⟨rfl, rfl, .mk hb hl⟩
  ·refine WP.vl rfl (Yld.pickT rfl rfl rfl) ?_
   refine WP.nil ?_; refine WP.sub [(0, _), (2, _), (15, _)] ?_ ⟨rfl, rfl, rfl, trivial⟩
   refine WP.next ?_; refine WP.condF rfl ?_; refine WP.skip (WP.next (WP.seq ?_))
   refine WP.region [0, 1, 2, 3, 4] rfl ?_; refine WP.mv rfl rfl ?_; refine WP.vl rfl (Yld.nilCheck rfl rfl) ?_; refine WP.vl rfl (Yld.fieldAddr rfl ty_fd_243_1 rfl) ?_; refine WP.vl rfl (Yld.ld (v := .int .i64 s.e) rfl ty_sc_40 rfl rfl) ?_; refine WP.mv rfl rfl ?_; refine WP.nil ?_; refine WP.sub [(0, _), (2, _), (15, _)] ?_ ⟨rfl, rfl, rfl, trivial⟩
   refine WP.next (WP.ret ?_)
   refine WP.fn .ret (.inr rfl) (res1 rfl rfl) [(q, row 243 [(.slice Av s.bs.length cv), .int .i64 s.e])] (Imm.le_refl _) ?_; have e : s.done = s.e := if_neg (fun h => by have h1 := h.1; have h2 := h.2; first | exact he h1 | omega)
   rw [e]; exact ⟨rfl, rfl, .mk hb hl⟩
 ·refine WP.mv rfl rfl ?_
  iterate 6 refine WP.passG rfl rfl rfl rfl rfl rfl rfl rfl ?_
  refine WP.vl rfl (Yld.pickF rfl rfl rfl) ?_; refine WP.nil ?_; refine WP.sub [(0, _), (2, _), (15, _)] ?_ ⟨rfl, rfl, rfl, trivial⟩
  refine WP.next ?_; refine WP.condF rfl ?_; refine WP.skip (WP.next (WP.seq ?_))
  refine WP.region [0, 1, 2, 3, 4] rfl ?_; refine WP.mv rfl rfl ?_; refine WP.vl rfl (Yld.nilCheck rfl rfl) ?_; refine WP.vl rfl (Yld.fieldAddr rfl ty_fd_243_1 rfl) ?_; refine WP.vl rfl (Yld.ld (v := .int .i64 s.e) rfl ty_sc_40 rfl rfl) ?_; refine WP.mv rfl rfl ?_; refine WP.nil ?_; refine WP.sub [(0, _), (2, _), (15, _)] ?_ ⟨rfl, rfl, rfl, trivial⟩
  refine WP.next (WP.ret ?_)
  refine WP.fn .ret (.inr rfl) (res1 rfl rfl) [(q, row 243 [(.slice Av s.bs.length cv), .int .i64 s.e])] (Imm.le_refl _) ?_; have e : s.done = s.e := if_neg (fun h => by have h1 := h.1; have h2 := h.2; first | exact he h1 | omega)
  rw [e]; exact ⟨rfl, rfl, .mk hb hl⟩

theorem code_RRaw {I : Imm} {q : Nat} {s : Rs} {L : Chunks} (hq : IsRd I q s L) {k : Nat} (he : s.e = 0) (hk : k ≤ s.bs.length) : Spec Tryz.prog 130 [.pointer (some ⟨q, 0, none⟩), .int .i64 (k : Int)] I L (fun v J L' => I = J ∧ ∃ Lr Ld, L' = Lr ++ Ld ∧ IsRd I q ⟨s.bs.drop k, 0⟩ Lr ∧ Own 5 1 v (bytesV (s.bs.take k)) (s.bs.take k).length Ld) := by
 cases hq with
 | @mk v hb hl =>
 obtain ⟨Av, cv, rfl, hcv, _, _⟩ := id hb
 refine Spec.of Tryz.func130 rfl Tryz.ntmps130 (Nat.le_of_ble_eq_true rfl) (fun F => ?_)
 try simp only [nf]
 dsimp only [argsEnv]
 refine WP.seq ?_; refine WP.region [0] rfl ?_; refine WP.mv rfl rfl ?_; refine WP.nil (WP.next (WP.seq (WP.block (WP.seq ?_))))
 refine WP.region [0, 1, 2, 3, 4, 5] rfl ?_; refine WP.mv rfl rfl ?_; refine WP.vl rfl (Yld.nilCheck rfl rfl) ?_; refine WP.vl rfl (Yld.fieldAddr rfl ty_fd_243_1 rfl) ?_; refine WP.vl rfl (Yld.ld (v := .int .i64 s.e) rfl ty_sc_40 rfl rfl) ?_; refine WP.vl rfl (Yld.neq rfl rfl rfl false (decide_eq_false (by simpa using he))) ?_; refine WP.mv rfl rfl ?_; refine WP.nil ?_; refine WP.sub [(0, _), (1, _), (4, _), (6, _)] ?_ ⟨rfl, rfl, rfl, rfl, trivial⟩
 refine WP.next ?_; refine WP.condF rfl ?_; refine WP.seq ?_; refine WP.region [0, 1, 2] rfl ?_; refine WP.mv rfl rfl ?_; refine WP.vl rfl (Yld.lss rfl rfl rfl false (decide_eq_false (by omega))) ?_; refine WP.mv rfl rfl ?_; refine WP.nil ?_; refine WP.sub [(0, _), (1, _), (4, _), (6, _), (12, _)] ?_ ⟨rfl, rfl, rfl, rfl, rfl, trivial⟩
 refine WP.next ?_; refine WP.condF rfl ?_; refine WP.seq ?_; refine WP.region [0, 1, 2, 3, 4, 5, 6, 7] rfl ?_; iterate 2 refine WP.mv rfl rfl ?_
 refine WP.vl rfl (Yld.nilCheck rfl rfl) ?_; refine WP.vl rfl (Yld.fieldAddr rfl ty_fd_243_0 rfl) ?_; refine WP.vl rfl (Yld.ld (v := .slice Av s.bs.length cv) rfl ty_sc_47 rfl rfl) ?_; refine WP.vl rfl (Yld.len rfl ty_sl_47 rfl) ?_; refine WP.vl rfl (Yld.gtr rfl rfl rfl false (decide_eq_false (by omega))) ?_; refine WP.mv rfl rfl ?_; refine WP.nil ?_; refine WP.sub [(0, _), (1, _), (4, _), (6, _), (12, _), (18, _)] ?_ ⟨rfl, rfl, rfl, rfl, rfl, rfl, trivial⟩
 refine WP.next ?_; refine WP.condF rfl ?_; refine WP.skip (WP.leave (WP.next (WP.seq ?_)))
 refine WP.region [0, 1, 2, 3, 4, 5, 6, 7] rfl ?_; refine WP.mv rfl rfl ?_; refine WP.vl rfl (Yld.nilCheck rfl rfl) ?_; refine WP.vl rfl (Yld.fieldAddr rfl ty_fd_243_0 rfl) ?_; refine WP.vl rfl (Yld.ld (v := .slice Av s.bs.length cv) rfl ty_sc_47 rfl rfl) ?_; refine WP.mv rfl rfl ?_; refine WP.vl rfl (Yld.slice (l := 0) (h := k) rfl ty_sl_47 rfl rfl (Env.limS rfl) (Nat.zero_le _) (by omega)) ?_; refine WP.loud rfl rfl ?_; refine Op.cl (code_copied (hb.takeB hk) (by rw [List.length_take]; omega)) rfl Tryz.func110 rfl rfl rfl rfl ?_; rintro v J Lc - ⟨rfl, hc⟩
 try simp only [nf]
 obtain ⟨Ac, cc, rfl, _⟩ := hc.slice
 refine WP.mv rfl rfl ?_; refine WP.nil ?_; refine WP.sub [(0, _), (1, _), (4, _), (5, _), (6, _), (12, _), (18, _)] ?_ ⟨rfl, rfl, rfl, rfl, rfl, rfl, rfl, trivial⟩
 refine WP.next (WP.seq ?_)
 refine WP.region [0, 1, 2, 3, 4, 5, 6, 7, 8, 9] rfl ?_; iterate 2 refine WP.mv rfl rfl ?_
 refine WP.vl rfl (Yld.nilCheck rfl rfl) ?_; refine WP.vl rfl (Yld.fieldAddr rfl ty_fd_243_0 rfl) ?_; refine WP.vl rfl (Yld.ld (v := .slice Av s.bs.length cv) rfl ty_sc_47 rfl rfl) ?_; refine WP.mv rfl rfl ?_; refine WP.vl rfl (Yld.slice (l := k) (h := s.bs.length) rfl ty_sl_47 rfl (Env.limS rfl) rfl hk (by omega)) ?_; refine WP.vl rfl (Yld.nilCheck rfl rfl) ?_; refine WP.vl rfl (Yld.fieldAddr rfl ty_fd_243_0 rfl) ?_; refine WP.loud rfl rfl ?_; refine Op.s1 rfl rfl ty_sz_47 rfl rfl rfl ?_; refine WP.nil ?_; refine WP.sub [(0, _), (1, _), (4, _), (5, _), (6, _), (12, _), (18, _)] ?_ ⟨rfl, rfl, rfl, rfl, rfl, rfl, rfl, trivial⟩
 refine WP.next (WP.seq ?_)
 refine WP.region [0, 1] rfl ?_; iterate 2 refine WP.mv rfl rfl ?_
 refine WP.nil ?_; refine WP.sub [(0, _), (1, _), (4, _), (5, _), (6, _), (12, _), (18, _)] ?_ ⟨rfl, rfl, rfl, rfl, rfl, rfl, rfl, trivial⟩
 refine WP.next (WP.ret ?_)
 refine WP.fn .ret (.inr rfl) (res1 rfl rfl) ((q, row 243 [(subSl 1 k s.bs.length (.slice Av s.bs.length cv)), .int .i64 s.e]) :: Lc) (Imm.le_refl _) ?_; exact ⟨rfl, [(q, row 243 [(subSl 1 k s.bs.length (.slice Av s.bs.length cv)), .int .i64 s.e])], Lc, rfl, .mk' (s := ⟨_, _⟩) (hb.dropB hk) (by rw [List.length_drop]; omega) he, hc⟩

theorem code_RBytes {I : Imm} {q : Nat} {s : Rs} {L : Chunks} (hq : IsRd I q s L) {most : Nat} (hm : most < 9223372036854775808) : Spec Tryz.prog 123 [.pointer (some ⟨q, 0, none⟩), .int .i64 (most : Int)] I L (fun v J L' => I = J ∧ ∃ Lr Ld, L' = Lr ++ Ld ∧ IsRd I q (rByt most s).2 Lr ∧ Own 5 1 v (bytesV (rByt most s).1) (rByt most s).1.length Ld) := by
 cases hq with
 | @mk v hb hl =>
 obtain ⟨Av, cv, rfl, hcv, _, _⟩ := id hb
 refine Spec.of Tryz.func123 rfl Tryz.ntmps123 (Nat.le_of_ble_eq_true rfl) (fun F => ?_)
 try simp only [nf]
 dsimp only [argsEnv]
 refine WP.seq ?_; refine WP.region [0] rfl ?_; refine WP.mv rfl rfl ?_; refine WP.nil (WP.next (WP.seq (WP.seq ?_)))
 refine WP.region [0, 1, 2, 3, 4] rfl ?_; refine WP.mv rfl rfl ?_; refine WP.vl rfl (Yld.nilCheck rfl rfl) ?_; refine WP.vl rfl (Yld.fieldAddr rfl ty_fd_243_1 rfl) ?_; refine WP.vl rfl (Yld.ld (v := .int .i64 s.e) rfl ty_sc_40 rfl rfl) ?_; refine WP.split rfl rfl rfl rfl (Yld.neq rfl rfl rfl) (fun he => ?_) (fun he => ?_)
 ·refine WP.nil ?_
  refine WP.sub [(0, _), (1, _), (4, _), (12, _)] ?_ ⟨rfl, rfl, rfl, rfl, trivial⟩
  refine WP.next ?_; refine WP.condT rfl ?_; refine WP.seq ?_; refine WP.region [0] rfl ?_; refine WP.mv rfl rfl ?_; refine WP.nil (WP.next (WP.ret ?_))
  refine WP.fn .ret (.inr rfl) (res1 rfl rfl) [(q, row 243 [(.slice Av s.bs.length cv), .int .i64 s.e])] (Imm.le_refl _) ?_; have e : rByt most s = ([], s) := if_neg he
  rw [e]; exact ⟨rfl, _, [], rfl, .mk hb hl, .none0⟩
 ·refine WP.nil ?_
  refine WP.sub [(0, _), (1, _), (4, _), (12, _)] ?_ ⟨rfl, rfl, rfl, rfl, trivial⟩
  refine WP.next ?_; refine WP.condF rfl ?_; refine WP.skip (WP.next (WP.seq ?_))
  refine WP.region [0, 1, 2, 3, 4, 5, 6, 7, 8, 9, 10, 11, 12, 13, 14] rfl ?_; refine WP.mv rfl rfl ?_; refine WP.vl rfl (Yld.nilCheck rfl rfl) ?_; refine WP.vl rfl (Yld.fieldAddr rfl ty_fd_243_0 rfl) ?_; refine WP.vl rfl (Yld.ld (v := .slice Av s.bs.length cv) rfl ty_sc_47 rfl rfl) ?_; refine WP.mv rfl rfl ?_; refine WP.vl rfl (Yld.max2 rfl rfl rfl _ rfl) ?_; refine WP.vl rfl (Yld.conv64u most rfl ty_un_3 ty_ik_44 (congrArg (fun z => some (Value.int .i64 z)) (show (if (0 : Int) < (most : Int) then (most : Int) else 0) = (most : Int) by split <;> omega)) (by omega)) ?_; refine WP.loud rfl rfl ?_; refine Op.cl (code_number (most := most) hb hl) rfl Tryz.func122 rfl rfl rfl rfl ?_; rintro v J L1 - ⟨rfl, rfl, rfl⟩
  try simp only [nf]
  have hsz := rdN_bs (most := most) (l := s.bs)
  have hle := rdN_le most 10 0 0 s.bs
  refine WP.mv rfl rfl ?_; iterate 3 refine WP.vl rfl (Yld.extract rfl rfl rfl) ?_
  iterate 3 refine WP.mv rfl rfl ?_
  refine WP.nil ?_; refine WP.sub [(0, _), (1, _), (4, _), (5, _), (6, _), (7, _), (12, _)] ?_ ⟨rfl, rfl, rfl, rfl, rfl, rfl, rfl, trivial⟩
  refine WP.next (WP.seq (WP.seq ?_))
  refine WP.region [0, 1, 2, 3, 4, 5, 6, 7, 8, 9, 10, 11, 12, 13] rfl ?_; refine WP.mv rfl rfl ?_; refine WP.split rfl rfl rfl rfl (Yld.eql rfl rfl rfl) (fun h1 => ?_) (fun h1 => ?_)
  ·refine WP.mv rfl rfl ?_
   iterate 2 refine WP.valG rfl rfl rfl rfl rfl rfl rfl (Yld.move rfl rfl) ?_
   refine WP.valG rfl rfl rfl rfl rfl rfl rfl (Yld.nilCheck rfl rfl) ?_; refine WP.valG rfl rfl rfl rfl rfl rfl rfl (Yld.fieldAddr rfl ty_fd_243_0 rfl) ?_; refine WP.valG rfl rfl rfl rfl rfl rfl rfl (Yld.ld (v := .slice Av s.bs.length cv) rfl ty_sc_47 rfl rfl) ?_; refine WP.valG rfl rfl rfl rfl rfl rfl rfl (Yld.len rfl ty_sl_47 rfl) ?_; refine WP.valG rfl rfl rfl rfl rfl rfl rfl (Yld.move rfl rfl) ?_; refine WP.valG rfl rfl rfl rfl rfl rfl rfl (Yld.sub64 rfl rfl rfl (by omega)) ?_; refine WP.valG rfl rfl rfl rfl rfl rfl rfl (Yld.conv64u (s.bs.length - (rdN most 10 0 0 s.bs).2.1) rfl ty_un_3 ty_ik_44 (congrArg (fun z => some (Value.int .i64 z)) (show (s.bs.length : Int) - ((rdN most 10 0 0 s.bs).2.1 : Int) = ((s.bs.length - (rdN most 10 0 0 s.bs).2.1 : Nat) : Int) by omega)) (by omega)) ?_; refine WP.splitG rfl rfl rfl rfl rfl rfl rfl (Yld.gtr rfl rfl rfl) (fun h2 => ?_) (fun h2 => ?_)
   ·refine WP.vl rfl (Yld.pickT rfl rfl rfl) ?_
    refine WP.nil ?_; refine WP.sub [(0, _), (1, _), (4, _), (5, _), (6, _), (7, _), (12, _), (38, _)] ?_ ⟨rfl, rfl, rfl, rfl, rfl, rfl, rfl, rfl, trivial⟩
    refine WP.next ?_; refine WP.condT rfl ?_; refine WP.region [0] rfl ?_; refine WP.mv rfl rfl ?_; refine WP.nil (WP.next (WP.seq (WP.seq ?_)))
    refine WP.region [0, 1, 2, 3, 4] rfl ?_; iterate 2 refine WP.mv rfl rfl ?_
    refine WP.vl rfl (Yld.nilCheck rfl rfl) ?_; refine WP.vl rfl (Yld.fieldAddr rfl ty_fd_243_1 rfl) ?_; refine WP.loud rfl rfl ?_; refine Op.s1 rfl rfl ty_sz_40 rfl rfl rfl ?_; refine WP.nil ?_; refine WP.sub [(0, _), (1, _), (4, _), (5, _), (6, _), (7, _), (12, _), (38, _)] ?_ ⟨rfl, rfl, rfl, rfl, rfl, rfl, rfl, rfl, trivial⟩
    refine WP.next (WP.seq ?_)
    refine WP.region [0, 1] rfl ?_; refine WP.mv rfl rfl ?_; refine WP.vl rfl (Yld.neq rfl rfl rfl true (decide_eq_true (by first | decide | exact h1 | simp [h1]))) ?_; refine WP.nil ?_; refine WP.sub [(0, _), (1, _), (4, _), (5, _), (6, _), (7, _), (12, _), (38, _), (44, _)] ?_ ⟨rfl, rfl, rfl, rfl, rfl, rfl, rfl, rfl, rfl, trivial⟩
    refine WP.next ?_; refine WP.condT rfl ?_; refine WP.seq ?_; refine WP.region [0] rfl ?_; refine WP.mv rfl rfl ?_; refine WP.nil (WP.next (WP.ret ?_))
    refine WP.fn .ret (.inr rfl) (res1 rfl rfl) [(q, row 243 [(.slice Av s.bs.length cv), .int .i64 10])] (Imm.le_refl _) ?_; have e : rByt most s = _ := if_pos (by simpa using he)
    rw [if_pos h1] at e
    rw [if_neg (by omega)] at e
    rw [e]; exact ⟨rfl, _, [], rfl, .mk (s := ⟨_, _⟩) hb hl, .none0⟩
   ·refine WP.vl rfl (Yld.pickT rfl rfl rfl) ?_
    refine WP.nil ?_; refine WP.sub [(0, _), (1, _), (4, _), (5, _), (6, _), (7, _), (12, _), (38, _)] ?_ ⟨rfl, rfl, rfl, rfl, rfl, rfl, rfl, rfl, trivial⟩
    refine WP.next ?_; refine WP.condF rfl ?_; refine WP.skip (WP.next (WP.seq (WP.seq ?_)))
    refine WP.region [0, 1, 2, 3, 4] rfl ?_; iterate 2 refine WP.mv rfl rfl ?_
    refine WP.vl rfl (Yld.nilCheck rfl rfl) ?_; refine WP.vl rfl (Yld.fieldAddr rfl ty_fd_243_1 rfl) ?_; refine WP.loud rfl rfl ?_; refine Op.s1 rfl rfl ty_sz_40 rfl rfl rfl ?_; refine WP.nil ?_; refine WP.sub [(0, _), (1, _), (4, _), (5, _), (6, _), (7, _), (12, _), (38, _)] ?_ ⟨rfl, rfl, rfl, rfl, rfl, rfl, rfl, rfl, trivial⟩
    refine WP.next (WP.seq ?_)
    refine WP.region [0, 1] rfl ?_; refine WP.mv rfl rfl ?_; refine WP.vl rfl (Yld.neq rfl rfl rfl false (decide_eq_false (by first | decide | exact h1 | simp [h1]))) ?_; refine WP.nil ?_; refine WP.sub [(0, _), (1, _), (4, _), (5, _), (6, _), (7, _), (12, _), (38, _), (44, _)] ?_ ⟨rfl, rfl, rfl, rfl, rfl, rfl, rfl, rfl, rfl, trivial⟩
    refine WP.next ?_; refine WP.condF rfl ?_; refine WP.skip (WP.next (WP.seq ?_))
    refine WP.region [0, 1, 2, 3, 4, 5, 6, 7, 8, 9] rfl ?_; iterate 2 refine WP.mv rfl rfl ?_
    refine WP.vl rfl (Yld.nilCheck rfl rfl) ?_; refine WP.vl rfl (Yld.fieldAddr rfl ty_fd_243_0 rfl) ?_; refine WP.vl rfl (Yld.ld (v := .slice Av s.bs.length cv) rfl ty_sc_47 rfl rfl) ?_; refine WP.mv rfl rfl ?_; refine WP.vl rfl (Yld.slice (l := (rdN most 10 0 0 s.bs).2.1) (h := s.bs.length) rfl ty_sl_47 rfl (Env.limS rfl) rfl hsz (by omega)) ?_; refine WP.vl rfl (Yld.nilCheck rfl rfl) ?_; refine WP.vl rfl (Yld.fieldAddr rfl ty_fd_243_0 rfl) ?_; refine WP.loud rfl rfl ?_; refine Op.s1 rfl rfl ty_sz_47 rfl rfl rfl ?_; refine WP.nil ?_; refine WP.sub [(0, _), (1, _), (4, _), (5, _), (6, _), (7, _), (12, _), (38, _), (44, _)] ?_ ⟨rfl, rfl, rfl, rfl, rfl, rfl, rfl, rfl, rfl, trivial⟩
    refine WP.next (WP.seq ?_)
    have hdl : (s.bs.drop (rdN most 10 0 0 s.bs).2.1).length = s.bs.length - (rdN most 10 0 0 s.bs).2.1 := List.length_drop
    refine WP.region [0, 1, 2, 3, 4] rfl ?_; iterate 2 refine WP.mv rfl rfl ?_
    refine WP.vl rfl (Yld.conv64 (a := (((rdN most 10 0 0 s.bs).1 : Nat) : Int)) rfl ty_un_44 ty_ik_3 rfl (by omega)) ?_; refine WP.loud rfl rfl ?_; refine Op.cl (code_RRaw (s := ⟨s.bs.drop (rdN most 10 0 0 s.bs).2.1, 0⟩) (k := (rdN most 10 0 0 s.bs).1) (IsRd.mk' (e := (rdN most 10 0 0 s.bs).2.2) (hb.dropB hsz) (by rw [hdl]; omega) h1) rfl (by show _ ≤ (s.bs.drop (rdN most 10 0 0 s.bs).2.1).length; rw [hdl]; omega)) rfl Tryz.func130 rfl rfl rfl rfl ?_; rintro v J L1 - ⟨rfl, Lr, Ld, rfl, hq2, hod⟩
    try simp only [nf]
    obtain ⟨Ad, cd, rfl, _⟩ := hod.slice
    refine WP.mv rfl rfl ?_; refine WP.nil ?_; refine WP.sub [(0, _), (1, _), (4, _), (5, _), (6, _), (7, _), (12, _), (38, _), (44, _)] ?_ ⟨rfl, rfl, rfl, rfl, rfl, rfl, rfl, rfl, rfl, trivial⟩
    refine WP.next (WP.ret ?_)
    refine WP.fn .ret (.inr rfl) (res1 rfl rfl) (Lr ++ Ld) (Imm.le_refl _) ?_; have e : rByt most s = _ := if_pos (by simpa using he)
    rw [if_pos h1] at e
    rw [if_pos (by omega)] at e
    rw [e]; exact ⟨rfl, Lr, Ld, rfl, hq2, hod⟩
  ·refine WP.mv rfl rfl ?_
   iterate 10 refine WP.passG rfl rfl rfl rfl rfl rfl rfl rfl ?_
   refine WP.vl rfl (Yld.pickF rfl rfl rfl) ?_; refine WP.nil ?_; refine WP.sub [(0, _), (1, _), (4, _), (5, _), (6, _), (7, _), (12, _), (38, _)] ?_ ⟨rfl, rfl, rfl, rfl, rfl, rfl, rfl, rfl, trivial⟩
   refine WP.next ?_; refine WP.condF rfl ?_; refine WP.skip (WP.next (WP.seq (WP.seq ?_)))
   refine WP.region [0, 1, 2, 3, 4] rfl ?_; iterate 2 refine WP.mv rfl rfl ?_
   refine WP.vl rfl (Yld.nilCheck rfl rfl) ?_; refine WP.vl rfl (Yld.fieldAddr rfl ty_fd_243_1 rfl) ?_; refine WP.loud rfl rfl ?_; refine Op.s1 rfl rfl ty_sz_40 rfl rfl rfl ?_; refine WP.nil ?_; refine WP.sub [(0, _), (1, _), (4, _), (5, _), (6, _), (7, _), (12, _), (38, _)] ?_ ⟨rfl, rfl, rfl, rfl, rfl, rfl, rfl, rfl, trivial⟩
   refine WP.next (WP.seq ?_)
   refine WP.region [0, 1] rfl ?_; refine WP.mv rfl rfl ?_; refine WP.vl rfl (Yld.neq rfl rfl rfl true (decide_eq_true (by first | decide | exact h1 | simp [h1]))) ?_; refine WP.nil ?_; refine WP.sub [(0, _), (1, _), (4, _), (5, _), (6, _), (7, _), (12, _), (38, _), (44, _)] ?_ ⟨rfl, rfl, rfl, rfl, rfl, rfl, rfl, rfl, rfl, trivial⟩
   refine WP.next ?_; refine WP.condT rfl ?_; refine WP.seq ?_; refine WP.region [0] rfl ?_; refine WP.mv rfl rfl ?_; refine WP.nil (WP.next (WP.ret ?_))
   refine WP.fn .ret (.inr rfl) (res1 rfl rfl) [(q, row 243 [(.slice Av s.bs.length cv), .int .i64 (rdN most 10 0 0 s.bs).2.2])] (Imm.le_refl _) ?_; have e : rByt most s = _ := if_pos (by simpa using he)
   rw [if_neg h1] at e
   rw [e]; exact ⟨rfl, _, [], rfl, .mk (s := ⟨_, _⟩) hb hl, .none0⟩


structure TkX where
 i : Nat
 J : Imm
 nv : List (Bool × Value)
 l : List (Bool × List UInt8)
 s : Rs
 v : Value
 Lr : Chunks
 Lo : Chunks
theorem NodesOk.snoc {V : Nat → Obj → Prop} {nv : List (Bool × Value)} {l : List (Bool × List UInt8)} {c : Bool} {u : Value} {d : List UInt8} (h : NodesOk V nv l) (hd : SlRd V u d.length 1 (bytesV d)) : NodesOk V (nv ++ [(c, u)]) (l ++ [(c, d)]) := by
 have hl := h.len
 refine ⟨by rw [List.length_append, List.length_append, hl]; rfl, fun i x hx => ?_⟩
 by_cases hi : i < nv.length
 ·rw [List.getElem?_append_left hi] at hx
  obtain ⟨d', h1, h2⟩ := h.at_ i x hx
  exact ⟨d', by rw [List.getElem?_append_left (by omega)]; exact h1, h2⟩
 ·rw [List.getElem?_append_right (by omega)] at hx
  have h0 : i - nv.length = 0 := by
   rcases Nat.eq_zero_or_pos (i - nv.length) with h0 | h0
   ·exact h0
   ·rw [List.getElem?_eq_none (by simp; omega)] at hx; cases hx
  rw [h0] at hx
  cases hx
  exact ⟨d, by rw [List.getElem?_append_right (by omega), ← hl, h0]; rfl, hd⟩
theorem tkL_succ (n : Nat) (s : Rs) : tkL (n + 1) s = ((decide (((rNum 1 s).1 : Int) = 1), (rByt 12671 (rNum 1 s).2).1) :: (tkL n (rByt 12671 (rNum 1 s).2).2).1, (tkL n (rByt 12671 (rNum 1 s).2).2).2) := rfl
theorem txn_takeNodes {I : Imm} {q : Nat} {s : Rs} {L : Chunks} (hq : IsRd I q s L) : Spec Tryz.prog 116 [.pointer (some ⟨q, 0, none⟩)] I L (fun v J L' => RNodes J v (tkN s).1 ∧ IsRd J q (tkN s).2 L') := by
 refine Spec.of Tryz.func116 rfl Tryz.ntmps116 (Nat.le_of_ble_eq_true rfl) (fun F => ?_)
 try simp only [nf]
 dsimp only [argsEnv]
 refine WP.seq ?_; refine WP.region [0] rfl ?_; refine WP.mv rfl rfl ?_; refine WP.nil (WP.next (WP.seq ?_))
 refine WP.region [0] rfl ?_; refine WP.mv rfl rfl ?_; refine WP.nil (WP.next (WP.seq (WP.seq ?_)))
 refine WP.region [0, 1, 2] rfl ?_; refine WP.mv rfl rfl ?_; refine WP.loud rfl rfl ?_; refine Op.cl (code_RNum (most := 64) hq) rfl Tryz.func115 rfl rfl rfl rfl ?_; rintro v J L1 - ⟨rfl, rfl, hq1⟩
 try simp only [nf]
 have hle := rNum_le 64 s
 have hbs := rNum_bs 64 s
 refine WP.mv rfl rfl ?_; refine WP.nil ?_; refine WP.sub [(0, _), (2, _), (3, _), (5, _), (6, _)] ?_ ⟨rfl, rfl, rfl, rfl, rfl, trivial⟩
 refine WP.next (WP.block ?_)
 refine WP.loop (X := TkX) (fun u : TkX => [(0, .pointer (some ⟨q, 0, none⟩)), (3, u.v), (5, .int .u64 ((rNum 64 s).1 : Int)), (6, .int .u64 (u.i : Int))]) (fun u => u.J) (fun u : TkX => u.Lr ++ (u.Lo ++ F)) (fun u : TkX => I.le u.J ∧ u.i ≤ (rNum 64 s).1 ∧ u.s.bs.length ≤ s.bs.length ∧ IsRd u.J q u.s u.Lr ∧ Own 70 2 u.v (u.nv.flatMap ndV) u.i u.Lo ∧ NodesOk (Imv u.J) u.nv u.l ∧ tkN s = (u.l ++ (tkL ((rNum 64 s).1 - u.i) u.s).1, (tkL ((rNum 64 s).1 - u.i) u.s).2)) (fun u => (rNum 64 s).1 - u.i) ⟨0, I, [], [], (rNum 64 s).2, .slice none 0 0, L1, []⟩ ⟨Imm.le_refl _, Nat.zero_le _, hbs, hq1, .none0, ⟨rfl, fun i x h => by cases h⟩, rfl⟩ ⟨rfl, rfl, rfl, rfl, trivial⟩ rfl zA ?_; rintro ⟨i, J, nv, l, s1, vo, Lr, Lo⟩ ⟨hJ, hi, hsb, hq1, ho, hno, heq⟩; dsimp only at hJ hi hsb hq1 ho hno heq; obtain ⟨Ao, co, rfl, _⟩ := ho.slice
 try dsimp only
 try simp only [nf]
 refine WP.seq ?_; refine WP.region [0] rfl ?_; refine WP.split rfl rfl rfl rfl (Yld.lss rfl rfl rfl) (fun hlt => ?_) (fun hlt => ?_)
 ·refine WP.nil ?_
  refine WP.next (WP.seq ?_)
  refine WP.condT rfl ?_; refine WP.skip (WP.next (WP.seq (WP.block ?_)))
  refine WP.region [0, 1, 2, 3, 4, 5, 6, 7, 8, 9] rfl ?_; iterate 2 refine WP.mv rfl rfl ?_
  refine WP.loud rfl rfl ?_; refine Op.cl (code_RNum (most := 1) hq1) rfl Tryz.func115 rfl rfl rfl rfl ?_; rintro v J L2 - ⟨rfl, rfl, hq2⟩
  try simp only [nf]
  refine WP.vl rfl (Yld.eql rfl rfl rfl _ rfl) ?_; refine WP.mv rfl rfl ?_; refine WP.loud rfl rfl ?_; refine Op.cl (code_RBytes (most := 12671) hq2 (by decide)) rfl Tryz.func123 rfl rfl rfl rfl ?_; rintro v J L1 - ⟨rfl, Lr3, Ld, rfl, hq3, hod⟩
  try simp only [nf]
  obtain ⟨Ad, cd, rfl, _⟩ := hod.slice
  refine WP.vl rfl (Yld.buildS (pl := [(0, 0, 1), (1, 1, 1)]) rfl ty_zr_70 ty_zd_70 zK rfl (vs := [_, _]) rfl (segs := [(0, [_]), (1, [_])]) rfl rfl zS) ?_; refine WP.loud rfl rfl ?_; refine Op.buildSlice rfl ty_sl_45 ty_el2_45 rfl rfl rfl rfl (vs := [_]) rfl (segs := [(0, ndV (decide (((rNum 1 s1).1 : Int) = 1), .slice Ad (rByt 12671 (rNum 1 s1).2).1.length cd))]) (cs := ndV (decide (((rNum 1 s1).1 : Int) = 1), .slice Ad (rByt 12671 (rNum 1 s1).2).1.length cd)) rfl rfl (.seg (Nat.le_refl _) rfl .nil) (fun bq => ?_)
  refine WP.loud rfl rfl ?_; refine Op.append (m := 1) rfl ty_sl_45 ty_el_45 rfl rfl rfl rfl rfl ho (SlRd.lit (m := 1) zM rfl (Nat.le_refl _)) zT rfl (by omega) (by omega) (fun vu Lu hu => ?_)
  try simp only [nf]
  obtain ⟨Au, cu, rfl, _⟩ := hu.slice
  refine WP.mv rfl rfl ?_; refine WP.nil ?_; refine WP.sub [(0, _), (3, _), (5, _), (6, _), (7, _)] ?_ ⟨rfl, rfl, rfl, rfl, rfl, trivial⟩
  refine WP.shO hod (fun J2 hJ2 hd9 => ?_)
  refine WP.leave (WP.next ?_)
  refine WP.region [0, 1] rfl ?_; refine WP.vl rfl (Yld.addU64N i 1 (by omega) rfl rfl rfl) ?_; refine WP.mv rfl rfl ?_; refine WP.nil ?_; refine WP.sub [(0, _), (3, _), (5, _), (6, _), (7, _)] ?_ ⟨rfl, rfl, rfl, rfl, rfl, trivial⟩
  exact WP.again ⟨i + 1, J2, nv ++ [(decide (((rNum 1 s1).1 : Int) = 1), .slice Ad (rByt 12671 (rNum 1 s1).2).1.length cd)], l ++ [(decide (((rNum 1 s1).1 : Int) = 1), (rByt 12671 (rNum 1 s1).2).1)], (rByt 12671 (rNum 1 s1).2).2, .slice Au (i + 1) cu, Lr3, Lu⟩ ⟨Imm.le_trans hJ hJ2, (show i + 1 ≤ (rNum 64 s).1 by omega), by have h1 := rByt_bs 12671 (rNum 1 s1).2; have h2 := rNum_bs 1 s1; show (rByt 12671 (rNum 1 s1).2).2.bs.length ≤ _; omega, hq3.mono hJ2, by rw [List.flatMap_append]; exact hu, NodesOk.snoc (V := Imv J2) (u := .slice Ad (rByt 12671 (rNum 1 s1).2).1.length cd) (hno.mono (Imv.le hJ2)) hd9, by rw [heq, show (rNum 64 s).1 - i = ((rNum 64 s).1 - (i + 1)) + 1 by omega, tkL_succ, List.append_assoc]; rfl⟩ (show (rNum 64 s).1 - (i + 1) < (rNum 64 s).1 - i by omega) ⟨rfl, rfl, rfl, rfl, trivial⟩ rfl zA
 ·have hn0 : i = (rNum 64 s).1 := by omega
  rw [hn0, Nat.sub_self] at heq
  have hlen : (tkN s).1 = l := by rw [heq]; exact List.append_nil l
  have hs2 : (tkN s).2 = s1 := by rw [heq]; rfl
  have hnl := hno.len
  have hll : l.length = i := by rw [← hlen]; unfold tkN; rw [tkL_len]; exact hn0.symm
  refine WP.shO ho (fun J3 hJ3 hnn => ?_)
  refine WP.nil (WP.next (WP.seq ?_))
  refine WP.condF rfl ?_; refine WP.exit (WP.thenE (WP.thenE (WP.hit (WP.next (WP.seq ?_)))))
  refine WP.region [0, 1] rfl ?_; iterate 2 refine WP.mv rfl rfl ?_
  refine WP.nil ?_; refine WP.sub [(0, _), (2, _), (3, _), (5, _), (6, _), (7, _)] ?_ ⟨rfl, rfl, rfl, rfl, rfl, rfl, trivial⟩
  refine WP.next (WP.ret ?_)
  refine WP.fn .ret (.inr rfl) (res1 rfl rfl) Lr (Imm.le_trans hJ hJ3) ?_; exact ⟨by rw [hlen]; exact ⟨nv, by rw [hll]; exact hnn, hno.mono (Imv.le hJ3)⟩, by rw [hs2]; exact hq1.mono hJ3⟩

theorem txn_DecodePage {I : Imm} {b : List UInt8} {vb : Value} (hb : SlRd (Im I) vb b.length 1 (bytesV b)) (hl : b.length ≤ 140737488355328) : Spec Tryz.prog 106 [vb] I [] (fun v J L => L = [] ∧ ∃ r vn, ∃ e : Int, v = .tuple #[.agg ([.int .i64 r.page, .int .i64 r.prev, vn]).toArray, .int .i64 e] ∧ RNodes J vn r.nodes ∧ ((okP b ∧ e = 0 ∧ r = (rdP b).1) ∨ (¬ okP b ∧ e = 120 ∧ r = ⟨0, 0, []⟩))) := by
 obtain ⟨Ab, cb, rfl, _, _, _⟩ := id hb
 refine Spec.of Tryz.func106 rfl Tryz.ntmps106 (Nat.le_of_ble_eq_true rfl) (fun F => ?_)
 try simp only [nf]
 dsimp only [argsEnv]
 refine WP.seq ?_; refine WP.region [0, 1] rfl ?_; refine WP.loud rfl rfl ?_; refine Op.alloc rfl rfl rfl ty_zr_104 (fun b0 => ?_)
 refine WP.mv rfl rfl ?_; refine WP.nil (WP.next (WP.seq ?_))
 refine WP.region [0, 1, 2] rfl ?_; refine WP.mv rfl rfl ?_; refine WP.loud rfl rfl ?_; refine Op.cl (code_NewReader hb hl) rfl Tryz.func114 rfl rfl rfl rfl ?_; rintro v J1 L1 hJ1 ⟨q, rfl, hq⟩
 try simp only [nf]
 refine WP.mv rfl rfl ?_; refine WP.nil ?_; refine WP.sub [(0, _), (2, _), (3, _), (4, _)] ?_ ⟨rfl, rfl, rfl, rfl, trivial⟩
 refine WP.next (WP.seq ?_)
 refine WP.region [0, 1, 2, 3, 4, 5, 6, 7, 8] rfl ?_; refine WP.mv rfl rfl ?_; refine WP.loud rfl rfl ?_; refine Op.cl (code_RNum (most := 512) hq) rfl Tryz.func115 rfl rfl rfl rfl ?_; rintro v J L2 - ⟨rfl, rfl, hq⟩
 try simp only [nf]
 have hle1 := rNum_le 512 ⟨b, 0⟩
 refine WP.vl rfl (Yld.conv64 (a := (((rNum 512 ⟨b, 0⟩).1 : Nat) : Int)) rfl ty_un_44 ty_ik_3 rfl (by omega)) ?_; refine WP.mv rfl rfl ?_; refine WP.loud rfl rfl ?_; refine Op.cl (code_RNum (most := 1099511627776) hq) rfl Tryz.func115 rfl rfl rfl rfl ?_; rintro v J L3 - ⟨rfl, rfl, hq⟩
 try simp only [nf]
 have hle2 := rNum_le 1099511627776 (rNum 512 ⟨b, 0⟩).2
 refine WP.vl rfl (Yld.conv64 (a := (((rNum 1099511627776 (rNum 512 ⟨b, 0⟩).2).1 : Nat) : Int)) rfl ty_un_44 ty_ik_3 rfl (by omega)) ?_; refine WP.vl rfl (Yld.buildS (pl := [(0, 0, 1), (1, 1, 1)]) rfl ty_zr_104 ty_zd_104 zK rfl (vs := [_, _]) rfl (segs := [(0, [_]), (1, [_])]) rfl rfl zS) ?_; refine WP.loud rfl rfl ?_; refine Op.alloc rfl rfl rfl ty_zr_104 (fun b5 => ?_)
 refine WP.loud rfl rfl ?_; refine Op.sA rfl rfl ty_sz_104 rfl rfl rfl rfl rfl ?_; refine WP.nil ?_; refine WP.sub [(0, _), (2, _), (3, _), (4, _), (5, _)] ?_ ⟨rfl, rfl, rfl, rfl, rfl, trivial⟩
 refine WP.next (WP.seq ?_)
 refine WP.region [0, 1, 2, 3] rfl ?_; refine WP.mv rfl rfl ?_; refine WP.loud rfl rfl ?_; refine Op.cl (txn_takeNodes hq) rfl Tryz.func116 rfl rfl rfl rfl ?_; rintro v J2 L4 hJ2 ⟨hrn, hq⟩
 try simp only [nf]
 obtain ⟨nv, hn, hno⟩ := id hrn.ex
 obtain ⟨An, cn, rfl, hcn⟩ := hn.slice'
 have hnl : (tkN (rNum 1099511627776 (rNum 512 ⟨b, 0⟩).2).2).1.length ≤ 64 := tkN_len _
 refine WP.vl rfl (Yld.fieldAddr rfl ty_fd_104_2 rfl) ?_; refine WP.loud rfl rfl ?_; refine Op.s1 rfl rfl ty_sz_45 rfl rfl rfl ?_; refine WP.nil ?_; refine WP.sub [(0, _), (2, _), (3, _), (4, _), (5, _)] ?_ ⟨rfl, rfl, rfl, rfl, rfl, trivial⟩
 refine WP.next (WP.seq (WP.seq ?_))
 refine WP.region [0, 1, 2, 3, 4, 5, 6, 7, 8, 9, 10, 11, 12] rfl ?_; refine WP.mv rfl rfl ?_; refine WP.loud rfl rfl ?_; refine Op.cl (code_RDone hq) rfl Tryz.func117 rfl rfl rfl rfl ?_; rintro v J L5 - ⟨rfl, rfl, hq⟩
 try simp only [nf]
 refine WP.split rfl rfl rfl rfl (Yld.neq rfl rfl rfl) (fun hd => ?_) (fun hd => ?_)
 ·refine WP.mv rfl rfl ?_
  iterate 3 refine WP.passG rfl rfl rfl rfl rfl rfl rfl rfl ?_
  refine WP.vl rfl (Yld.pickT rfl rfl rfl) ?_; refine WP.mv rfl rfl ?_; iterate 3 refine WP.passG rfl rfl rfl rfl rfl rfl rfl rfl ?_
  refine WP.vl rfl (Yld.pickT rfl rfl rfl) ?_; refine WP.nil ?_; refine WP.sub [(0, _), (2, _), (3, _), (4, _), (5, _), (30, _)] ?_ ⟨rfl, rfl, rfl, rfl, rfl, rfl, trivial⟩
  refine WP.next ?_; refine WP.condT rfl ?_; refine WP.seq ?_; refine WP.region [0, 1, 2] rfl ?_; refine WP.vl rfl (Yld.buildS (pl := []) rfl ty_zr_104 ty_zd_104 zK rfl (vs := []) rfl (segs := []) rfl rfl zS) ?_; refine WP.loud rfl rfl ?_; refine Op.sA rfl rfl ty_sz_104 rfl rfl rfl rfl rfl ?_; refine WP.mv rfl rfl ?_; refine WP.nil ?_; refine WP.sub [(0, _), (2, _), (3, _), (4, _), (5, _), (30, _)] ?_ ⟨rfl, rfl, rfl, rfl, rfl, rfl, trivial⟩
  refine WP.next (WP.ret ?_)
  refine WP.fn .ret (.inr rfl) (resT (rs := [.cell 2 104, .tmp 3]) (vs := [_, _]) rfl ⟨⟨_, _, _, _, rfl, zM, .inl ⟨ty_ag_104, by rfl, rfl⟩⟩, rfl, trivial⟩ rfl) [] (Imm.le_trans hJ1 hJ2) ?_; exact ⟨rfl, ⟨0, 0, []⟩, _, 120, rfl, RNodes.nil _, .inr ⟨fun h => by have h1 := h.1; have h2 := h.2.1; have h3 := h.2.2; first | exact hd h1 | omega | (rw [hc.2 h3] at hc1; cases hc1), rfl, rfl⟩⟩
 ·refine WP.mv rfl rfl ?_
  refine WP.valG rfl rfl rfl rfl rfl rfl rfl (Yld.move rfl rfl) ?_; refine WP.valG rfl rfl rfl rfl rfl rfl rfl (Yld.len rfl ty_sl_47 rfl) ?_; refine WP.splitG rfl rfl rfl rfl rfl rfl rfl (Yld.gtr rfl rfl rfl) (fun hlong => ?_) (fun hlong => ?_)
  ·refine WP.vl rfl (Yld.pickF rfl rfl rfl) ?_
   refine WP.mv rfl rfl ?_; iterate 3 refine WP.passG rfl rfl rfl rfl rfl rfl rfl rfl ?_
   refine WP.vl rfl (Yld.pickT rfl rfl rfl) ?_; refine WP.nil ?_; refine WP.sub [(0, _), (2, _), (3, _), (4, _), (5, _), (30, _)] ?_ ⟨rfl, rfl, rfl, rfl, rfl, rfl, trivial⟩
   refine WP.next ?_; refine WP.condT rfl ?_; refine WP.seq ?_; refine WP.region [0, 1, 2] rfl ?_; refine WP.vl rfl (Yld.buildS (pl := []) rfl ty_zr_104 ty_zd_104 zK rfl (vs := []) rfl (segs := []) rfl rfl zS) ?_; refine WP.loud rfl rfl ?_; refine Op.sA rfl rfl ty_sz_104 rfl rfl rfl rfl rfl ?_; refine WP.mv rfl rfl ?_; refine WP.nil ?_; refine WP.sub [(0, _), (2, _), (3, _), (4, _), (5, _), (30, _)] ?_ ⟨rfl, rfl, rfl, rfl, rfl, rfl, trivial⟩
   refine WP.next (WP.ret ?_)
   refine WP.fn .ret (.inr rfl) (resT (rs := [.cell 2 104, .tmp 3]) (vs := [_, _]) rfl ⟨⟨_, _, _, _, rfl, zM, .inl ⟨ty_ag_104, by rfl, rfl⟩⟩, rfl, trivial⟩ rfl) [] (Imm.le_trans hJ1 hJ2) ?_; exact ⟨rfl, ⟨0, 0, []⟩, _, 120, rfl, RNodes.nil _, .inr ⟨fun h => by have h1 := h.1; have h2 := h.2.1; have h3 := h.2.2; first | exact hd h1 | omega | (rw [hc.2 h3] at hc1; cases hc1), rfl, rfl⟩⟩
  ·refine WP.vl rfl (Yld.pickF rfl rfl rfl) ?_
   refine WP.mv rfl rfl ?_; refine WP.valG rfl rfl rfl rfl rfl rfl rfl (Yld.ldg (vs := [.int .i64 ((rNum 512 ⟨b, 0⟩).1 : Int), .int .i64 ((rNum 1099511627776 (rNum 512 ⟨b, 0⟩).2).1 : Int), (.slice An (tkN (rNum 1099511627776 (rNum 512 ⟨b, 0⟩).2).2).1.length cn)]) rfl ty_ag_104 rfl rfl rfl) ?_; refine WP.loudG rfl rfl rfl rfl rfl ?_; refine Op.cl (txn_may (r := (rdP b).1) hrn (by show (tkN (rNum 1099511627776 (rNum 512 ⟨b, 0⟩).2).2).1.length ≤ _; omega)) rfl Tryz.func83 rfl rfl rfl rfl ?_; rintro v J L1 - ⟨c, rfl, hc, rfl, rfl⟩
   try simp only [nf]
   by_cases hc1 : c = true
   ·try rw [hc1]
    refine WP.valG rfl rfl rfl rfl rfl rfl rfl (Yld.not rfl rfl) ?_; refine WP.vl rfl (Yld.pickF rfl rfl rfl) ?_; refine WP.nil ?_; refine WP.sub [(0, _), (2, _), (3, _), (4, _), (5, _), (30, _)] ?_ ⟨rfl, rfl, rfl, rfl, rfl, rfl, trivial⟩
    refine WP.next ?_; refine WP.condF rfl ?_; refine WP.skip (WP.next (WP.seq ?_))
    refine WP.region [0, 1, 2] rfl ?_; refine WP.vl rfl (Yld.ldg (vs := [.int .i64 ((rNum 512 ⟨b, 0⟩).1 : Int), .int .i64 ((rNum 1099511627776 (rNum 512 ⟨b, 0⟩).2).1 : Int), (.slice An (tkN (rNum 1099511627776 (rNum 512 ⟨b, 0⟩).2).2).1.length cn)]) rfl ty_ag_104 rfl rfl rfl) ?_; refine WP.loud rfl rfl ?_; refine Op.sA rfl rfl ty_sz_104 rfl rfl rfl rfl rfl ?_; refine WP.mv rfl rfl ?_; refine WP.nil ?_; refine WP.sub [(0, _), (2, _), (3, _), (4, _), (5, _), (30, _)] ?_ ⟨rfl, rfl, rfl, rfl, rfl, rfl, trivial⟩
    refine WP.next (WP.ret ?_)
    refine WP.fn .ret (.inr rfl) (resT (rs := [.cell 2 104, .tmp 3]) (vs := [_, _]) rfl ⟨⟨_, _, _, _, rfl, zM, .inl ⟨ty_ag_104, by rfl, rfl⟩⟩, rfl, trivial⟩ rfl) [] (Imm.le_trans hJ1 hJ2) ?_; exact ⟨rfl, (rdP b).1, _, 0, rfl, hrn, .inl ⟨⟨Decidable.not_not.1 hd, by omega, hc.1 hc1⟩, rfl, rfl⟩⟩
   ·have hc1 : c = false := eq_false_of_ne_true hc1
    try rw [hc1]
    refine WP.valG rfl rfl rfl rfl rfl rfl rfl (Yld.not rfl rfl) ?_; refine WP.vl rfl (Yld.pickF rfl rfl rfl) ?_; refine WP.nil ?_; refine WP.sub [(0, _), (2, _), (3, _), (4, _), (5, _), (30, _)] ?_ ⟨rfl, rfl, rfl, rfl, rfl, rfl, trivial⟩
    refine WP.next ?_; refine WP.condT rfl ?_; refine WP.seq ?_; refine WP.region [0, 1, 2] rfl ?_; refine WP.vl rfl (Yld.buildS (pl := []) rfl ty_zr_104 ty_zd_104 zK rfl (vs := []) rfl (segs := []) rfl rfl zS) ?_; refine WP.loud rfl rfl ?_; refine Op.sA rfl rfl ty_sz_104 rfl rfl rfl rfl rfl ?_; refine WP.mv rfl rfl ?_; refine WP.nil ?_; refine WP.sub [(0, _), (2, _), (3, _), (4, _), (5, _), (30, _)] ?_ ⟨rfl, rfl, rfl, rfl, rfl, rfl, trivial⟩
    refine WP.next (WP.ret ?_)
    refine WP.fn .ret (.inr rfl) (resT (rs := [.cell 2 104, .tmp 3]) (vs := [_, _]) rfl ⟨⟨_, _, _, _, rfl, zM, .inl ⟨ty_ag_104, by rfl, rfl⟩⟩, rfl, trivial⟩ rfl) [] (Imm.le_trans hJ1 hJ2) ?_; exact ⟨rfl, ⟨0, 0, []⟩, _, 120, rfl, RNodes.nil _, .inr ⟨fun h => by have h1 := h.1; have h2 := h.2.1; have h3 := h.2.2; first | exact hd h1 | omega | (rw [hc.2 h3] at hc1; cases hc1), rfl, rfl⟩⟩


end Go.Hp
