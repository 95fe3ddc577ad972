import Derived.Test.YtilgaelpbgfnnaaGreatTxnH
import Derived.Test.YtilgaelpbgfnnaaGreatTxnQ
set_option linter.unusedVariables false
set_option linter.unusedSimpArgs false
namespace Go.Hp
open Go Go.Proofs

theorem wrap_u64 (m : Nat) : IntKind.u64.wrap (m : Int) = ((m % 18446744073709551616 : Nat) : Int) := by
 simp [IntKind.wrap, IntKind.bits, IntKind.signed]
section
variable {P : Program} {n : Nat} {E : Env} {V : Nat → Obj → Prop} {o : Oper}
theorem Yld.orU64 {X Y : Operand} {t t' : TypeId} (a b : Nat) (ha : a < 18446744073709551616) (hb : b < 18446744073709551616) (hop : o.op = .binOp .or t X Y t') (hx : E.ev X = some (.int .u64 (a : Int))) (hy : E.ev Y = some (.int .u64 (b : Int))) : Yld P n E V o (.int .u64 ((a ||| b : Nat) : Int)) :=
 Yld.arith hop hx hy fun W => by
  have e1 : BitVec.ofInt IntKind.u64.bits (a : Int) = BitVec.ofNat 64 a := rfl
  have e2 : BitVec.ofInt IntKind.u64.bits (b : Int) = BitVec.ofNat 64 b := rfl
  simp only [binOp, Op.intBits, e1, e2]
  simp only [ne_eq, not_true_eq_false, if_false, Sem.run_pure]
  have h : ((BitVec.ofNat 64 a ||| BitVec.ofNat 64 b : BitVec 64).toNat) = a ||| b := by
   rw [BitVec.toNat_or, BitVec.toNat_ofNat, BitVec.toNat_ofNat, Nat.mod_eq_of_lt ha, Nat.mod_eq_of_lt hb]
  have h2 : a ||| b < 2 ^ 64 := Nat.or_lt_two_pow ha hb
  exact congrArg (fun z => Result.ok (Value.int .u64 z) W) ((congrArg (fun z : Nat => IntKind.u64.wrap (z : Int)) h).trans ((wrap_u64 _).trans (by rw [Nat.mod_eq_of_lt h2])))
theorem Yld.shlU64 {X Y : Operand} {t t' : TypeId} {yk : IntKind} (x k : Nat) (hop : o.op = .binOp .shl t X Y t') (hx : E.ev X = some (.int .u64 (x : Int))) (hy : E.ev Y = some (.int yk (k : Int))) (hk : k < 64) : Yld P n E V o (.int .u64 ((x * 2 ^ k % 18446744073709551616 : Nat) : Int)) := fun a W ha _ => by
 have h : (binOp .shl t (.int .u64 (x : Int)) (.int yk (k : Int))).run P W = .ok (.int .u64 ((x * 2 ^ k % 18446744073709551616 : Nat) : Int)) W := by
  have h0 : ¬ ((k : Int) < 0) := by omega
  have h1 : min k IntKind.u64.bits = k := by simp [IntKind.bits]; omega
  have h2 : IntKind.u64.wrap ((x : Int) * 2 ^ k) = ((x * 2 ^ k % 18446744073709551616 : Nat) : Int) := by
   rw [← wrap_u64]; simp
  simp only [binOp, Op.shift, h0, if_false, Int.toNat_natCast, h1, Sem.run_pure, h2]
 simp [execOp, hop, ha.ev hx, ha.ev hy, eqGuard_int, h]
end
section
variable {P : Program} {n : Nat} {E : Env} {V : Nat → Obj → Prop} {o : Oper}
theorem Yld.sub8N {X Y : Operand} {t t' : TypeId} (a b : Nat) (h : b ≤ a) (h2 : a < 256) (hop : o.op = .binOp .sub t X Y t') (hx : E.ev X = some (.int .u8 (a : Int))) (hy : E.ev Y = some (.int .u8 (b : Int))) : Yld P n E V o (.int .u8 ((a - b : Nat) : Int)) := by
 have := Yld.sub (P := P) (n := n) (V := V) hop hx hy
 have e : IntKind.u8.wrap ((a : Int) - (b : Int)) = ((a - b : Nat) : Int) := by
  have : ((a : Int) - (b : Int)) = ((a - b : Nat) : Int) := by omega
  rw [this]; simp [IntKind.wrap, IntKind.bits, IntKind.signed]; omega
 rwa [e] at this
end
/-- A number's first bytes: the number, how many bytes, the error. -/
def rdN (most : Nat) : Nat → Nat → Nat → List UInt8 → Nat × Nat × Int
 | 0, _, _, _ => (0, 0, 11)
 | _ + 1, _, _, [] => (0, 0, 10)
 | k + 1, i, a, x :: l =>
  if 128 ≤ x.toNat then rdN most k (i + 1) (a ||| ((x.toNat - 128) * 2 ^ (7 * i) % 18446744073709551616)) l
  else if x.toNat = 0 ∧ 0 < i then (0, 0, 11)
  else if i = 9 ∧ 1 < x.toNat then (0, 0, 12)
  else if most < a ||| (x.toNat * 2 ^ (7 * i) % 18446744073709551616) then (0, 0, 12)
  else (a ||| (x.toNat * 2 ^ (7 * i) % 18446744073709551616), i + 1, 0)
/-- A Reader: what is left, the error. -/
structure Rs where
 bs : List UInt8
 e : Int
def rNum (most : Nat) (s : Rs) : Nat × Rs := if s.e = 0 then ((rdN most 10 0 0 s.bs).1, ⟨s.bs.drop (rdN most 10 0 0 s.bs).2.1, (rdN most 10 0 0 s.bs).2.2⟩) else (0, s)
def Rs.done (s : Rs) : Int := if s.e = 0 ∧ 0 < s.bs.length then 13 else s.e
theorem rdN_size (most : Nat) : ∀ (k i a : Nat) (l : List UInt8), (rdN most k i a l).2.1 ≤ i + l.length
 | 0, i, a, l => Nat.zero_le _
 | k + 1, i, a, [] => Nat.zero_le _
 | k + 1, i, a, x :: l => by
  rw [rdN, List.length_cons]
  split
  ·have := rdN_size most k (i + 1) (a ||| ((x.toNat - 128) * 2 ^ (7 * i) % 18446744073709551616)) l; omega
  ·split
   ·exact Nat.zero_le _
   ·split
    ·exact Nat.zero_le _
    ·split
     ·exact Nat.zero_le _
     ·show i + 1 ≤ _; omega
/-- A commit, read. -/
def okC (bs : List UInt8) : Prop := (rNum 1099511627776 ⟨bs, 0⟩).2.done = 0 ∧ 1 ≤ (rNum 1099511627776 ⟨bs, 0⟩).1
theorem rdN_le (most : Nat) : ∀ (k i a : Nat) (l : List UInt8), (rdN most k i a l).1 ≤ most
 | 0, i, a, l => Nat.zero_le _
 | k + 1, i, a, [] => Nat.zero_le _
 | k + 1, i, a, x :: l => by
  rw [rdN]
  split
  ·exact rdN_le most k _ _ _
  ·split
   ·exact Nat.zero_le _
   ·split
    ·exact Nat.zero_le _
    ·split
     ·exact Nat.zero_le _
     ·show _ ≤ most; omega
theorem rNum_le (most : Nat) (s : Rs) : (rNum most s).1 ≤ most := by unfold rNum; split; exact rdN_le _ _ _ _ _; exact Nat.zero_le _
theorem rdN_bs {most : Nat} {l : List UInt8} : (rdN most 10 0 0 l).2.1 ≤ l.length := by have := rdN_size most 10 0 0 l; omega
theorem SlRd.byte {V : Nat → Obj → Prop} {v : Value} {bs : List UInt8} (h : SlRd V v bs.length 1 (bytesV bs)) {i : Nat} (hi : i < bs.length) : ∃ b k c T fr arr, v = .slice (some ⟨b, k, none⟩) bs.length c ∧ V b (.cells arr T fr) ∧ arr[k + i * 1]? = some (byteV bs[i]) := by
 obtain ⟨b, k, c, T, fr, arr, e, _, hb, hcd⟩ := h.get (by omega)
 refine ⟨b, k, c, T, fr, arr, e, hb, ?_⟩
 have := take_cells hcd i (byteV bs[i]) (by simp [bytesV, hi]) (by rw [bytesV_len]; exact hi)
 rw [Array.getElem?_toList] at this
 rwa [Nat.mul_one]
theorem code_number {I : Imm} {most : Nat} {b : List UInt8} {vb : Value} (hb : SlRd (Im I) vb b.length 1 (bytesV b)) (hl : b.length ≤ 140737488355328) : Spec Tryz.prog 127 [vb, .int .u64 (most : Int)] I [] (fun v J L => v = .tuple #[.int .u64 ((rdN most 10 0 0 b).1 : Int), .int .i64 ((rdN most 10 0 0 b).2.1 : Int), .int .i64 (rdN most 10 0 0 b).2.2] ∧ I = J ∧ L = []) := by
 obtain ⟨Ab, cb, rfl, _, _, _⟩ := id hb
 refine Spec.of Tryz.func127 rfl Tryz.ntmps127 (Nat.le_of_ble_eq_true rfl) (fun F => ?_)
 try simp only [nf]
 dsimp only [argsEnv]
 refine WP.seq ?_; refine WP.region [0, 1, 2] rfl ?_; iterate 3 refine WP.mv rfl rfl ?_
 refine WP.nil ?_; refine WP.next ?_; refine WP.seq ?_; refine WP.region [0] rfl ?_; refine WP.mv rfl rfl ?_; refine WP.nil ?_; refine WP.next ?_; iterate 2 refine WP.seq ?_
 refine WP.region [0] rfl ?_; refine WP.mv rfl rfl ?_; refine WP.nil ?_; refine WP.next ?_; refine WP.block ?_; refine WP.loop (X := Nat × Nat) (fun t : Nat × Nat => [(0, .slice Ab b.length cb), (1, .int .u64 (most : Int)), (7, .int .u64 (t.2 : Int)), (10, .int .i64 (t.1 : Int))]) (fun _ => I) (fun _ : Nat × Nat => F) (fun t : Nat × Nat => t.1 ≤ 10 ∧ t.1 ≤ b.length ∧ t.2 < 18446744073709551616 ∧ rdN most (10 - t.1) t.1 t.2 (b.drop t.1) = (rdN most 10 0 0 b)) (fun t => 10 - t.1) (0, 0) ⟨Nat.zero_le _, Nat.zero_le _, by decide, rfl⟩ ⟨rfl, rfl, rfl, rfl, trivial⟩ rfl (by (try dsimp only); repeat (first | exact Rm.chunk | exact Rm.here | exact Rm.nil0 | apply Rm.skip | apply Rm.skipS | apply PX.cons | (apply PX.done; (repeat (first | exact Leave.done | apply Leave.drop | apply Leave.dropS)); done) | apply PX.app)) ?_; rintro ⟨i, a⟩ ⟨h10, hib, ha, hinv⟩; dsimp only at h10 hib ha hinv
 try dsimp only
 try simp only [nf]
 refine WP.seq ?_; refine WP.region [0] rfl ?_; refine WP.split rfl rfl rfl rfl (Yld.lss rfl rfl rfl) (fun hlt => ?_) (fun hlt => ?_)
 ·refine WP.nil ?_
  refine WP.next ?_; refine WP.seq ?_; refine WP.condT rfl ?_; refine WP.skip ?_; refine WP.next ?_; refine WP.seq ?_; refine WP.block ?_; refine WP.seq ?_; refine WP.region [0, 1] rfl ?_; iterate 2 refine WP.mv rfl rfl ?_
  refine WP.nil ?_; refine WP.sub [(0, _), (1, _), (7, _), (8, _), (10, _), (11, _)] ?_ ⟨rfl, rfl, rfl, rfl, rfl, rfl, trivial⟩
  refine WP.next ?_; iterate 2 refine WP.seq ?_
  refine WP.region [0, 1, 2, 3] rfl ?_; iterate 2 refine WP.mv rfl rfl ?_
  refine WP.vl rfl (Yld.len rfl ty_sl_49 rfl) ?_; refine WP.split rfl rfl rfl rfl (Yld.eql rfl rfl rfl) (fun heq => ?_) (fun heq => ?_)
  ·have hbe : b.drop i = [] := List.drop_eq_nil_of_le (by omega)
   obtain ⟨k, hk⟩ : ∃ k, 10 - i = k + 1 := ⟨9 - i, by omega⟩
   rw [hk, hbe] at hinv
   refine WP.nil ?_; refine WP.sub [(0, _), (1, _), (7, _), (8, _), (10, _), (11, _), (16, _)] ?_ ⟨rfl, rfl, rfl, rfl, rfl, rfl, rfl, trivial⟩
   refine WP.next ?_; refine WP.condT rfl ?_; refine WP.seq ?_; refine WP.region [0, 1, 2] rfl ?_; iterate 3 refine WP.mv rfl rfl ?_
   refine WP.nil ?_; refine WP.next ?_; refine WP.ret ?_; refine WP.fn .ret (.inr rfl) (res3 rfl rfl rfl rfl) [] (Imm.le_refl _) ?_; rw [← hinv]; exact ⟨rfl, rfl, rfl⟩
  ·have hi : i < b.length := by omega
   obtain ⟨bb, kb, cb2, Tb, fb, arb, eb, hbb, hxb⟩ := hb.byte hi
   injection eb with eb1 _ eb2; subst eb1; subst eb2
   obtain ⟨x, hx⟩ : ∃ x, x = b[i] := ⟨_, rfl⟩
   rw [← hx] at hxb
   have hx8 := x.toNat_lt
   have hdr : b.drop i = x :: b.drop (i + 1) := by rw [List.drop_eq_getElem_cons hi, hx]
   obtain ⟨k, hk⟩ : ∃ k, 10 - i = k + 1 := ⟨9 - i, by omega⟩
   rw [hk, hdr, rdN] at hinv
   refine WP.nil ?_; refine WP.sub [(0, _), (1, _), (7, _), (8, _), (10, _), (11, _), (16, _)] ?_ ⟨rfl, rfl, rfl, rfl, rfl, rfl, rfl, trivial⟩
   refine WP.next ?_; refine WP.condF rfl ?_; refine WP.skip ?_; refine WP.next ?_; refine WP.seq ?_; refine WP.region [0, 1, 2, 3, 4] rfl ?_; iterate 2 refine WP.mv rfl rfl ?_
   refine WP.vl rfl (Yld.indexAddr (i := i) rfl ty_sl_49 rfl rfl hi) ?_; refine WP.vl rfl (Yld.loadC (v := .int .u8 (x.toNat : Int)) rfl ty_sc_5 rfl (There.i hbb) hxb) ?_; refine WP.mv rfl rfl ?_; refine WP.nil ?_; refine WP.sub [(0, _), (1, _), (7, _), (8, _), (9, _), (10, _), (11, _), (16, _)] ?_ ⟨rfl, rfl, rfl, rfl, rfl, rfl, rfl, rfl, trivial⟩
   refine WP.next ?_; refine WP.seq ?_; refine WP.block ?_; refine WP.seq ?_; refine WP.region [0, 1, 2] rfl ?_; refine WP.mv rfl rfl ?_; refine WP.split rfl rfl rfl rfl (Yld.geq rfl rfl rfl) (fun hc => ?_) (fun hc => ?_)
   ·refine WP.mv rfl rfl ?_
    refine WP.nil ?_; refine WP.sub [(0, _), (1, _), (7, _), (8, _), (9, _), (10, _), (11, _), (16, _), (21, _)] ?_ ⟨rfl, rfl, rfl, rfl, rfl, rfl, rfl, rfl, rfl, trivial⟩
    refine WP.next ?_; refine WP.condT rfl ?_; refine WP.seq ?_; refine WP.region [0, 1, 2, 3, 4, 5, 6, 7, 8] rfl ?_; iterate 2 refine WP.mv rfl rfl ?_
    refine WP.vl rfl (Yld.sub8N x.toNat 128 (by omega) (by omega) rfl rfl rfl) ?_; refine WP.vl rfl (Yld.conv64u (x.toNat - 128) rfl ty_un_5 ty_ik_40 rfl (by omega)) ?_; refine WP.mv rfl rfl ?_; refine WP.vl rfl (Yld.mul64 rfl rfl rfl (by omega)) ?_; refine WP.vl rfl (Yld.shlU64 (x.toNat - 128) (7 * i) rfl rfl (congrArg (fun z => some (Value.int .i64 z)) (show (7 : Int) * (i : Int) = ((7 * i : Nat) : Int) by omega)) (by omega)) ?_; refine WP.vl rfl (Yld.orU64 a _ ha (Nat.mod_lt _ (by decide)) rfl rfl rfl) ?_; refine WP.mv rfl rfl ?_; refine WP.nil ?_; refine WP.sub [(0, _), (1, _), (7, _), (8, _), (9, _), (10, _), (11, _), (16, _), (21, _)] ?_ ⟨rfl, rfl, rfl, rfl, rfl, rfl, rfl, rfl, rfl, trivial⟩
    refine WP.next ?_; refine WP.exit ?_; refine WP.miss rfl ?_; refine WP.thenE ?_; refine WP.hit ?_; refine WP.next ?_; refine WP.region [0, 1] rfl ?_; refine WP.vl rfl (Yld.add64 rfl rfl rfl (by omega)) ?_; refine WP.mv rfl rfl ?_; refine WP.nil ?_; refine WP.sub [(0, _), (1, _), (7, _), (8, _), (9, _), (10, _), (11, _), (16, _), (21, _)] ?_ ⟨rfl, rfl, rfl, rfl, rfl, rfl, rfl, rfl, rfl, trivial⟩
    exact WP.ag (i + 1, a ||| ((x.toNat - 128) * 2 ^ (7 * i) % 18446744073709551616)) ⟨by omega, hi, Nat.or_lt_two_pow (n := 64) ha (Nat.mod_lt _ (by decide)), by dsimp only; rw [if_pos (by omega)] at hinv; rw [show 10 - (i + 1) = k by omega]; exact hinv⟩ (show 10 - (i + 1) < 10 - i by omega) ⟨rfl, rfl, rfl, rfl, trivial⟩ rfl
   ·refine WP.mv rfl rfl ?_
    refine WP.nil ?_; refine WP.sub [(0, _), (1, _), (7, _), (8, _), (9, _), (10, _), (11, _), (16, _), (21, _)] ?_ ⟨rfl, rfl, rfl, rfl, rfl, rfl, rfl, rfl, rfl, trivial⟩
    refine WP.next ?_; refine WP.condF rfl ?_; refine WP.seq ?_; refine WP.region [0, 1, 2, 3, 4, 5, 6] rfl ?_; refine WP.mv rfl rfl ?_; refine WP.split rfl rfl rfl rfl (Yld.eql rfl rfl rfl) (fun hz => ?_) (fun hz => ?_)
    ·refine WP.mv rfl rfl ?_
     refine WP.valG rfl rfl rfl rfl rfl rfl rfl (Yld.move rfl rfl) ?_; refine WP.splitG rfl rfl rfl rfl rfl rfl rfl (Yld.gtr rfl rfl rfl) (fun hz0 => ?_) (fun hz0 => ?_)
     ·refine WP.vl rfl (Yld.pickT rfl rfl rfl) ?_
      refine WP.mv rfl rfl ?_; refine WP.nil ?_; refine WP.sub [(0, _), (1, _), (7, _), (8, _), (9, _), (10, _), (11, _), (16, _), (21, _), (32, _)] ?_ ⟨rfl, rfl, rfl, rfl, rfl, rfl, rfl, rfl, rfl, rfl, trivial⟩
      refine WP.next ?_; refine WP.condT rfl ?_; refine WP.seq ?_; refine WP.region [0, 1, 2] rfl ?_; iterate 3 refine WP.mv rfl rfl ?_
      refine WP.nil ?_; refine WP.next ?_; refine WP.ret ?_; refine WP.fn .ret (.inr rfl) (res3 rfl rfl rfl rfl) [] (Imm.le_refl _) ?_; rw [if_neg (by omega)] at hinv
      rw [if_pos ⟨by omega, by omega⟩] at hinv
      rw [← hinv]; exact ⟨rfl, rfl, rfl⟩
     ·refine WP.vl rfl (Yld.pickT rfl rfl rfl) ?_
      refine WP.mv rfl rfl ?_; refine WP.nil ?_; refine WP.sub [(0, _), (1, _), (7, _), (8, _), (9, _), (10, _), (11, _), (16, _), (21, _), (32, _)] ?_ ⟨rfl, rfl, rfl, rfl, rfl, rfl, rfl, rfl, rfl, rfl, trivial⟩
      refine WP.next ?_; refine WP.condF rfl ?_; refine WP.seq ?_; refine WP.region [0, 1, 2, 3, 4, 5, 6] rfl ?_; refine WP.mv rfl rfl ?_; refine WP.split rfl rfl rfl rfl (Yld.eql rfl rfl rfl) (fun h9 => ?_) (fun h9 => ?_)
      ·refine WP.mv rfl rfl ?_
       refine WP.valG rfl rfl rfl rfl rfl rfl rfl (Yld.move rfl rfl) ?_; refine WP.splitG rfl rfl rfl rfl rfl rfl rfl (Yld.gtr rfl rfl rfl) (fun h91 => ?_) (fun h91 => ?_)
       ·refine WP.vl rfl (Yld.pickT rfl rfl rfl) ?_
        refine WP.mv rfl rfl ?_; refine WP.nil ?_; refine WP.sub [(0, _), (1, _), (7, _), (8, _), (9, _), (10, _), (11, _), (16, _), (21, _), (32, _), (39, _)] ?_ ⟨rfl, rfl, rfl, rfl, rfl, rfl, rfl, rfl, rfl, rfl, rfl, trivial⟩
        refine WP.next ?_; refine WP.condT rfl ?_; refine WP.seq ?_; refine WP.region [0, 1, 2] rfl ?_; iterate 3 refine WP.mv rfl rfl ?_
        refine WP.nil ?_; refine WP.next ?_; refine WP.ret ?_; refine WP.fn .ret (.inr rfl) (res3 rfl rfl rfl rfl) [] (Imm.le_refl _) ?_; rw [if_neg (by omega)] at hinv
        rw [if_neg (by omega)] at hinv
        rw [if_pos ⟨by omega, by omega⟩] at hinv
        rw [← hinv]; exact ⟨rfl, rfl, rfl⟩
       ·refine WP.vl rfl (Yld.pickT rfl rfl rfl) ?_
        refine WP.mv rfl rfl ?_; refine WP.nil ?_; refine WP.sub [(0, _), (1, _), (7, _), (8, _), (9, _), (10, _), (11, _), (16, _), (21, _), (32, _), (39, _)] ?_ ⟨rfl, rfl, rfl, rfl, rfl, rfl, rfl, rfl, rfl, rfl, rfl, trivial⟩
        refine WP.next ?_; refine WP.condF rfl ?_; refine WP.skip ?_; refine WP.leave ?_; refine WP.next ?_; refine WP.seq ?_; refine WP.region [0, 1, 2, 3, 4, 5, 6, 7] rfl ?_; iterate 2 refine WP.mv rfl rfl ?_
        refine WP.vl rfl (Yld.conv64u x.toNat rfl ty_un_5 ty_ik_40 rfl (by omega)) ?_; refine WP.mv rfl rfl ?_; refine WP.vl rfl (Yld.mul64 rfl rfl rfl (by omega)) ?_; refine WP.vl rfl (Yld.shlU64 x.toNat (7 * i) rfl rfl (congrArg (fun z => some (Value.int .i64 z)) (show (7 : Int) * (i : Int) = ((7 * i : Nat) : Int) by omega)) (by omega)) ?_; refine WP.vl rfl (Yld.orU64 a _ ha (Nat.mod_lt _ (by decide)) rfl rfl rfl) ?_; refine WP.mv rfl rfl ?_; refine WP.nil ?_; refine WP.sub [(0, _), (1, _), (7, _), (8, _), (9, _), (10, _), (11, _), (16, _), (21, _), (32, _), (39, _)] ?_ ⟨rfl, rfl, rfl, rfl, rfl, rfl, rfl, rfl, rfl, rfl, rfl, trivial⟩
        refine WP.next ?_; iterate 2 refine WP.seq ?_
        refine WP.region [0, 1, 2] rfl ?_; iterate 2 refine WP.mv rfl rfl ?_
        refine WP.split rfl rfl rfl rfl (Yld.gtr rfl rfl rfl) (fun hbig => ?_) (fun hbig => ?_)
        ·refine WP.nil ?_
         refine WP.sub [(0, _), (1, _), (7, _), (8, _), (9, _), (10, _), (11, _), (16, _), (21, _), (32, _), (39, _), (55, _)] ?_ ⟨rfl, rfl, rfl, rfl, rfl, rfl, rfl, rfl, rfl, rfl, rfl, rfl, trivial⟩
         refine WP.next ?_; refine WP.condT rfl ?_; refine WP.seq ?_; refine WP.region [0, 1, 2] rfl ?_; iterate 3 refine WP.mv rfl rfl ?_
         refine WP.nil ?_; refine WP.next ?_; refine WP.ret ?_; refine WP.fn .ret (.inr rfl) (res3 rfl rfl rfl rfl) [] (Imm.le_refl _) ?_; rw [if_neg (by omega)] at hinv
         rw [if_neg (by omega)] at hinv
         rw [if_neg (by omega)] at hinv
         rw [if_pos (by omega)] at hinv
         rw [← hinv]; exact ⟨rfl, rfl, rfl⟩
        ·refine WP.nil ?_
         refine WP.sub [(0, _), (1, _), (7, _), (8, _), (9, _), (10, _), (11, _), (16, _), (21, _), (32, _), (39, _), (55, _)] ?_ ⟨rfl, rfl, rfl, rfl, rfl, rfl, rfl, rfl, rfl, rfl, rfl, rfl, trivial⟩
         refine WP.next ?_; refine WP.condF rfl ?_; refine WP.skip ?_; refine WP.next ?_; refine WP.seq ?_; refine WP.region [0, 1, 2, 3, 4, 5] rfl ?_; iterate 2 refine WP.mv rfl rfl ?_
         refine WP.vl rfl (Yld.add64 rfl rfl rfl (by omega)) ?_; iterate 3 refine WP.mv rfl rfl ?_
         refine WP.nil ?_; refine WP.sub [(0, _), (1, _), (4, _), (5, _), (6, _), (7, _), (8, _), (9, _), (10, _), (11, _), (16, _), (21, _), (32, _), (39, _), (55, _)] ?_ ⟨rfl, rfl, rfl, rfl, rfl, rfl, rfl, rfl, rfl, rfl, rfl, rfl, rfl, rfl, rfl, trivial⟩
         refine WP.next ?_; refine WP.ret ?_; refine WP.fn .ret (.inr rfl) (res3 rfl rfl rfl rfl) [] (Imm.le_refl _) ?_; rw [if_neg (by omega)] at hinv
         rw [if_neg (by omega)] at hinv
         rw [if_neg (by omega)] at hinv
         rw [if_neg (by omega)] at hinv
         rw [← hinv]; exact ⟨rfl, rfl, rfl⟩
      ·refine WP.mv rfl rfl ?_
       iterate 2 refine WP.passG rfl rfl rfl rfl rfl rfl rfl rfl ?_
       refine WP.vl rfl (Yld.pickF rfl rfl rfl) ?_; refine WP.mv rfl rfl ?_; refine WP.nil ?_; refine WP.sub [(0, _), (1, _), (7, _), (8, _), (9, _), (10, _), (11, _), (16, _), (21, _), (32, _), (39, _)] ?_ ⟨rfl, rfl, rfl, rfl, rfl, rfl, rfl, rfl, rfl, rfl, rfl, trivial⟩
       refine WP.next ?_; refine WP.condF rfl ?_; refine WP.skip ?_; refine WP.leave ?_; refine WP.next ?_; refine WP.seq ?_; refine WP.region [0, 1, 2, 3, 4, 5, 6, 7] rfl ?_; iterate 2 refine WP.mv rfl rfl ?_
       refine WP.vl rfl (Yld.conv64u x.toNat rfl ty_un_5 ty_ik_40 rfl (by omega)) ?_; refine WP.mv rfl rfl ?_; refine WP.vl rfl (Yld.mul64 rfl rfl rfl (by omega)) ?_; refine WP.vl rfl (Yld.shlU64 x.toNat (7 * i) rfl rfl (congrArg (fun z => some (Value.int .i64 z)) (show (7 : Int) * (i : Int) = ((7 * i : Nat) : Int) by omega)) (by omega)) ?_; refine WP.vl rfl (Yld.orU64 a _ ha (Nat.mod_lt _ (by decide)) rfl rfl rfl) ?_; refine WP.mv rfl rfl ?_; refine WP.nil ?_; refine WP.sub [(0, _), (1, _), (7, _), (8, _), (9, _), (10, _), (11, _), (16, _), (21, _), (32, _), (39, _)] ?_ ⟨rfl, rfl, rfl, rfl, rfl, rfl, rfl, rfl, rfl, rfl, rfl, trivial⟩
       refine WP.next ?_; iterate 2 refine WP.seq ?_
       refine WP.region [0, 1, 2] rfl ?_; iterate 2 refine WP.mv rfl rfl ?_
       refine WP.split rfl rfl rfl rfl (Yld.gtr rfl rfl rfl) (fun hbig => ?_) (fun hbig => ?_)
       ·refine WP.nil ?_
        refine WP.sub [(0, _), (1, _), (7, _), (8, _), (9, _), (10, _), (11, _), (16, _), (21, _), (32, _), (39, _), (55, _)] ?_ ⟨rfl, rfl, rfl, rfl, rfl, rfl, rfl, rfl, rfl, rfl, rfl, rfl, trivial⟩
        refine WP.next ?_; refine WP.condT rfl ?_; refine WP.seq ?_; refine WP.region [0, 1, 2] rfl ?_; iterate 3 refine WP.mv rfl rfl ?_
        refine WP.nil ?_; refine WP.next ?_; refine WP.ret ?_; refine WP.fn .ret (.inr rfl) (res3 rfl rfl rfl rfl) [] (Imm.le_refl _) ?_; rw [if_neg (by omega)] at hinv
        rw [if_neg (by omega)] at hinv
        rw [if_neg (by omega)] at hinv
        rw [if_pos (by omega)] at hinv
        rw [← hinv]; exact ⟨rfl, rfl, rfl⟩
       ·refine WP.nil ?_
        refine WP.sub [(0, _), (1, _), (7, _), (8, _), (9, _), (10, _), (11, _), (16, _), (21, _), (32, _), (39, _), (55, _)] ?_ ⟨rfl, rfl, rfl, rfl, rfl, rfl, rfl, rfl, rfl, rfl, rfl, rfl, trivial⟩
        refine WP.next ?_; refine WP.condF rfl ?_; refine WP.skip ?_; refine WP.next ?_; refine WP.seq ?_; refine WP.region [0, 1, 2, 3, 4, 5] rfl ?_; iterate 2 refine WP.mv rfl rfl ?_
        refine WP.vl rfl (Yld.add64 rfl rfl rfl (by omega)) ?_; iterate 3 refine WP.mv rfl rfl ?_
        refine WP.nil ?_; refine WP.sub [(0, _), (1, _), (4, _), (5, _), (6, _), (7, _), (8, _), (9, _), (10, _), (11, _), (16, _), (21, _), (32, _), (39, _), (55, _)] ?_ ⟨rfl, rfl, rfl, rfl, rfl, rfl, rfl, rfl, rfl, rfl, rfl, rfl, rfl, rfl, rfl, trivial⟩
        refine WP.next ?_; refine WP.ret ?_; refine WP.fn .ret (.inr rfl) (res3 rfl rfl rfl rfl) [] (Imm.le_refl _) ?_; rw [if_neg (by omega)] at hinv
        rw [if_neg (by omega)] at hinv
        rw [if_neg (by omega)] at hinv
        rw [if_neg (by omega)] at hinv
        rw [← hinv]; exact ⟨rfl, rfl, rfl⟩
    ·refine WP.mv rfl rfl ?_
     iterate 2 refine WP.passG rfl rfl rfl rfl rfl rfl rfl rfl ?_
     refine WP.vl rfl (Yld.pickF rfl rfl rfl) ?_; refine WP.mv rfl rfl ?_; refine WP.nil ?_; refine WP.sub [(0, _), (1, _), (7, _), (8, _), (9, _), (10, _), (11, _), (16, _), (21, _), (32, _)] ?_ ⟨rfl, rfl, rfl, rfl, rfl, rfl, rfl, rfl, rfl, rfl, trivial⟩
     refine WP.next ?_; refine WP.condF rfl ?_; refine WP.seq ?_; refine WP.region [0, 1, 2, 3, 4, 5, 6] rfl ?_; refine WP.mv rfl rfl ?_; refine WP.split rfl rfl rfl rfl (Yld.eql rfl rfl rfl) (fun h9 => ?_) (fun h9 => ?_)
     ·refine WP.mv rfl rfl ?_
      refine WP.valG rfl rfl rfl rfl rfl rfl rfl (Yld.move rfl rfl) ?_; refine WP.splitG rfl rfl rfl rfl rfl rfl rfl (Yld.gtr rfl rfl rfl) (fun h91 => ?_) (fun h91 => ?_)
      ·refine WP.vl rfl (Yld.pickT rfl rfl rfl) ?_
       refine WP.mv rfl rfl ?_; refine WP.nil ?_; refine WP.sub [(0, _), (1, _), (7, _), (8, _), (9, _), (10, _), (11, _), (16, _), (21, _), (32, _), (39, _)] ?_ ⟨rfl, rfl, rfl, rfl, rfl, rfl, rfl, rfl, rfl, rfl, rfl, trivial⟩
       refine WP.next ?_; refine WP.condT rfl ?_; refine WP.seq ?_; refine WP.region [0, 1, 2] rfl ?_; iterate 3 refine WP.mv rfl rfl ?_
       refine WP.nil ?_; refine WP.next ?_; refine WP.ret ?_; refine WP.fn .ret (.inr rfl) (res3 rfl rfl rfl rfl) [] (Imm.le_refl _) ?_; rw [if_neg (by omega)] at hinv
       rw [if_neg (by omega)] at hinv
       rw [if_pos ⟨by omega, by omega⟩] at hinv
       rw [← hinv]; exact ⟨rfl, rfl, rfl⟩
      ·refine WP.vl rfl (Yld.pickT rfl rfl rfl) ?_
       refine WP.mv rfl rfl ?_; refine WP.nil ?_; refine WP.sub [(0, _), (1, _), (7, _), (8, _), (9, _), (10, _), (11, _), (16, _), (21, _), (32, _), (39, _)] ?_ ⟨rfl, rfl, rfl, rfl, rfl, rfl, rfl, rfl, rfl, rfl, rfl, trivial⟩
       refine WP.next ?_; refine WP.condF rfl ?_; refine WP.skip ?_; refine WP.leave ?_; refine WP.next ?_; refine WP.seq ?_; refine WP.region [0, 1, 2, 3, 4, 5, 6, 7] rfl ?_; iterate 2 refine WP.mv rfl rfl ?_
       refine WP.vl rfl (Yld.conv64u x.toNat rfl ty_un_5 ty_ik_40 rfl (by omega)) ?_; refine WP.mv rfl rfl ?_; refine WP.vl rfl (Yld.mul64 rfl rfl rfl (by omega)) ?_; refine WP.vl rfl (Yld.shlU64 x.toNat (7 * i) rfl rfl (congrArg (fun z => some (Value.int .i64 z)) (show (7 : Int) * (i : Int) = ((7 * i : Nat) : Int) by omega)) (by omega)) ?_; refine WP.vl rfl (Yld.orU64 a _ ha (Nat.mod_lt _ (by decide)) rfl rfl rfl) ?_; refine WP.mv rfl rfl ?_; refine WP.nil ?_; refine WP.sub [(0, _), (1, _), (7, _), (8, _), (9, _), (10, _), (11, _), (16, _), (21, _), (32, _), (39, _)] ?_ ⟨rfl, rfl, rfl, rfl, rfl, rfl, rfl, rfl, rfl, rfl, rfl, trivial⟩
       refine WP.next ?_; iterate 2 refine WP.seq ?_
       refine WP.region [0, 1, 2] rfl ?_; iterate 2 refine WP.mv rfl rfl ?_
       refine WP.split rfl rfl rfl rfl (Yld.gtr rfl rfl rfl) (fun hbig => ?_) (fun hbig => ?_)
       ·refine WP.nil ?_
        refine WP.sub [(0, _), (1, _), (7, _), (8, _), (9, _), (10, _), (11, _), (16, _), (21, _), (32, _), (39, _), (55, _)] ?_ ⟨rfl, rfl, rfl, rfl, rfl, rfl, rfl, rfl, rfl, rfl, rfl, rfl, trivial⟩
        refine WP.next ?_; refine WP.condT rfl ?_; refine WP.seq ?_; refine WP.region [0, 1, 2] rfl ?_; iterate 3 refine WP.mv rfl rfl ?_
        refine WP.nil ?_; refine WP.next ?_; refine WP.ret ?_; refine WP.fn .ret (.inr rfl) (res3 rfl rfl rfl rfl) [] (Imm.le_refl _) ?_; rw [if_neg (by omega)] at hinv
        rw [if_neg (by omega)] at hinv
        rw [if_neg (by omega)] at hinv
        rw [if_pos (by omega)] at hinv
        rw [← hinv]; exact ⟨rfl, rfl, rfl⟩
       ·refine WP.nil ?_
        refine WP.sub [(0, _), (1, _), (7, _), (8, _), (9, _), (10, _), (11, _), (16, _), (21, _), (32, _), (39, _), (55, _)] ?_ ⟨rfl, rfl, rfl, rfl, rfl, rfl, rfl, rfl, rfl, rfl, rfl, rfl, trivial⟩
        refine WP.next ?_; refine WP.condF rfl ?_; refine WP.skip ?_; refine WP.next ?_; refine WP.seq ?_; refine WP.region [0, 1, 2, 3, 4, 5] rfl ?_; iterate 2 refine WP.mv rfl rfl ?_
        refine WP.vl rfl (Yld.add64 rfl rfl rfl (by omega)) ?_; iterate 3 refine WP.mv rfl rfl ?_
        refine WP.nil ?_; refine WP.sub [(0, _), (1, _), (4, _), (5, _), (6, _), (7, _), (8, _), (9, _), (10, _), (11, _), (16, _), (21, _), (32, _), (39, _), (55, _)] ?_ ⟨rfl, rfl, rfl, rfl, rfl, rfl, rfl, rfl, rfl, rfl, rfl, rfl, rfl, rfl, rfl, trivial⟩
        refine WP.next ?_; refine WP.ret ?_; refine WP.fn .ret (.inr rfl) (res3 rfl rfl rfl rfl) [] (Imm.le_refl _) ?_; rw [if_neg (by omega)] at hinv
        rw [if_neg (by omega)] at hinv
        rw [if_neg (by omega)] at hinv
        rw [if_neg (by omega)] at hinv
        rw [← hinv]; exact ⟨rfl, rfl, rfl⟩
     ·refine WP.mv rfl rfl ?_
      iterate 2 refine WP.passG rfl rfl rfl rfl rfl rfl rfl rfl ?_
      refine WP.vl rfl (Yld.pickF rfl rfl rfl) ?_; refine WP.mv rfl rfl ?_; refine WP.nil ?_; refine WP.sub [(0, _), (1, _), (7, _), (8, _), (9, _), (10, _), (11, _), (16, _), (21, _), (32, _), (39, _)] ?_ ⟨rfl, rfl, rfl, rfl, rfl, rfl, rfl, rfl, rfl, rfl, rfl, trivial⟩
      refine WP.next ?_; refine WP.condF rfl ?_; refine WP.skip ?_; refine WP.leave ?_; refine WP.next ?_; refine WP.seq ?_; refine WP.region [0, 1, 2, 3, 4, 5, 6, 7] rfl ?_; iterate 2 refine WP.mv rfl rfl ?_
      refine WP.vl rfl (Yld.conv64u x.toNat rfl ty_un_5 ty_ik_40 rfl (by omega)) ?_; refine WP.mv rfl rfl ?_; refine WP.vl rfl (Yld.mul64 rfl rfl rfl (by omega)) ?_; refine WP.vl rfl (Yld.shlU64 x.toNat (7 * i) rfl rfl (congrArg (fun z => some (Value.int .i64 z)) (show (7 : Int) * (i : Int) = ((7 * i : Nat) : Int) by omega)) (by omega)) ?_; refine WP.vl rfl (Yld.orU64 a _ ha (Nat.mod_lt _ (by decide)) rfl rfl rfl) ?_; refine WP.mv rfl rfl ?_; refine WP.nil ?_; refine WP.sub [(0, _), (1, _), (7, _), (8, _), (9, _), (10, _), (11, _), (16, _), (21, _), (32, _), (39, _)] ?_ ⟨rfl, rfl, rfl, rfl, rfl, rfl, rfl, rfl, rfl, rfl, rfl, trivial⟩
      refine WP.next ?_; iterate 2 refine WP.seq ?_
      refine WP.region [0, 1, 2] rfl ?_; iterate 2 refine WP.mv rfl rfl ?_
      refine WP.split rfl rfl rfl rfl (Yld.gtr rfl rfl rfl) (fun hbig => ?_) (fun hbig => ?_)
      ·refine WP.nil ?_
       refine WP.sub [(0, _), (1, _), (7, _), (8, _), (9, _), (10, _), (11, _), (16, _), (21, _), (32, _), (39, _), (55, _)] ?_ ⟨rfl, rfl, rfl, rfl, rfl, rfl, rfl, rfl, rfl, rfl, rfl, rfl, trivial⟩
       refine WP.next ?_; refine WP.condT rfl ?_; refine WP.seq ?_; refine WP.region [0, 1, 2] rfl ?_; iterate 3 refine WP.mv rfl rfl ?_
       refine WP.nil ?_; refine WP.next ?_; refine WP.ret ?_; refine WP.fn .ret (.inr rfl) (res3 rfl rfl rfl rfl) [] (Imm.le_refl _) ?_; rw [if_neg (by omega)] at hinv
       rw [if_neg (by omega)] at hinv
       rw [if_neg (by omega)] at hinv
       rw [if_pos (by omega)] at hinv
       rw [← hinv]; exact ⟨rfl, rfl, rfl⟩
      ·refine WP.nil ?_
       refine WP.sub [(0, _), (1, _), (7, _), (8, _), (9, _), (10, _), (11, _), (16, _), (21, _), (32, _), (39, _), (55, _)] ?_ ⟨rfl, rfl, rfl, rfl, rfl, rfl, rfl, rfl, rfl, rfl, rfl, rfl, trivial⟩
       refine WP.next ?_; refine WP.condF rfl ?_; refine WP.skip ?_; refine WP.next ?_; refine WP.seq ?_; refine WP.region [0, 1, 2, 3, 4, 5] rfl ?_; iterate 2 refine WP.mv rfl rfl ?_
       refine WP.vl rfl (Yld.add64 rfl rfl rfl (by omega)) ?_; iterate 3 refine WP.mv rfl rfl ?_
       refine WP.nil ?_; refine WP.sub [(0, _), (1, _), (4, _), (5, _), (6, _), (7, _), (8, _), (9, _), (10, _), (11, _), (16, _), (21, _), (32, _), (39, _), (55, _)] ?_ ⟨rfl, rfl, rfl, rfl, rfl, rfl, rfl, rfl, rfl, rfl, rfl, rfl, rfl, rfl, rfl, trivial⟩
       refine WP.next ?_; refine WP.ret ?_; refine WP.fn .ret (.inr rfl) (res3 rfl rfl rfl rfl) [] (Imm.le_refl _) ?_; rw [if_neg (by omega)] at hinv
       rw [if_neg (by omega)] at hinv
       rw [if_neg (by omega)] at hinv
       rw [if_neg (by omega)] at hinv
       rw [← hinv]; exact ⟨rfl, rfl, rfl⟩
 ·have h0 : 10 - i = 0 := by omega
  rw [h0] at hinv
  refine WP.nil ?_; refine WP.next ?_; refine WP.seq ?_; refine WP.condF rfl ?_; refine WP.exit ?_; iterate 2 refine WP.thenE ?_
  refine WP.hit ?_; refine WP.next ?_; refine WP.seq ?_; refine WP.region [0, 1, 2] rfl ?_; iterate 3 refine WP.mv rfl rfl ?_
  refine WP.nil ?_; refine WP.next ?_; refine WP.ret ?_; refine WP.fn .ret (.inr rfl) (res3 rfl rfl rfl rfl) [] (Imm.le_refl _) ?_; rw [← hinv]; exact ⟨rfl, rfl, rfl⟩


/-- A Reader. -/
inductive IsRd (I : Imm) (q : Nat) (s : Rs) : Chunks → Prop
 | mk {v : Value} (h : SlRd (Im I) v s.bs.length 1 (bytesV s.bs)) (hl : s.bs.length ≤ 140737488355328) : IsRd I q s [(q, row 228 [v, .int .i64 s.e])]
theorem IsRd.mono {I J : Imm} {q : Nat} {s : Rs} {L : Chunks} (h : IsRd I q s L) (hJ : I.le J) : IsRd J q s L := by
 cases h with | mk h hl => exact .mk (h.mono fun b o k => hJ.2 b o k) hl
theorem code_NewReader {I : Imm} {b : List UInt8} {vb : Value} (hb : SlRd (Im I) vb b.length 1 (bytesV b)) (hl : b.length ≤ 140737488355328) : Spec Tryz.prog 70 [vb] I [] (fun v J L => ∃ q, v = .pointer (some ⟨q, 0, none⟩) ∧ IsRd J q ⟨b, 0⟩ L) := by
 refine Spec.of Tryz.func70 rfl Tryz.ntmps70 (Nat.le_of_ble_eq_true rfl) (fun F => ?_)
 try simp only [nf]
 dsimp only [argsEnv]
 refine WP.seq ?_; refine WP.region [0] rfl ?_; refine WP.mv rfl rfl ?_; refine WP.nil ?_; refine WP.next ?_; refine WP.seq ?_; refine WP.region [0, 1, 2, 3, 4] rfl ?_; refine WP.mv rfl rfl ?_; refine WP.loud rfl rfl ?_; refine Op.cl (code_copied hb hl) rfl Tryz.func126 rfl rfl rfl rfl ?_; rintro v J Lc - ⟨rfl, hc⟩
 try simp only [nf]
 obtain ⟨Ac, cc, rfl, _⟩ := hc.slice
 refine WP.vl rfl (Yld.buildS (pl := [(0, 0, 1)]) rfl ty_zr_228 ty_zd_228 (by kernel_rfl) rfl (vs := [_]) rfl (segs := [(0, [_])]) rfl rfl (by repeat (first | exact SetSeg.nil | apply SetSeg.one | exact SetAt.zero | apply SetAt.succ))) ?_; refine WP.loud rfl rfl ?_; refine Op.box rfl rfl rfl rfl rfl (fun q => ?_)
 refine WP.mv rfl rfl ?_; refine WP.nil ?_; refine WP.sub [(0, _), (2, _)] ?_ ⟨rfl, rfl, trivial⟩
 refine WP.shO hc (fun J2 hJ2 hd => ?_)
 refine WP.next ?_; refine WP.ret ?_; refine WP.fn .ret (.inr rfl) (res1 rfl rfl) [(q, row 228 [(.slice Ac b.length cc), .int .i64 0])] hJ2 ?_; exact ⟨q, rfl, .mk (s := ⟨b, 0⟩) hd hl⟩

theorem code_RNum {I : Imm} {q : Nat} {s : Rs} {L : Chunks} (hq : IsRd I q s L) {most : Nat} : Spec Tryz.prog 71 [.pointer (some ⟨q, 0, none⟩), .int .u64 (most : Int)] I L (fun v J L' => v = .int .u64 ((rNum most s).1 : Int) ∧ I = J ∧ IsRd I q (rNum most s).2 L') := by
 cases hq with
 | @mk v hb hl =>
 obtain ⟨Av, cv, rfl, hcv, _, _⟩ := id hb
 refine Spec.of Tryz.func71 rfl Tryz.ntmps71 (Nat.le_of_ble_eq_true rfl) (fun F => ?_)
 try simp only [nf]
 dsimp only [argsEnv]
 refine WP.seq ?_; refine WP.region [0] rfl ?_; refine WP.mv rfl rfl ?_; refine WP.nil ?_; refine WP.next ?_; iterate 2 refine WP.seq ?_
 refine WP.region [0, 1, 2, 3, 4] rfl ?_; refine WP.mv rfl rfl ?_; refine WP.vl rfl (Yld.nilCheck rfl rfl) ?_; refine WP.vl rfl (Yld.fieldAddr rfl ty_fd_228_1 rfl) ?_; refine WP.vl rfl (Yld.ld (v := .int .i64 s.e) rfl ty_sc_27 rfl rfl) ?_; refine WP.split rfl rfl rfl rfl (Yld.neq rfl rfl rfl) (fun he => ?_) (fun he => ?_)
 ·refine WP.nil ?_
  refine WP.sub [(0, _), (1, _), (4, _), (12, _)] ?_ ⟨rfl, rfl, rfl, rfl, trivial⟩
  refine WP.next ?_; refine WP.condT rfl ?_; refine WP.seq ?_; refine WP.region [0] rfl ?_; refine WP.mv rfl rfl ?_; refine WP.nil ?_; refine WP.next ?_; refine WP.ret ?_; refine WP.fn .ret (.inr rfl) (res1 rfl rfl) [(q, row 228 [(.slice Av s.bs.length cv), .int .i64 s.e])] (Imm.le_refl _) ?_; have e : rNum most s = (0, s) := if_neg he
  rw [e]; exact ⟨rfl, rfl, .mk hb hl⟩
 ·refine WP.nil ?_
  refine WP.sub [(0, _), (1, _), (4, _), (12, _)] ?_ ⟨rfl, rfl, rfl, rfl, trivial⟩
  refine WP.next ?_; refine WP.condF rfl ?_; refine WP.skip ?_; refine WP.next ?_; refine WP.seq ?_; refine WP.region [0, 1, 2, 3, 4, 5, 6, 7, 8, 9, 10, 11, 12] rfl ?_; refine WP.mv rfl rfl ?_; refine WP.vl rfl (Yld.nilCheck rfl rfl) ?_; refine WP.vl rfl (Yld.fieldAddr rfl ty_fd_228_0 rfl) ?_; refine WP.vl rfl (Yld.ld (v := .slice Av s.bs.length cv) rfl ty_sc_49 rfl rfl) ?_; refine WP.mv rfl rfl ?_; refine WP.loud rfl rfl ?_; refine Op.cl (code_number (most := most) hb hl) rfl Tryz.func127 rfl rfl rfl rfl ?_; rintro v J L1 - ⟨rfl, rfl, rfl⟩
  try simp only [nf]
  refine WP.mv rfl rfl ?_; iterate 3 refine WP.vl rfl (Yld.extract rfl rfl rfl) ?_
  iterate 3 refine WP.mv rfl rfl ?_
  refine WP.nil ?_; refine WP.sub [(0, _), (1, _), (4, _), (5, _), (6, _), (7, _), (12, _)] ?_ ⟨rfl, rfl, rfl, rfl, rfl, rfl, rfl, trivial⟩
  refine WP.next ?_; refine WP.seq ?_; refine WP.region [0, 1, 2, 3, 4, 5, 6, 7, 8, 9, 10, 11, 12, 13, 14] rfl ?_; iterate 3 refine WP.mv rfl rfl ?_
  refine WP.vl rfl (Yld.nilCheck rfl rfl) ?_; refine WP.vl rfl (Yld.fieldAddr rfl ty_fd_228_0 rfl) ?_; refine WP.vl rfl (Yld.ld (v := .slice Av s.bs.length cv) rfl ty_sc_49 rfl rfl) ?_; refine WP.mv rfl rfl ?_; refine WP.vl rfl (Yld.slice (l := (rdN most 10 0 0 s.bs).2.1) (h := s.bs.length) rfl ty_sl_49 rfl (Env.limS rfl) rfl rdN_bs (by omega)) ?_; refine WP.mv rfl rfl ?_; refine WP.vl rfl (Yld.nilCheck rfl rfl) ?_; refine WP.vl rfl (Yld.fieldAddr rfl ty_fd_228_0 rfl) ?_; refine WP.loud rfl rfl ?_; refine Op.s1 rfl rfl ty_sz_49 rfl rfl rfl ?_; refine WP.vl rfl (Yld.nilCheck rfl rfl) ?_; refine WP.vl rfl (Yld.fieldAddr rfl ty_fd_228_1 rfl) ?_; refine WP.loud rfl rfl ?_; refine Op.s1 rfl rfl ty_sz_27 rfl rfl rfl ?_; refine WP.nil ?_; refine WP.sub [(0, _), (1, _), (4, _), (5, _), (6, _), (7, _), (12, _)] ?_ ⟨rfl, rfl, rfl, rfl, rfl, rfl, rfl, trivial⟩
  refine WP.next ?_; refine WP.seq ?_; refine WP.region [0, 1] rfl ?_; iterate 2 refine WP.mv rfl rfl ?_
  refine WP.nil ?_; refine WP.sub [(0, _), (1, _), (4, _), (5, _), (6, _), (7, _), (12, _)] ?_ ⟨rfl, rfl, rfl, rfl, rfl, rfl, rfl, trivial⟩
  refine WP.next ?_; refine WP.ret ?_; refine WP.fn .ret (.inr rfl) (res1 rfl rfl) [(q, row 228 [(subSl 1 (rdN most 10 0 0 s.bs).2.1 s.bs.length (.slice Av s.bs.length cv)), .int .i64 (rdN most 10 0 0 s.bs).2.2])] (Imm.le_refl _) ?_; have e : rNum most s = _ := if_pos (by simpa using he)
  rw [e]; exact ⟨rfl, rfl, .mk (s := ⟨_, _⟩) (hb.dropB rdN_bs) (by rw [List.length_drop]; omega)⟩

theorem code_RDone {I : Imm} {q : Nat} {s : Rs} {L : Chunks} (hq : IsRd I q s L) : Spec Tryz.prog 73 [.pointer (some ⟨q, 0, none⟩)] I L (fun v J L' => v = .int .i64 s.done ∧ I = J ∧ IsRd I q s L') := by
 cases hq with
 | @mk v hb hl =>
 obtain ⟨Av, cv, rfl, hcv, _, _⟩ := id hb
 refine Spec.of Tryz.func73 rfl Tryz.ntmps73 (Nat.le_of_ble_eq_true rfl) (fun F => ?_)
 try simp only [nf]
 dsimp only [argsEnv]
 refine WP.seq ?_; refine WP.region [0] rfl ?_; refine WP.mv rfl rfl ?_; refine WP.nil ?_; refine WP.next ?_; iterate 2 refine WP.seq ?_
 refine WP.region [0, 1, 2, 3, 4, 5, 6, 7, 8, 9, 10, 11, 12] rfl ?_; refine WP.mv rfl rfl ?_; refine WP.vl rfl (Yld.nilCheck rfl rfl) ?_; refine WP.vl rfl (Yld.fieldAddr rfl ty_fd_228_1 rfl) ?_; refine WP.vl rfl (Yld.ld (v := .int .i64 s.e) rfl ty_sc_27 rfl rfl) ?_; refine WP.split rfl rfl rfl rfl (Yld.eql rfl rfl rfl) (fun he => ?_) (fun he => ?_)
 ·refine WP.mv rfl rfl ?_
  refine WP.valG rfl rfl rfl rfl rfl rfl rfl (Yld.move rfl rfl) ?_; refine WP.valG rfl rfl rfl rfl rfl rfl rfl (Yld.nilCheck rfl rfl) ?_; refine WP.valG rfl rfl rfl rfl rfl rfl rfl (Yld.fieldAddr rfl ty_fd_228_0 rfl) ?_; refine WP.valG rfl rfl rfl rfl rfl rfl rfl (Yld.ld (v := .slice Av s.bs.length cv) rfl ty_sc_49 rfl rfl) ?_; refine WP.valG rfl rfl rfl rfl rfl rfl rfl (Yld.len rfl ty_sl_49 rfl) ?_; refine WP.splitG rfl rfl rfl rfl rfl rfl rfl (Yld.gtr rfl rfl rfl) (fun hlen => ?_) (fun hlen => ?_)
  ·refine WP.vl rfl (Yld.pickT rfl rfl rfl) ?_
   refine WP.nil ?_; refine WP.sub [(0, _), (2, _), (15, _)] ?_ ⟨rfl, rfl, rfl, trivial⟩
   refine WP.next ?_; refine WP.condT rfl ?_; refine WP.seq ?_; refine WP.region [0] rfl ?_; refine WP.mv rfl rfl ?_; refine WP.nil ?_; refine WP.next ?_; refine WP.ret ?_; refine WP.fn .ret (.inr rfl) (res1 rfl rfl) [(q, row 228 [(.slice Av s.bs.length cv), .int .i64 s.e])] (Imm.le_refl _) ?_; have e : s.done = 13 := if_pos ⟨he, by omega⟩
   rw [e]; exact ⟨rfl, rfl, .mk hb hl⟩
  ·refine WP.vl rfl (Yld.pickT rfl rfl rfl) ?_
   refine WP.nil ?_; refine WP.sub [(0, _), (2, _), (15, _)] ?_ ⟨rfl, rfl, rfl, trivial⟩
   refine WP.next ?_; refine WP.condF rfl ?_; refine WP.skip ?_; refine WP.next ?_; refine WP.seq ?_; refine WP.region [0, 1, 2, 3, 4] rfl ?_; refine WP.mv rfl rfl ?_; refine WP.vl rfl (Yld.nilCheck rfl rfl) ?_; refine WP.vl rfl (Yld.fieldAddr rfl ty_fd_228_1 rfl) ?_; refine WP.vl rfl (Yld.ld (v := .int .i64 s.e) rfl ty_sc_27 rfl rfl) ?_; refine WP.mv rfl rfl ?_; refine WP.nil ?_; refine WP.sub [(0, _), (2, _), (15, _)] ?_ ⟨rfl, rfl, rfl, trivial⟩
   refine WP.next ?_; refine WP.ret ?_; refine WP.fn .ret (.inr rfl) (res1 rfl rfl) [(q, row 228 [(.slice Av s.bs.length cv), .int .i64 s.e])] (Imm.le_refl _) ?_; have e : s.done = s.e := if_neg (fun h => by have h1 := h.1; have h2 := h.2; first | exact he h1 | omega)
   rw [e]; exact ⟨rfl, rfl, .mk hb hl⟩
 ·refine WP.mv rfl rfl ?_
  iterate 6 refine WP.passG rfl rfl rfl rfl rfl rfl rfl rfl ?_
  refine WP.vl rfl (Yld.pickF rfl rfl rfl) ?_; refine WP.nil ?_; refine WP.sub [(0, _), (2, _), (15, _)] ?_ ⟨rfl, rfl, rfl, trivial⟩
  refine WP.next ?_; refine WP.condF rfl ?_; refine WP.skip ?_; refine WP.next ?_; refine WP.seq ?_; refine WP.region [0, 1, 2, 3, 4] rfl ?_; refine WP.mv rfl rfl ?_; refine WP.vl rfl (Yld.nilCheck rfl rfl) ?_; refine WP.vl rfl (Yld.fieldAddr rfl ty_fd_228_1 rfl) ?_; refine WP.vl rfl (Yld.ld (v := .int .i64 s.e) rfl ty_sc_27 rfl rfl) ?_; refine WP.mv rfl rfl ?_; refine WP.nil ?_; refine WP.sub [(0, _), (2, _), (15, _)] ?_ ⟨rfl, rfl, rfl, trivial⟩
  refine WP.next ?_; refine WP.ret ?_; refine WP.fn .ret (.inr rfl) (res1 rfl rfl) [(q, row 228 [(.slice Av s.bs.length cv), .int .i64 s.e])] (Imm.le_refl _) ?_; have e : s.done = s.e := if_neg (fun h => by have h1 := h.1; have h2 := h.2; first | exact he h1 | omega)
  rw [e]; exact ⟨rfl, rfl, .mk hb hl⟩

theorem NodesOk.snoc {V : Nat → Obj → Prop} {nv : List (Bool × Value)} {l : List (Bool × List UInt8)} {c : Bool} {u : Value} {d : List UInt8} (h : NodesOk V nv l) (hd : SlRd V u d.length 1 (bytesV d)) : NodesOk V (nv ++ [(c, u)]) (l ++ [(c, d)]) := by
 have hl := h.len
 refine ⟨by rw [List.length_append, List.length_append, hl]; rfl, fun i x hx => ?_⟩
 by_cases hi : i < nv.length
 ·rw [List.getElem?_append_left hi] at hx
  obtain ⟨d', h1, h2⟩ := h.at_ i x hx
  exact ⟨d', by rw [List.getElem?_append_left (by omega)]; exact h1, h2⟩
 ·rw [List.getElem?_append_right (by omega)] at hx
  have h0 : i - nv.length = 0 := by
   rcases Nat.eq_zero_or_pos (i - nv.length) with h0 | h0
   ·exact h0
   ·rw [List.getElem?_eq_none (by simp; omega)] at hx; cases hx
  rw [h0] at hx
  cases hx
  exact ⟨d, by rw [List.getElem?_append_right (by omega), ← hl, h0]; rfl, hd⟩
theorem txn_DecodeCommit {I : Imm} {b : List UInt8} {vb : Value} (hb : SlRd (Im I) vb b.length 1 (bytesV b)) (hl : b.length ≤ 140737488355328) : Spec Tryz.prog 34 [vb] I [] (fun v J L => L = [] ∧ ((okC b ∧ v = .tuple #[.int .i64 ((rNum 1099511627776 ⟨b, 0⟩).1 : Int), .int .i64 0]) ∨ (¬ okC b ∧ v = .tuple #[.int .i64 0, .int .i64 120]))) := by
 obtain ⟨Ab, cb, rfl, _, _, _⟩ := id hb
 refine Spec.of Tryz.func34 rfl Tryz.ntmps34 (Nat.le_of_ble_eq_true rfl) (fun F => ?_)
 try simp only [nf]
 dsimp only [argsEnv]
 refine WP.seq ?_; refine WP.region [0, 1] rfl ?_; iterate 2 refine WP.mv rfl rfl ?_
 refine WP.nil ?_; refine WP.next ?_; refine WP.seq ?_; refine WP.region [0, 1, 2] rfl ?_; refine WP.mv rfl rfl ?_; refine WP.loud rfl rfl ?_; refine Op.cl (code_NewReader hb hl) rfl Tryz.func70 rfl rfl rfl rfl ?_; rintro v J1 L1 hJ1 ⟨q, rfl, hq⟩
 try simp only [nf]
 refine WP.mv rfl rfl ?_; refine WP.nil ?_; refine WP.sub [(0, _), (2, _), (3, _), (4, _)] ?_ ⟨rfl, rfl, rfl, rfl, trivial⟩
 refine WP.next ?_; refine WP.seq ?_; refine WP.region [0, 1, 2, 3] rfl ?_; refine WP.mv rfl rfl ?_; refine WP.loud rfl rfl ?_; refine Op.cl (code_RNum (most := 1099511627776) hq) rfl Tryz.func71 rfl rfl rfl rfl ?_; rintro v J L2 - ⟨rfl, rfl, hq⟩
 try simp only [nf]
 have hle := rNum_le 1099511627776 ⟨b, 0⟩
 refine WP.vl rfl (Yld.conv64 (a := (((rNum 1099511627776 ⟨b, 0⟩).1 : Nat) : Int)) rfl ty_un_40 ty_ik_3 rfl (by omega)) ?_; refine WP.mv rfl rfl ?_; refine WP.nil ?_; refine WP.sub [(0, _), (2, _), (3, _), (4, _), (5, _)] ?_ ⟨rfl, rfl, rfl, rfl, rfl, trivial⟩
 refine WP.next ?_; iterate 2 refine WP.seq ?_
 refine WP.region [0, 1, 2, 3, 4, 5, 6] rfl ?_; refine WP.mv rfl rfl ?_; refine WP.loud rfl rfl ?_; refine Op.cl (code_RDone hq) rfl Tryz.func73 rfl rfl rfl rfl ?_; rintro v J L3 - ⟨rfl, rfl, hq⟩
 try simp only [nf]
 refine WP.split rfl rfl rfl rfl (Yld.neq rfl rfl rfl) (fun hd => ?_) (fun hd => ?_)
 ·refine WP.mv rfl rfl ?_
  iterate 2 refine WP.passG rfl rfl rfl rfl rfl rfl rfl rfl ?_
  refine WP.vl rfl (Yld.pickT rfl rfl rfl) ?_; refine WP.nil ?_; refine WP.sub [(0, _), (2, _), (3, _), (4, _), (5, _), (17, _)] ?_ ⟨rfl, rfl, rfl, rfl, rfl, rfl, trivial⟩
  refine WP.next ?_; refine WP.condT rfl ?_; refine WP.seq ?_; refine WP.region [0, 1] rfl ?_; iterate 2 refine WP.mv rfl rfl ?_
  refine WP.nil ?_; refine WP.next ?_; refine WP.ret ?_; refine WP.fn .ret (.inr rfl) (res2 rfl rfl rfl) [] hJ1 ?_; exact ⟨rfl, .inr ⟨fun h => by have h1 := h.1; have h2 := h.2; first | exact hd h1 | omega, rfl⟩⟩
 ·refine WP.mv rfl rfl ?_
  refine WP.valG rfl rfl rfl rfl rfl rfl rfl (Yld.move rfl rfl) ?_; refine WP.splitG rfl rfl rfl rfl rfl rfl rfl (Yld.lss rfl rfl rfl) (fun h1 => ?_) (fun h1 => ?_)
  ·refine WP.vl rfl (Yld.pickF rfl rfl rfl) ?_
   refine WP.nil ?_; refine WP.sub [(0, _), (2, _), (3, _), (4, _), (5, _), (17, _)] ?_ ⟨rfl, rfl, rfl, rfl, rfl, rfl, trivial⟩
   refine WP.next ?_; refine WP.condT rfl ?_; refine WP.seq ?_; refine WP.region [0, 1] rfl ?_; iterate 2 refine WP.mv rfl rfl ?_
   refine WP.nil ?_; refine WP.next ?_; refine WP.ret ?_; refine WP.fn .ret (.inr rfl) (res2 rfl rfl rfl) [] hJ1 ?_; exact ⟨rfl, .inr ⟨fun h => by have h1 := h.1; have h2 := h.2; first | exact hd h1 | omega, rfl⟩⟩
  ·refine WP.vl rfl (Yld.pickF rfl rfl rfl) ?_
   refine WP.nil ?_; refine WP.sub [(0, _), (2, _), (3, _), (4, _), (5, _), (17, _)] ?_ ⟨rfl, rfl, rfl, rfl, rfl, rfl, trivial⟩
   refine WP.next ?_; refine WP.condF rfl ?_; refine WP.skip ?_; refine WP.next ?_; refine WP.seq ?_; refine WP.region [0, 1, 2] rfl ?_; iterate 3 refine WP.mv rfl rfl ?_
   refine WP.nil ?_; refine WP.sub [(0, _), (2, _), (3, _), (4, _), (5, _), (17, _)] ?_ ⟨rfl, rfl, rfl, rfl, rfl, rfl, trivial⟩
   refine WP.next ?_; refine WP.ret ?_; refine WP.fn .ret (.inr rfl) (res2 rfl rfl rfl) [] hJ1 ?_; exact ⟨rfl, .inl ⟨⟨by simpa using hd, by omega⟩, rfl⟩⟩

end Go.Hp
