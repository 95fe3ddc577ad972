/-
  Numbers of 32 bits and bytes, bit by bit.
-/
import Derived.Test.YtgcbhbcmohcdpaaGreatHpBytes
set_option linter.unusedVariables false
set_option linter.unusedSimpArgs false
namespace Go.Hp
open Go

theorem wrap_u32 (r : BitVec 32) : IntKind.u32.wrap (r.toNat : Int) = (r.toNat : Int) := by
  have := r.isLt
  simp [IntKind.wrap, IntKind.bits, IntKind.signed]
  omega
theorem wrap_u8 (r : BitVec 8) : IntKind.u8.wrap (r.toNat : Int) = (r.toNat : Int) := by
  have := r.isLt
  simp [IntKind.wrap, IntKind.bits, IntKind.signed]
  omega
theorem bv_ofInt {n : Nat} (x : BitVec n) : BitVec.ofInt n (x.toNat : Int) = x := by
  rw [BitVec.ofInt_natCast]; simp

section
variable {P : Program} {n : Nat} {E : Env} {V : Nat → Obj → Prop} {o : Oper}
theorem Yld.xor32 {X Y : Operand} {t t' : TypeId} (x y : BitVec 32) (hop : o.op = .binOp .xor t X Y t') (hx : E.ev X = some (.int .u32 (x.toNat : Int))) (hy : E.ev Y = some (.int .u32 (y.toNat : Int))) : Yld P n E V o (.int .u32 ((x ^^^ y).toNat : Int)) :=
  Yld.arith hop hx hy fun W => by
    simp only [binOp, Op.intBits, IntKind.bits, bv_ofInt]
    simp only [wrap_u32, ne_eq, not_true_eq_false, if_false, Sem.run_pure]
    rfl
theorem Yld.and32 {X Y : Operand} {t t' : TypeId} (x y : BitVec 32) (hop : o.op = .binOp .and t X Y t') (hx : E.ev X = some (.int .u32 (x.toNat : Int))) (hy : E.ev Y = some (.int .u32 (y.toNat : Int))) : Yld P n E V o (.int .u32 ((x &&& y).toNat : Int)) :=
  Yld.arith hop hx hy fun W => by
    simp only [binOp, Op.intBits, IntKind.bits, bv_ofInt]
    simp only [wrap_u32, ne_eq, not_true_eq_false, if_false, Sem.run_pure]
    rfl
theorem Yld.not32 {X : Operand} {t : TypeId} (x : BitVec 32) (hop : o.op = .unOp .xor t X) (hx : E.ev X = some (.int .u32 (x.toNat : Int))) : Yld P n E V o (.int .u32 ((~~~x).toNat : Int)) := fun a W ha _ => by
  have e : BitVec.ofInt 32 (4294967295 : Int) ^^^ x = ~~~x := by
    have : BitVec.ofInt 32 (4294967295 : Int) = BitVec.allOnes 32 := by decide
    rw [this, BitVec.allOnes_xor]
  have h : (Op.unary .xor (.int .u32 (x.toNat : Int))).run P W = .ok (.int .u32 ((~~~x).toNat : Int)) W := by
    show (Op.intBits .xor .u32 4294967295 (x.toNat : Int)).run P W = _
    simp only [Op.intBits, IntKind.bits, bv_ofInt, wrap_u32, Sem.run_pure]
    exact congrArg (fun z : BitVec 32 => Result.ok (Value.int .u32 (z.toNat : Int)) W) e
  simp [execOp, hop, ha.ev hx, h]
theorem Yld.shr32 {X Y : Operand} {t t' : TypeId} {yk : IntKind} (x : BitVec 32) (k : Nat) (hop : o.op = .binOp .shr t X Y t') (hx : E.ev X = some (.int .u32 (x.toNat : Int))) (hy : E.ev Y = some (.int yk (k : Int))) (hk : k < 32) : Yld P n E V o (.int .u32 ((x >>> k).toNat : Int)) := fun a W ha _ => by
  have h : (binOp .shr t (.int .u32 (x.toNat : Int)) (.int yk (k : Int))).run P W = .ok (.int .u32 ((x >>> k).toNat : Int)) W := by
    have h0 : ¬ ((k : Int) < 0) := by omega
    have h1 : min k IntKind.u32.bits = k := by simp [IntKind.bits]; omega
    simp only [binOp, Op.shift, h0, if_false, Int.toNat_natCast, h1, Sem.run_pure]
    rw [BitVec.toNat_ushiftRight, Nat.shiftRight_eq_div_pow, Int.fdiv_eq_ediv_of_nonneg _ (by exact Int.le_of_lt (Int.pow_pos (by decide)))]
    simp
  simp [execOp, hop, ha.ev hx, ha.ev hy, eqGuard_int, h]
/-- A byte as 32 bits; the lowest byte of 32 bits; a length as 32 bits; 32 bits as a number. -/
theorem Yld.conv8_32 {X : Operand} {s d : TypeId} (c : UInt8) (hop : o.op = .convert s d X) (hs : (P.underlying s).isSome = true) (hd : P.underlying d = some (.int .u32)) (hx : E.ev X = some (.int .u8 (c.toNat : Int))) : Yld P n E V o (.int .u32 ((c.toBitVec.setWidth 32).toNat : Int)) := by
  have := Yld.conv (P := P) (n := n) (V := V) hop hs hd hx
  rwa [show IntKind.u32.wrap (c.toNat : Int) = ((c.toBitVec.setWidth 32).toNat : Int) from by
    have h := c.toNat_lt
    rw [BitVec.toNat_setWidth]
    simp [IntKind.wrap, IntKind.bits, IntKind.signed]
    omega] at this
theorem Yld.conv64_32 {X : Operand} {s d : TypeId} (m : Nat) (hop : o.op = .convert s d X) (hs : (P.underlying s).isSome = true) (hd : P.underlying d = some (.int .u32)) (hx : E.ev X = some (.int .i64 (m : Int))) : Yld P n E V o (.int .u32 ((BitVec.ofNat 32 m).toNat : Int)) := by
  have := Yld.conv (P := P) (n := n) (V := V) hop hs hd hx
  rwa [show IntKind.u32.wrap (m : Int) = ((BitVec.ofNat 32 m).toNat : Int) from by
    rw [BitVec.toNat_ofNat]
    simp [IntKind.wrap, IntKind.bits, IntKind.signed]] at this
theorem Yld.conv32_64 {X : Operand} {s d : TypeId} (x : BitVec 32) (hop : o.op = .convert s d X) (hs : (P.underlying s).isSome = true) (hd : P.underlying d = some (.int .i64)) (hx : E.ev X = some (.int .u32 (x.toNat : Int))) : Yld P n E V o (.int .i64 (x.toNat : Int)) := by
  have := Yld.conv (P := P) (n := n) (V := V) hop hs hd hx
  have h := x.isLt
  rwa [wrap64_id (by omega)] at this
end
end Go.Hp
namespace Go.Hp
open Go
section
variable {P : Program} {n : Nat} {E : Env} {I : Imm} {L : Chunks} {Q : Exit → Act → World → Prop} {K : Act → World → Prop} {o : Oper}
/-- append of so many noughts to nil. -/
theorem Op.appendZ {t t2 e sz bytes d m : Nat} {x y : Operand} {z : Value} {k2 : IntKind} (hop : o.op = .call { callee := .builtin .append, args := #[x, y], argTypes := #[t, t2] }) (ht : sliceTy P t e sz = true) (ht2 : P.underlying t2 = some (.int k2)) (hi : ∃ i, P.info? e = some i ∧ i.zero = some z ∧ i.bytes = bytes) (hz : z.cells.size = sz)
    (hd : o.dst = some d) (hlt : Nat.blt d n = true) (hx : E.ev x = some (.slice none 0 0)) (hy : E.ev y = some (.int .i64 (m : Int))) (hm : 0 < m) (hsz : 0 < sz) (hb : m * bytes ≤ 140737488355328) (h63 : m ≤ 9223372036854775807)
    (h : ∀ b cap cs, m ≤ cap → cs.length = cap * sz → WP n K ((d, .slice (some ⟨b, 0, none⟩) m cap) :: E) I ((b, row e cs) :: L)) : WP n (fun a w => o.wp P a w K Q) E I L := .mk fun a W ha hW => by
  obtain ⟨i, hi, hz', hby⟩ := hi
  obtain ⟨htu, hsz'⟩ := sliceTy_run ht
  have hsz2 : i.size = sz := size_of_slice ht hi
  subst hsz2
  have hn : ¬ (m ≤ 0) := by omega
  have hw : IntKind.i64.wrap (m : Int) = (m : Int) := wrap64_id (by omega)
  have h0 : ¬ ((m : Int) < 0) := by omega
  have hbb : ¬ (281474976710656 < (m : Int) * (i.bytes : Int)) := by rw [hby, ← Int.natCast_mul]; omega
  have h63' : ¬ (9223372036854775807 < (m : Int)) := by omega
  have h48' : ¬ (281474976710656 < Builtin.nextslicecap m 0 * i.bytes) := by
    have := growslice_fits (need := m) (old := 0) (bytes := i.bytes) (by omega) (by rw [hby]; exact hb)
    omega
  have hge : m ≤ grownCap W m 0 e := by simp [grownCap, Question.cut]
  have hms : ¬ (m * i.size = 0) := by
    have := Nat.mul_pos hm hsz; omega
  have hzc : ((Builtin.zeroCells z.cells m) ++ (Builtin.zeroCells z.cells (grownCap W m 0 e - m))).toList.length = grownCap W m 0 e * i.size := by
    simp [Builtin.zeroCells, hz]
    rw [← Nat.add_mul]; congr 1; omega
  have hrun : (execOp a.eval o).run P W = .ok (.value (.slice (some ⟨W.heap.size, 0, none⟩) m (grownCap W m 0 e))) (W.drew.alloc (row e ((Builtin.zeroCells z.cells m) ++ (Builtin.zeroCells z.cells (grownCap W m 0 e - m))).toList)) := by
    simp [execOp, hop, resolve, invoke, builtin, ha.ev hx, ha.ev hy, Builtin.append_, run_underlying htu, run_underlying ht2, sizeOf, typeInfo, zeroValue, hi, hz', Builtin.lenOf, hn, h63', h48', hbb, h0, hw, asInt, asIntOf, Question.forced, Builtin.firstCells, newRow, grownCap, row, hms]
    rw [if_neg (by omega), ← Array.toList_append]
  show Oper.upon P o a _ _ _
  rw [hrun]
  simp only [Oper.upon, hd]
  have : Has I ((W.drew.heap.size, _) :: L) (W.drew.alloc _) := (Has.alloc (W := W.drew) hW.drew (row e ((Builtin.zeroCells z.cells m) ++ (Builtin.zeroCells z.cells (grownCap W m 0 e - m))).toList))
  exact (h _ _ _ hge hzc).out _ _ (ha.put hlt _) this
theorem Yld.cap {x : Operand} {t e sz m c : Nat} {A : Option Addr} {V : Nat → Obj → Prop} (hop : o.op = .call { callee := .builtin .cap, args := #[x], argTypes := #[t] }) (ht : sliceTy P t e sz = true) (hx : E.ev x = some (.slice A m c)) : Yld P n E V o (.int .i64 (c : Int)) := fun a W ha _ => by
  simp [execOp, hop, resolve, invoke, builtin, ha.ev hx, Builtin.cap_, goInt, run_underlying (sliceTy_run ht).1]
end
end Go.Hp
namespace Go.Hp
open Go
section
variable {P : Program} {n : Nat} {E : Env} {I : Imm} {L L' : Chunks} {Q : Exit → Act → World → Prop} {K : Act → World → Prop} {o : Oper}
/-- Bytes that come of a string that stands in the text: from then on they are read alone. -/
theorem Op.mark {t e d b m c T : Nat} {x : Operand} {cs : List Value} (hop : o.op = .convert t t x) (ht : P.underlying t = some (.slice e)) (he : P.underlying e = some (.int .u8)) (hd : o.dst = some d) (hlt : Nat.blt d n = true)
    (hx : E.ev x = some (.slice (some ⟨b, 0, none⟩) m c)) (hr : Rm L [(b, row T cs)] L') (h : ∀ J : Imm, I.le J → (∃ fr, J.blk b = some (.cells cs.toArray T fr)) → WP n K ((d, .slice (some ⟨b, 0, none⟩) m c) :: E) J L') : WP n (fun a w => o.wp P a w K Q) E I L := .mk fun a W ha hW => by
  have hW1 : Has I ((b, row T cs) :: L') W := hW.perm hr.perm
  have hb := hW1.own _ (List.mem_cons_self)
  have hsh : W.heap[b]? = some (.cells cs.toArray T (0, 0)) := hb
  have hs2 : W.shape? b = some (T, cs.length) := by simp [World.shape?, hsh]
  have hrun : (execOp a.eval o).run P W = .ok (.value (.slice (some ⟨b, 0, none⟩) m c)) (W.freeze ⟨b, cs.length, none⟩ 1) := by
    simp [execOp, hop, ha.ev hx, convert, run_underlying ht, run_underlying he, markStringish, hs2]
  show Oper.upon P o a _ _ _
  rw [hrun]
  simp only [Oper.upon, hd]
  have hnew : (W.freeze ⟨b, cs.length, none⟩ 1).heap[b]? = some (.cells cs.toArray T (cs.length, cs.length + 1)) := by
    show (W.heap.modify b _)[b]? = _
    rw [Array.getElem?_modify, if_pos rfl, hsh]; rfl
  have hoth : ∀ k, k ≠ b → (W.freeze ⟨b, cs.length, none⟩ 1).heap[k]? = W.heap[k]? := fun k hk => by
    show (W.heap.modify b _)[k]? = _
    rw [Array.getElem?_modify, if_neg (Ne.symm hk)]
  have hW2 : Has I ((b, .cells cs.toArray T (cs.length, cs.length + 1)) :: L') (W.freeze ⟨b, cs.length, none⟩ 1) := hW1.upd .head rfl rfl rfl hnew hoth
  obtain ⟨J, hJ, hJb, hW3⟩ := hW2.share
  exact (h J hJ ⟨_, hJb⟩).out _ _ (ha.put hlt _) hW3
end
theorem Im_lit' {I : Imm} {b T c : Nat} {l : List UInt8} (h : ∃ fr, I.blk b = some (.cells (bytesV l).toArray T fr)) (hc : l.length ≤ c) : SlRd (fun b o => I.blk b = some o) (.slice (some ⟨b, 0, none⟩) l.length c) l.length 1 (bytesV l) := by
  obtain ⟨fr, h⟩ := h
  exact ⟨_, _, rfl, hc, by rw [bytesV_len, Nat.mul_one], .inr ⟨b, 0, T, fr, (bytesV l).toArray, rfl, h, by simp⟩⟩
end Go.Hp
namespace Go.Hp
open Go
/-- A slice of one's own that is only read from now on. -/
theorem WP.shareOwn {n : Nat} {K : Act → World → Prop} {E : Env} {I : Imm} {L L1 Lo : Chunks} {T sz m : Nat} {v : Value} {xs : List Value} (ho : Own T sz v xs m Lo) (hr : Take L (Lo ++ []) L1) (h : ∀ J : Imm, I.le J → SlRd (fun b o => J.blk b = some o) v m sz xs → WP n K E J L1) : WP n K E I L := by
  cases ho with
  | none0 => exact WP.perm _ hr.perm (by simpa using h I (Imm.le_refl I) ⟨none, 0, rfl, Nat.le_refl _, by simp, .inl rfl⟩)
  | @blk b cap _ _ sp h1 h2 h3 =>
    refine WP.perm _ hr.perm ?_; simp only [List.append_nil, List.cons_append, List.nil_append]
    refine WP.share (fun J hJ hb => h J hJ ⟨_, _, rfl, h3, h1, .inr ⟨b, 0, T, (0, 0), (xs ++ sp).toArray, rfl, hb, by simp⟩⟩)
end Go.Hp
namespace Go.Hp
open Go
end Go.Hp
