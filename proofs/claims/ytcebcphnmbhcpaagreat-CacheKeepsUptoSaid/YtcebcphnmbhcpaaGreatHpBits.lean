/-
  Numbers of 32 bits and bytes, bit by bit.
-/
import Derived.Test.YtcebcphnmbhcpaaGreatHpBytes
set_option linter.unusedVariables false
set_option linter.unusedSimpArgs false
namespace Go.Hp
open Go

theorem wrap_u8 (r : BitVec 8) : IntKind.u8.wrap (r.toNat : Int) = (r.toNat : Int) := by
  have := r.isLt
  simp [IntKind.wrap, IntKind.bits, IntKind.signed]
  omega
theorem bv_ofInt {n : Nat} (x : BitVec n) : BitVec.ofInt n (x.toNat : Int) = x := by
  rw [BitVec.ofInt_natCast]; simp

section
variable {P : Program} {n : Nat} {E : Env} {V : Nat → Obj → Prop} {o : Oper}
end
end Go.Hp
namespace Go.Hp
open Go
section
variable {P : Program} {n : Nat} {E : Env} {I : Imm} {L : Chunks} {Q : Exit → Act → World → Prop} {K : Act → World → Prop} {o : Oper}
theorem Yld.cap {x : Operand} {t e sz m c : Nat} {A : Option Addr} {V : Nat → Obj → Prop} (hop : o.op = .call { callee := .builtin .cap, args := #[x], argTypes := #[t] }) (ht : sliceTy P t e sz = true) (hx : E.ev x = some (.slice A m c)) : Yld P n E V o (.int .i64 (c : Int)) := fun a W ha _ => by
  simp [execOp, hop, resolve, invoke, builtin, ha.ev hx, Builtin.cap_, goInt, run_underlying (sliceTy_run ht).1]
end
end Go.Hp
namespace Go.Hp
open Go
section
variable {P : Program} {n : Nat} {E : Env} {I : Imm} {L L' : Chunks} {Q : Exit → Act → World → Prop} {K : Act → World → Prop} {o : Oper}
/-- Bytes that come of a string that stands in the text: from then on they are read alone. -/
theorem Op.mark {t e d b m c T : Nat} {x : Operand} {cs : List Value} (hop : o.op = .convert t t x) (ht : P.underlying t = some (.slice e)) (he : P.underlying e = some (.int .u8)) (hd : o.dst = some d) (hlt : Nat.blt d n = true)
    (hx : E.ev x = some (.slice (some ⟨b, 0, none⟩) m c)) (hr : Rm L [(b, row T cs)] L') (h : ∀ J : Imm, I.le J → (∃ fr, J.blk b = some (.cells cs.toArray T fr)) → WP n K ((d, .slice (some ⟨b, 0, none⟩) m c) :: E) J L') : WP n (fun a w => o.wp P a w K Q) E I L := .mk fun a W ha hW => by
  have hW1 : Has I ((b, row T cs) :: L') W := hW.perm hr.perm
  have hb := hW1.own _ (List.mem_cons_self)
  have hsh : W.heap[b]? = some (.cells cs.toArray T (0, 0)) := hb
  have hs2 : W.shape? b = some (T, cs.length) := by simp [World.shape?, hsh]
  have hrun : (execOp a.eval o).run P W = .ok (.value (.slice (some ⟨b, 0, none⟩) m c)) (W.freeze ⟨b, cs.length, none⟩ 1) := by
    simp [execOp, hop, ha.ev hx, convert, run_underlying ht, run_underlying he, markStringish, hs2]
  show Oper.upon P o a _ _ _
  rw [hrun]
  simp only [Oper.upon, hd]
  have hnew : (W.freeze ⟨b, cs.length, none⟩ 1).heap[b]? = some (.cells cs.toArray T (cs.length, cs.length + 1)) := by
    show (W.heap.modify b _)[b]? = _
    rw [Array.getElem?_modify, if_pos rfl, hsh]; rfl
  have hoth : ∀ k, k ≠ b → (W.freeze ⟨b, cs.length, none⟩ 1).heap[k]? = W.heap[k]? := fun k hk => by
    show (W.heap.modify b _)[k]? = _
    rw [Array.getElem?_modify, if_neg (Ne.symm hk)]
  have hW2 : Has I ((b, .cells cs.toArray T (cs.length, cs.length + 1)) :: L') (W.freeze ⟨b, cs.length, none⟩ 1) := hW1.upd .head rfl rfl rfl hnew hoth
  obtain ⟨J, hJ, hJb, hW3⟩ := hW2.share
  exact (h J hJ ⟨_, hJb⟩).out _ _ (ha.put hlt _) hW3
end
theorem Im_lit' {I : Imm} {b T c : Nat} {l : List UInt8} (h : ∃ fr, I.blk b = some (.cells (bytesV l).toArray T fr)) (hc : l.length ≤ c) : SlRd (fun b o => I.blk b = some o) (.slice (some ⟨b, 0, none⟩) l.length c) l.length 1 (bytesV l) := by
  obtain ⟨fr, h⟩ := h
  exact ⟨_, _, rfl, hc, by rw [bytesV_len, Nat.mul_one], .inr ⟨b, 0, T, fr, (bytesV l).toArray, rfl, h, by simp⟩⟩
end Go.Hp
namespace Go.Hp
open Go
/-- A slice of one's own that is only read from now on. -/
theorem WP.shareOwn {n : Nat} {K : Act → World → Prop} {E : Env} {I : Imm} {L L1 Lo : Chunks} {T sz m : Nat} {v : Value} {xs : List Value} (ho : Own T sz v xs m Lo) (hr : Take L (Lo ++ []) L1) (h : ∀ J : Imm, I.le J → SlRd (fun b o => J.blk b = some o) v m sz xs → WP n K E J L1) : WP n K E I L := by
  cases ho with
  | none0 => exact WP.perm _ hr.perm (by simpa using h I (Imm.le_refl I) ⟨none, 0, rfl, Nat.le_refl _, by simp, .inl rfl⟩)
  | @blk b cap _ _ sp h1 h2 h3 =>
    refine WP.perm _ hr.perm ?_; simp only [List.append_nil, List.cons_append, List.nil_append]
    refine WP.share (fun J hJ hb => h J hJ ⟨_, _, rfl, h3, h1, .inr ⟨b, 0, T, (0, 0), (xs ++ sp).toArray, rfl, hb, by simp⟩⟩)
end Go.Hp
namespace Go.Hp
open Go
end Go.Hp
