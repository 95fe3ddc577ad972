/-
  append to bytes of which one reads alone, without room behind them: what comes out is one's own.
-/
import Derived.Test.YtilgaelpbgfnnaaGreatHpMore
import Derived.Test.YtilgaelpbgfnnaaGreatHpBits
set_option linter.unusedVariables false
set_option linter.unusedSimpArgs false
namespace Go.Hp
open Go
section
variable {P : Program} {n : Nat} {E : Env} {I : Imm} {L : Chunks} {Q : Exit → Act → World → Prop} {K : Act → World → Prop} {o : Oper}
theorem Op.appendFull {t e sz bytes d : Nat} {x y : Operand} {z : Value} {v u : Value} {ln m : Nat} {xs cs : List Value} (hop : o.op = .call { callee := .builtin .append, args := #[x, y], argTypes := #[t, t] }) (ht : sliceTy P t e sz = true) (hi : ∃ i, P.info? e = some i ∧ i.zero = some z ∧ i.bytes = bytes) (hz : z.cells.size = sz)
    (hd : o.dst = some d) (hlt : Nat.blt d n = true) (hx : E.ev x = some v) (hy : E.ev y = some u) (hs : SlRd (There I L) v ln sz xs) (hv : ∃ A, v = .slice A ln ln) (hm : 0 < m) (hr : SlRd (There I L) u m sz cs) (hb : (ln + m) * bytes ≤ 140737488355328) (h63 : ln + m ≤ 9223372036854775807)
    (h : ∀ v' Lo', Own e sz v' (xs ++ cs) (ln + m) Lo' → WP n K ((d, v') :: E) I (Lo' ++ L)) : WP n (fun a w => o.wp P a w K Q) E I L := .mk fun a W ha hW => by
  obtain ⟨i, hi, hz', hby⟩ := hi
  obtain ⟨htu, hsz⟩ := sliceTy_run ht
  have hsz' : i.size = sz := size_of_slice ht hi
  subst hsz'
  have hV : Keeps (There I L) W := fun b o h => h.heap hW
  have hcl : cs.length = m * i.size := by obtain ⟨_, _, _, _, h, _⟩ := hr; exact h
  have hxl : xs.length = ln * i.size := by obtain ⟨_, _, _, _, h, _⟩ := hs; exact h
  have hfd := hr.first (P := P) (W := W.drew) hV m (Nat.le_refl _)
  rw [List.take_of_length_le (by omega)] at hfd
  have hfo := hs.first (P := P) (W := W.drew) hV ln (Nat.le_refl _)
  rw [List.take_of_length_le (by omega)] at hfo
  obtain ⟨A, c, rfl⟩ := hr.slice
  obtain ⟨B, rfl⟩ := hv
  have hn : ¬ (ln + m ≤ ln) := by omega
  have h63' : ¬ (9223372036854775807 < ((ln : Int) + (m : Int))) := by omega
  have h48' : ¬ (281474976710656 < Builtin.nextslicecap (ln + m) ln * i.bytes) := by
    have := growslice_fits (need := ln + m) (old := ln) (bytes := i.bytes) (by omega) (by rw [hby]; exact hb)
    omega
  have hge : ln + m ≤ grownCap W (ln + m) ln e := by simp [grownCap, Question.cut]
  have hzc : (Builtin.zeroCells z.cells (grownCap W (ln + m) ln e - (ln + m))).size = (grownCap W (ln + m) ln e - (ln + m)) * i.size := by simp [Builtin.zeroCells, hz]
  have hrun : (execOp a.eval o).run P W = .ok (.value (.slice (some ⟨W.heap.size, 0, none⟩) (ln + m) (grownCap W (ln + m) ln e))) (W.drew.alloc (row e (xs ++ cs ++ (Builtin.zeroCells z.cells (grownCap W (ln + m) ln e - (ln + m))).toList))) := by
    simp only [execOp, hop, resolve, invoke, builtin, Sem.run_bind, Sem.run_pure, Result.andThen_ok, List.map_toArray, List.map_cons, List.map_nil, ha.ev hx, ha.ev hy]
    simp [Builtin.append_, run_underlying htu, sizeOf, typeInfo, zeroValue, hi, hz', Builtin.lenOf, hn, h63', h48', Question.forced, hfd, hfo, newRow, grownCap, row]
    try (congr 2)
    try (apply Array.ext'; simp)
  show Oper.upon P o a _ _ _
  rw [hrun]
  simp only [Oper.upon, hd]
  have hal : Has I ((W.drew.heap.size, _) :: L) (W.drew.alloc _) := (Has.alloc (W := W.drew) hW.drew (row e (xs ++ cs ++ (Builtin.zeroCells z.cells (grownCap W (ln + m) ln e - (ln + m))).toList)))
  exact (h _ [(W.heap.size, row e (xs ++ cs ++ (Builtin.zeroCells z.cells (grownCap W (ln + m) ln e - (ln + m))).toList))] (.blk (by simp [hxl, hcl, Nat.add_mul]) (by
    simp only [List.length_append, hxl, hcl, Array.length_toList, hzc]
    rw [← Nat.add_mul, ← Nat.add_mul]
    congr 1
    omega) hge)).out _ _ (ha.put hlt _) hal
/-- Bytes of one's own, or bytes that are read alone and have no room behind them. -/
def Fr (e : Nat) (I : Imm) (v : Value) (bs : List UInt8) (Lo : Chunks) : Prop :=
  Own e 1 v (bytesV bs) bs.length Lo ∨ (Lo = [] ∧ SlRd (fun b o => I.blk b = some o) v bs.length 1 (bytesV bs) ∧ ∃ A, v = .slice A bs.length bs.length)
theorem Op.appendFr {t e bytes d : Nat} {x y : Operand} {z : Value} {v u : Value} {m : Nat} {bs cs : List UInt8} {Lo F : Chunks} (hop : o.op = .call { callee := .builtin .append, args := #[x, y], argTypes := #[t, t] }) (ht : sliceTy P t e 1 = true) (hi : ∃ i, P.info? e = some i ∧ i.zero = some z ∧ i.bytes = bytes) (hz : z.cells.size = 1)
    (hd : o.dst = some d) (hlt : Nat.blt d n = true) (hx : E.ev x = some v) (hy : E.ev y = some u) (ho : Fr e I v bs Lo) (hr : SlRd (There I L) u m 1 (bytesV cs)) (hm : 0 < m) (hp : Take L (Lo ++ []) F) (hb : (bs.length + m) * bytes ≤ 140737488355328) (h63 : bs.length + m ≤ 9223372036854775807)
    (h : ∀ v' Lo', Own e 1 v' (bytesV (bs ++ cs)) (bs ++ cs).length Lo' → WP n K ((d, v') :: E) I (Lo' ++ F)) : WP n (fun a w => o.wp P a w K Q) E I L := by
  have hcl : cs.length = m := by have := hr.len; rw [bytesV_len] at this; omega
  have h2 : ∀ v' Lo', Own e 1 v' (bytesV bs ++ bytesV cs) (bs.length + m) Lo' → WP n K ((d, v') :: E) I (Lo' ++ F) := fun v' Lo' ho' => h v' Lo' (by rw [bytesV_app, List.length_append, hcl]; exact ho')
  rcases ho with ho | ⟨rfl, hs, hv⟩
  · exact Op.append hop ht hi hz hd hlt hx hy ho hr hp (bytesV_one _) hb h63 h2
  · exact Op.appendFull hop ht hi hz hd hlt hx hy (hs.mono (fun b o h => There.i h)) hv hm hr hb h63 (fun v' Lo' ho' => (h2 v' Lo' ho').perm _ (by
      have := hp.perm
      simpa using this.append_left Lo'))
end
end Go.Hp
namespace Go.Hp
open Go
theorem eqIn_slNil {P : Program} (w : World) (d : Nat) (t e : TypeId) (a : Option Addr) (l c : Nat) (h : P.underlying t = some (.slice e)) : (Op.equalIn (d + 1) t (.slice a l c) (.slice none 0 0)).run P w = .ok a.isNone w := by
  cases a <;> simp [Op.equalIn, run_underlying h]
/-- A slice held against nil. -/
theorem Yld.eqlSlNil {P : Program} {n : Nat} {E : Env} {V : Nat → Obj → Prop} {o : Oper} {x y : Operand} {t t' e sz : TypeId} {a : Option Addr} {l c : Nat} (hop : o.op = .binOp .eql t x y t') (ht : sliceTy P t e sz = true) (hx : E.ev x = some (.slice a l c)) (hy : E.ev y = some (.slice none 0 0)) : Yld P n E V o (.bool a.isNone) := fun A W he _ => by
  have hu := (sliceTy_run ht).1
  have h : (Op.equal t (.slice a l c) (.slice none 0 0)).run P W = .ok a.isNone W := eqIn_slNil W 9999 t e a l c hu
  simp [execOp, hop, he.ev hx, he.ev hy, eqGuard, binOp, h]
end Go.Hp
namespace Go.Hp
open Go
/-- A part of a slice from its beginning on, with no room behind it. -/
theorem Yld.slice3 {P : Program} {n : Nat} {E : Env} {V : Nat → Obj → Prop} {o : Oper} {x y z : Operand} {t e sz len cap h : Nat} {k1 k2 : IntKind} {A : Option Addr} (hop : o.op = .slice t x none (some y) (some z)) (ht : sliceTy P t e sz = true) (hx : E.ev x = some (.slice A len cap)) (hy : E.ev y = some (.int k1 (h : Int))) (hz : E.ev z = some (.int k2 (h : Int))) (h2 : h ≤ cap) :
    Yld P n E V o (subSl sz 0 h (.slice A len h)) := fun a W ha _ => by
  have g : ∀ (k : IntKind) (z y : Nat) (code : BoundsCode), z ≤ y → (Instr.sliceBound (.int k (z : Int)) y code).run P W = .ok z W := by
    intro k z y code hzy
    have : (0 : Int) ≤ (z : Int) ∧ (z : Int) ≤ (y : Int) := ⟨by omega, by omega⟩
    simp [Instr.sliceBound, asIntOf, this]
  obtain ⟨h3, h4⟩ := sliceTy_run ht
  by_cases hc : h = 0
  · subst hc
    have g0 : ∀ (k : IntKind) (y : Nat) (code : BoundsCode), (Instr.sliceBound (.int k 0) y code).run P W = .ok 0 W := fun k y code => g k 0 y code (Nat.zero_le _)
    simp [execOp, hop, ha.ev hx, ha.ev hy, ha.ev hz, Instr.sliceAt, Instr.slice, run_underlying h3, h4, subSl, Instr.sliceBounds, g0]
  · simp [execOp, hop, ha.ev hx, ha.ev hy, ha.ev hz, Instr.sliceAt, Instr.slice, run_underlying h3, h4, subSl, Instr.sliceBounds, g _ _ _ _ h2, g _ _ _ _ (Nat.le_refl h), hc]
theorem SlRd.sub3 {V : Nat → Obj → Prop} {A : Option Addr} {m c sz h : Nat} {cs : List Value} (hv : SlRd V (.slice A m c) m sz cs) (h2 : h ≤ m) : SlRd V (subSl sz 0 h (.slice A m h)) h sz (cs.take (h * sz)) := by
  obtain ⟨A', c', e, hc, hl, h3⟩ := hv
  cases e
  have e1 : h * sz ≤ m * sz := Nat.mul_le_mul_right _ h2
  have hl' : (cs.take (h * sz)).length = h * sz := by rw [List.length_take, hl]; exact Nat.min_eq_left e1
  refine ⟨_, _, rfl, Nat.le_refl _, hl', ?_⟩
  by_cases hz : h = 0
  · exact .inl hz
  · rcases h3 with rfl | ⟨b, k, T, fr, arr, rfl, hb, hcs⟩
    · omega
    · right
      refine ⟨b, k, T, fr, arr, ?_, hb, ?_⟩
      · rw [if_neg hz]; show some (Addr.add _ _) = _; rw [add_at]; simp
      · rw [hl', ← hcs, List.take_take, hl]
        congr 1; omega
end Go.Hp
