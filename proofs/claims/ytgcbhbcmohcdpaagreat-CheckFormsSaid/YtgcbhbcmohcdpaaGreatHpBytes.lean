/-
  Bytes: parts of slices, copy, clear, letters of a slice; what is lent to a call for reading.
-/
import Derived.Test.YtgcbhbcmohcdpaaGreatHpList
import Derived.Laws.BytesArg
set_option linter.unusedVariables false
set_option linter.unusedSimpArgs false
namespace Go.Hp
open Go

def byteV (a : UInt8) : Value := .int .u8 (a.toNat : Int)
def bytesV (l : List UInt8) : List Value := l.map byteV
theorem bytesV_len (l : List UInt8) : (bytesV l).length = l.length := List.length_map _
theorem bytesV_one (l : List UInt8) : (bytesV l).all (·.oneCell') = true := by
  simp [bytesV, List.all_eq_true, byteV, Value.oneCell']
theorem bytesV_app (l m : List UInt8) : bytesV (l ++ m) = bytesV l ++ bytesV m := List.map_append
theorem bytesV_take (l : List UInt8) (n : Nat) : (bytesV l).take n = bytesV (l.take n) := (List.map_take).symm
theorem bytesV_drop (l : List UInt8) (n : Nat) : (bytesV l).drop n = bytesV (l.drop n) := (List.map_drop).symm

/-- The elements of a slice lie in the block b from k on. -/
def SlAt (v : Value) (b k m : Nat) : Prop := ∃ A c, v = .slice A m c ∧ m ≤ c ∧ (m = 0 ∨ A = some ⟨b, k, none⟩)
/-- A part of a slice. -/
def subSl (sz l h : Nat) : Value → Value
  | .slice a _ cap => .slice (if cap = l then a else a.map (·.add (l * sz))) (h - l) (cap - l)
  | v => v
def Env.lim (E : Env) : Option Operand → Nat → Nat → Prop
  | none, d, n => n = d
  | some x, _, n => ∃ k, E.ev x = some (.int k (n : Int))
theorem Env.lim0 {E : Env} {d : Nat} : E.lim none d d := rfl
theorem Env.limS {E : Env} {x : Operand} {d n : Nat} {k : IntKind} (h : E.ev x = some (.int k (n : Int))) : E.lim (some x) d n := ⟨k, h⟩

theorem SlAt.blk {b n c : Nat} (h : n ≤ c) : SlAt (.slice (some ⟨b, 0, none⟩) n c) b 0 n := ⟨_, _, rfl, h, .inr rfl⟩
theorem SlAt.arr {b k n : Nat} : SlAt (.slice (some ⟨b, k, none⟩) n n) b k n := ⟨_, _, rfl, Nat.le_refl _, .inr rfl⟩
theorem SlAt.sub {v : Value} {b k m sz l h : Nat} (hv : SlAt v b k m) (h1 : l ≤ h) (h2 : h ≤ m) : SlAt (subSl sz l h v) b (k + l * sz) (h - l) := by
  obtain ⟨A, c, rfl, hc, h3⟩ := hv
  refine ⟨_, _, rfl, by omega, ?_⟩
  by_cases hz : h - l = 0
  · exact .inl hz
  · right
    rcases h3 with rfl | rfl
    · omega
    · rw [if_neg (by omega)]; simp [add_at]
theorem SlAt.rd {v : Value} {b k m sz T : Nat} {cs : List Value} {V : Nat → Obj → Prop} (h : SlAt v b k m) (hb : V b (row T cs)) (hk : k + m * sz ≤ cs.length) : SlRd V v m sz ((cs.drop k).take (m * sz)) := by
  obtain ⟨A, c, rfl, hc, h3⟩ := h
  have hl : ((cs.drop k).take (m * sz)).length = m * sz := by simp; omega
  refine ⟨_, _, rfl, hc, hl, h3.imp id ?_⟩
  rintro rfl
  exact ⟨b, k, T, (0, 0), cs.toArray, rfl, hb, by rw [hl]⟩
theorem SlRd.sub {V : Nat → Obj → Prop} {v : Value} {m sz l h : Nat} {cs : List Value} (hv : SlRd V v m sz cs) (h1 : l ≤ h) (h2 : h ≤ m) : SlRd V (subSl sz l h v) (h - l) sz ((cs.drop (l * sz)).take ((h - l) * sz)) := by
  obtain ⟨A, c, rfl, hc, hl, h3⟩ := hv
  have e1 : h * sz ≤ m * sz := Nat.mul_le_mul_right _ h2
  have e2 : (h - l) * sz + l * sz = h * sz := by rw [← Nat.add_mul]; congr 1; omega
  have hl' : ((cs.drop (l * sz)).take ((h - l) * sz)).length = (h - l) * sz := by simp; omega
  refine ⟨_, _, rfl, by omega, hl', ?_⟩
  by_cases hz : h - l = 0
  · exact .inl hz
  · right
    rcases h3 with rfl | ⟨b, k, T, fr, arr, rfl, hb, hc'⟩
    · omega
    · refine ⟨b, k + l * sz, T, fr, arr, ?_, hb, ?_⟩
      · rw [if_neg (by omega)]; simp [add_at]
      · rw [hl', ← hc', List.drop_take, List.drop_drop, List.take_take]
        congr 1
        rw [hl]; omega
theorem SlRd.get {V : Nat → Obj → Prop} {v : Value} {m sz : Nat} {cs : List Value} (hv : SlRd V v m sz cs) (hm : 0 < m) : ∃ b k c T fr arr, v = .slice (some ⟨b, k, none⟩) m c ∧ m ≤ c ∧ V b (.cells arr T fr) ∧ (arr.toList.drop k).take cs.length = cs := by
  obtain ⟨A, c, rfl, hc, hl, h3⟩ := hv
  obtain ⟨b, k, T, fr, arr, rfl, hb, h4⟩ := h3.resolve_left (by omega)
  exact ⟨b, k, c, T, fr, arr, rfl, hc, hb, h4⟩
theorem SlRd.len {V : Nat → Obj → Prop} {v : Value} {m sz : Nat} {cs : List Value} (hv : SlRd V v m sz cs) : cs.length = m * sz := by
  obtain ⟨A, c, rfl, hc, hl, h3⟩ := hv; exact hl

def splice (old : List Value) (k : Nat) (xs : List Value) : List Value := old.take k ++ xs ++ old.drop (k + xs.length)
theorem splice_nil (old : List Value) (k : Nat) : splice old k [] = old := by simp [splice]
section
variable {P : Program} {n : Nat} {E : Env} {I : Imm} {L L' : Chunks} {Q : Exit → Act → World → Prop} {ops : Array Oper} {K : Act → World → Prop} {V : Nat → Obj → Prop} {o : Oper}

theorem sliceBounds_run {E : Env} {a : Act} {W : World} (ha : EnvOk n E a) {lo hi : Option Operand} {b : Bool} {len cap l h : Nat} (hl : E.lim lo 0 l) (hh : E.lim hi len h) (h1 : l ≤ h) (h2 : h ≤ cap) :
    (Instr.sliceBounds b len cap (lo.map a.eval) (hi.map a.eval) none).run P W = .ok (l, h, cap) W := by
  have g : ∀ (k : IntKind) (z y : Nat) (code : BoundsCode), z ≤ y → (Instr.sliceBound (.int k (z : Int)) y code).run P W = .ok z W := by
    intro k z y code hzy
    have : (0 : Int) ≤ (z : Int) ∧ (z : Int) ≤ (y : Int) := ⟨by omega, by omega⟩
    simp [Instr.sliceBound, asIntOf, this]
  cases lo with
  | none =>
    have hl : l = 0 := hl
    subst hl
    cases hi with
    | none =>
      have hh : h = len := hh
      subst hh
      simp [Instr.sliceBounds]
    | some y =>
      obtain ⟨k, hk⟩ := hh
      simp [Instr.sliceBounds, ha.ev hk, g _ _ _ _ h2]
  | some x =>
    obtain ⟨k1, hk1⟩ := hl
    cases hi with
    | none =>
      have hh : h = len := hh
      subst hh
      simp [Instr.sliceBounds, ha.ev hk1, g _ _ _ _ h1]
    | some y =>
      obtain ⟨k, hk⟩ := hh
      simp [Instr.sliceBounds, ha.ev hk, ha.ev hk1, g _ _ _ _ h2, g _ _ _ _ h1]
/-- A part of a slice. -/
theorem Yld.slice {x : Operand} {lo hi : Option Operand} {t e sz len cap l h : Nat} {A : Option Addr} (hop : o.op = .slice t x lo hi none) (ht : sliceTy P t e sz = true) (hx : E.ev x = some (.slice A len cap)) (hl : E.lim lo 0 l) (hh : E.lim hi len h) (h1 : l ≤ h) (h2 : h ≤ cap) :
    Yld P n E V o (subSl sz l h (.slice A len cap)) := fun a W ha _ => by
  have hb := sliceBounds_run (P := P) (W := W) (b := true) ha hl hh h1 h2
  obtain ⟨h3, h4⟩ := sliceTy_run ht
  by_cases hc : cap = l
  · subst hc
    simp [execOp, hop, ha.ev hx, Instr.sliceAt, Instr.slice, run_underlying h3, hb, h4, subSl]
  · simp [execOp, hop, ha.ev hx, Instr.sliceAt, Instr.slice, run_underlying h3, hb, h4, subSl, hc]
theorem Yld.sliceR {x : Operand} {lo hi : Option Operand} {t e sz m l h : Nat} {v : Value} {V' : Nat → Obj → Prop} {cs : List Value} (hv : SlRd V' v m sz cs) (hop : o.op = .slice t x lo hi none) (ht : sliceTy P t e sz = true) (hx : E.ev x = some v) (hl : E.lim lo 0 l) (hh : E.lim hi m h) (h1 : l ≤ h) (h2 : h ≤ m) :
    Yld P n E V o (subSl sz l h v) := by
  obtain ⟨A, c, rfl, hc, _, _⟩ := hv
  exact Yld.slice hop ht hx hl hh h1 (by omega)
/-- An array as a slice. -/
theorem Yld.sliceA {x : Operand} {lo hi : Option Operand} {t e sz N b k l h : Nat} (hop : o.op = .slice t x lo hi none) (ht : arrTy P t N e sz = true) (hx : E.ev x = some (.pointer (some ⟨b, k, none⟩))) (hl : E.lim lo 0 l) (hh : E.lim hi N h) (h1 : l ≤ h) (h2 : h ≤ N) :
    Yld P n E V o (subSl sz l h (.slice (some ⟨b, k, none⟩) N N)) := fun a W ha _ => by
  have hb := sliceBounds_run (P := P) (W := W) (b := false) ha hl hh h1 h2
  obtain ⟨h3, h4⟩ := arrTy_run ht
  by_cases hc : N = l
  · subst hc
    simp [execOp, hop, ha.ev hx, Instr.sliceAt, Instr.sureAddr, run_underlying h3, hb, h4, subSl]
  · simp [execOp, hop, ha.ev hx, Instr.sliceAt, Instr.sureAddr, run_underlying h3, hb, h4, subSl, hc]
theorem Yld.lenR {x : Operand} {m sz : Nat} {v : Value} {V' : Nat → Obj → Prop} {cs : List Value} (hv : SlRd V' v m sz cs) {t : TypeId} (hop : o.op = .call { callee := .builtin .len, args := #[x], argTypes := #[t] }) {e : Nat} {s : Nat} (ht : sliceTy P t e s = true) (hx : E.ev x = some v) : Yld P n E V o (.int .i64 m) := by
  obtain ⟨A, c, rfl, hc, _, _⟩ := hv
  exact Yld.len hop ht hx
/-- A slice of an array's length as the array's address. -/
theorem Yld.toArr {x : Operand} {t e sz N m c : Nat} {A : Option Addr} (hop : o.op = .sliceToArrayPointer t x) (ht : arrTy P t N e sz = true) (hx : E.ev x = some (.slice A m c)) (hm : N ≤ m) : Yld P n E V o (.pointer A) := fun a W ha _ => by
  obtain ⟨h3, h4⟩ := arrTy_run ht
  have : ¬ m < N := by omega
  simp [execOp, hop, ha.ev hx, Instr.arrayAt, run_underlying h3, this]

theorem Upd.same' {L L' : Chunks} {b : Nat} {o1 o2 : Obj} (h : Upd L b o1 o2 L') (e : o1 = o2) : L' = L := by
  induction h with
  | head => rw [e]
  | tail _ ih => rw [ih e]
theorem Upd.same {L L' : Chunks} {b : Nat} {o : Obj} (h : Upd L b o o L') : L' = L := h.same' rfl

/-- copy: as much as there is room. -/
theorem Op.copy {x y : Operand} {t t2 e sz d b k m m2 T q : Nat} {v u : Value} {cs old new : List Value} (hop : o.op = .call { callee := .builtin .copy, args := #[x, y], argTypes := #[t, t2] }) (ht : sliceTy P t e sz = true) (hd : o.dst = some d) (hlt : Nat.blt d n = true)
    (hx : E.ev x = some v) (hy : E.ev y = some u) (hv : SlAt v b k m) (hu : SlRd (There I L) u m2 sz cs) (h1 : cs.all (·.oneCell') = true) (hq : Nat.min m2 m = q) (hfit : k + q * sz ≤ old.length) (hnew : new = splice old k (cs.take (q * sz))) (hup : Upd L b (row T old) (row T new) L')
    (h : WP n K ((d, .int .i64 (q : Int)) :: E) I L') : WP n (fun a w => o.wp P a w K Q) E I L := .mk fun a W ha hW => by
  obtain ⟨htu, hsz⟩ := sliceTy_run ht
  have hV : Keeps (There I L) W := fun b o h => h.heap hW
  have hcl := hu.len
  have hq1 : q ≤ m2 := by rw [← hq]; exact Nat.min_le_left _ _
  have hq2 : q ≤ m := by rw [← hq]; exact Nat.min_le_right _ _
  have hf := hu.first (P := P) hV q hq1
  have hlen : (cs.take (q * sz)).length = q * sz := by
    rw [List.length_take, hcl]; exact Nat.min_eq_left (Nat.mul_le_mul_right _ hq1)
  obtain ⟨A, c, rfl, hmc, hA⟩ := hv
  obtain ⟨A2, c2, rfl⟩ := hu.slice
  suffices hs : ∃ W', (execOp a.eval o).run P W = .ok (.value (.int .i64 (q : Int))) W' ∧ Has I L' W' by
    obtain ⟨W', hrun, hH⟩ := hs
    show Oper.upon P o a _ _ _
    rw [hrun]
    simp only [Oper.upon, hd]
    exact h.out _ _ (ha.put hlt _) hH
  by_cases hq0 : cs.take (q * sz) = []
  · have hL : L' = L := by
      rw [hnew, hq0, splice_nil] at hup
      exact hup.same
    subst hL
    refine ⟨W, ?_, hW⟩
    rw [hq0] at hf
    cases A with
    | none => simp [execOp, hop, resolve, invoke, builtin, Builtin.copy_, ha.ev hx, ha.ev hy, run_underlying htu, Builtin.lenOf, hsz, hq, hf, goInt]
    | some ad => simp [execOp, hop, resolve, invoke, builtin, Builtin.copy_, ha.ev hx, ha.ev hy, run_underlying htu, Builtin.lenOf, hsz, hq, hf, goInt, storeCells]
  · have hm0 : m ≠ 0 := by
      rintro rfl
      have : q = 0 := by omega
      subst this
      simp at hq0
    obtain rfl := hA.resolve_left hm0
    have hst := run_storeCells_at P b k T (cs.take (q * sz)) 0 old.toArray W (hW.own _ hup.mem) (by simp [hlen]; omega) (fun w hw => List.all_eq_true.1 h1 w (List.mem_of_mem_take hw))
    refine ⟨W.setRow b new.toArray, ?_, hW.setRow hup⟩
    have hst' : (storeCells ⟨b, k, none⟩ (cs.take (q * sz))).run P W = .ok () (W.setRow b new.toArray) := by
      rw [hst]; simp [hnew, splice]
    simp [execOp, hop, resolve, invoke, builtin, Builtin.copy_, ha.ev hx, ha.ev hy, run_underlying htu, Builtin.lenOf, hsz, hq, hf, goInt, hst']

theorem splice_bytes (old s : List UInt8) (k : Nat) : splice (bytesV old) k (bytesV s) = bytesV (old.take k ++ s ++ old.drop (k + s.length)) := by
  simp only [splice, bytesV_take, bytesV_drop, bytesV_app, bytesV_len]
/-- copy of bytes. -/
theorem Op.copyB {x y : Operand} {t t2 e d b k m m2 T q : Nat} {v u : Value} {old s new : List UInt8} (hop : o.op = .call { callee := .builtin .copy, args := #[x, y], argTypes := #[t, t2] }) (ht : sliceTy P t e 1 = true) (hd : o.dst = some d) (hlt : Nat.blt d n = true)
    (hx : E.ev x = some v) (hy : E.ev y = some u) (hv : SlAt v b k m) (hu : SlRd (There I L) u m2 1 (bytesV s)) (hq : Nat.min m2 m = q) (hfit : k + q ≤ old.length) (hnew : new = old.take k ++ s.take q ++ old.drop (k + q)) (hup : Upd L b (row T (bytesV old)) (row T (bytesV new)) L')
    (h : WP n K ((d, .int .i64 (q : Int)) :: E) I L') : WP n (fun a w => o.wp P a w K Q) E I L := by
  have hl := hu.len
  rw [bytesV_len] at hl
  have hq1 : q ≤ m2 := by rw [← hq]; exact Nat.min_le_left _ _
  refine Op.copy hop ht hd hlt hx hy hv hu (bytesV_one s) hq (by rw [bytesV_len, Nat.mul_one]; exact hfit) ?_ hup h
  rw [bytesV_take, splice_bytes, hnew, Nat.mul_one]
  congr 3
  rw [List.length_take]; omega
theorem SlAt.rdB {v : Value} {b k m T : Nat} {l : List UInt8} {V : Nat → Obj → Prop} (h : SlAt v b k m) (hb : V b (row T (bytesV l))) (hk : k + m ≤ l.length) : SlRd V v m 1 (bytesV ((l.drop k).take m)) := by
  have := h.rd (sz := 1) hb (by rw [bytesV_len]; omega)
  rw [bytesV_drop, bytesV_take, Nat.mul_one] at this
  exact this

/-- clear of a slice of one's own. -/
theorem Op.clear {x : Operand} {t e sz ln : Nat} {z v : Value} {xs : List Value} {Lo F : Chunks} (hop : o.op = .call { callee := .builtin .clear, args := #[x], argTypes := #[t] }) (ht : sliceTy P t e sz = true) (hi : ∃ i, P.info? e = some i ∧ i.zero = some z) (hz : z.cells.size = sz) (hzo : z.cells.toList.all (·.oneCell') = true) (hd : o.dst = none)
    (hx : E.ev x = some v) (ho : Own e sz v xs ln Lo) (hp : Take L (Lo ++ []) F) (h : ∀ zs Lo', Own e sz v zs ln Lo' → WP n K E I (Lo' ++ F)) : WP n (fun a w => o.wp P a w K Q) E I L := .mk fun a W ha hW => by
  obtain ⟨i, hi, hz'⟩ := hi
  obtain ⟨htu, hsz⟩ := sliceTy_run ht
  have hW' : Has I (Lo ++ F) W := by have := hW.perm hp.perm; simpa using this
  suffices hs : ∃ W' zs Lo', (execOp a.eval o).run P W = .ok .skip W' ∧ Own e sz v zs ln Lo' ∧ Has I (Lo' ++ F) W' ∨ (execOp a.eval o).run P W = .ok (.value (.tuple #[])) W' ∧ Own e sz v zs ln Lo' ∧ Has I (Lo' ++ F) W' by
    obtain ⟨W', zs, Lo', h2⟩ := hs
    show Oper.upon P o a _ _ _
    rcases h2 with ⟨hrun, h3, h4⟩ | ⟨hrun, h3, h4⟩
    · rw [hrun]
      simp only [Oper.upon, hd, Act.put_none]
      exact (h zs Lo' h3).out _ _ ha h4
    · rw [hrun]
      simp only [Oper.upon, hd, Act.put_none]
      exact (h zs Lo' h3).out _ _ ha h4
  cases ho with
  | none0 => exact ⟨W, [], [], .inr ⟨by simp [execOp, hop, resolve, invoke, builtin, Builtin.clear_, ha.ev hx, run_underlying htu], .none0, hW'⟩⟩
  | @blk b cap _ _ sp h1 h2 h3 =>
    cases ln with
    | zero => exact ⟨W, xs, _, .inr ⟨by simp [execOp, hop, resolve, invoke, builtin, Builtin.clear_, ha.ev hx, run_underlying htu], .blk h1 h2 h3, hW'⟩⟩
    | succ ln =>
      generalize hzs : Builtin.zeroCells z.cells (ln + 1) = zs
      have hzl : zs.toList.length = (ln + 1) * sz := by rw [← hzs]; simp [Builtin.zeroCells, hz]
      have hzone : ∀ w ∈ zs.toList, w.oneCell' = true := by
        intro w hw
        rw [← hzs] at hw
        simp only [Builtin.zeroCells, Array.toList_map, List.mem_map] at hw
        obtain ⟨j, hj, rfl⟩ := hw
        have hj' : j < (ln + 1) * z.cells.size := by simpa using hj
        have hpos : 0 < z.cells.size := by
          rcases Nat.eq_zero_or_pos z.cells.size with h0 | h0
          · rw [h0] at hj'; omega
          · exact h0
        have hmod := Nat.mod_lt j hpos
        rw [getElem!_pos z.cells _ hmod]
        exact List.all_eq_true.1 hzo _ (by simp)
      have hst := run_storeCells_at P b 0 e zs.toList 0 (xs ++ sp).toArray W (hW'.own _ (.head _)) (by simp [hzl]; omega) hzone
      have hup : Upd ([(b, row e (xs ++ sp))] ++ F) b (row e (xs ++ sp)) (row e (zs.toList ++ sp)) ([(b, row e (zs.toList ++ sp))] ++ F) := .head
      refine ⟨W.setRow b (zs.toList ++ sp).toArray, zs.toList, [(b, row e (zs.toList ++ sp))], .inr ⟨?_, .blk hzl (by rw [hzl, ← h1]; exact h2) h3, hW'.setRow hup⟩⟩
      have hst' : (storeCells ⟨b, 0, none⟩ zs.toList).run P W = .ok () (W.setRow b (zs.toList ++ sp).toArray) := by
        rw [hst]; simp [hzl, ← h1]
      simp [execOp, hop, resolve, invoke, builtin, Builtin.clear_, ha.ev hx, run_underlying htu, zeroValue, typeInfo, hi, hz', hzs, hst']

/-- The letters of a slice of bytes. -/
theorem Yld.str {x : Operand} {s e d m : Nat} {v : Value} {bs : List UInt8} (hop : o.op = .convert s d x) (hs : P.underlying s = some (.slice e)) (he : P.underlying e = some (.int .u8)) (hd : P.underlying d = some .string) (hx : E.ev x = some v) (hv : SlRd V v m 1 (bytesV bs)) :
    Yld P n E V o (.string ⟨bs.toArray⟩) := fun a W ha hW => by
  have hlen := hv.len
  rw [bytesV_len] at hlen
  have hf := hv.first (P := P) hW m (Nat.le_refl _)
  obtain ⟨A, c, rfl⟩ := hv.slice
  simp only [execOp, hop, ha.ev hx, Sem.run_bind, run_convert_bytes_string W s d e A m c hs he hd]
  cases A with
  | none =>
    simp [Builtin.firstCells] at hf
    have : bs = [] := by
      rcases hf with rfl | hf
      · exact List.eq_nil_of_length_eq_zero (by omega)
      cases bs with
      | nil => rfl
      | cons b bs => simp [bytesV] at hf
    subst this
    simp [Conv.bytesToString]; rfl
  | some ad =>
    rw [run_bytesToString W ad m c (bs.map fun b => (b.toNat : Int)) (by
      have h2 := hf
      rw [List.take_of_length_le (by rw [bytesV_len]; omega)] at h2
      simp only [Builtin.firstCells, Nat.mul_one] at h2
      rw [h2]; congr 2; simp [bytesV, byteV])]
    rw [foldl_push_bytes]
    simp
    rw [List.map_congr_left (g := id) (fun b _ => by simp), List.map_id]
end

/-- What is lent to a call: it reads it, and leaves it as it is. -/
theorem Spec.lend {P : Program} {f : FuncId} {args : List Value} {I : Imm} {L0 : Chunks} {b : Nat} {o : Obj} {R : Value → Imm → Chunks → Prop} (h : ∀ J : Imm, I.le J → J.blk b = some o → Spec P f args J L0 (fun v J' L' => J = J' ∧ R v I L')) :
    Spec P f args I ((b, o) :: L0) (fun v J' L' => I = J' ∧ ∃ L1, L' = (b, o) :: L1 ∧ R v I L1) := by
  intro F W hW
  rw [List.cons_append] at hW
  have hn := hW.nodup
  simp only [List.map_cons, List.nodup_cons] at hn
  have hIb : I.blk b = none := hW.apart _ (.head _)
  let J : Imm := ⟨I.base, fun c => if c = b then some o else I.blk c⟩
  have hle : I.le J := ⟨rfl, fun c o' hc => by
    by_cases e : c = b
    · subst e; rw [hIb] at hc; cases hc
    · simp [J, e, hc]⟩
  have hJ : Has J (L0 ++ F) W := by
    refine ⟨hW.os, hW.tape, hW.output, hn.2, fun p hp => hW.own p (.tail _ hp), fun p hp => ?_, fun c o' hc => ?_⟩
    · have hne : p.1 ≠ b := fun he => hn.1 (he ▸ List.mem_map_of_mem hp)
      simp [J, hne, hW.apart p (.tail _ hp)]
    · by_cases e : c = b
      · subst e; simp only [J, if_true] at hc; cases hc; exact hW.own _ (.head _)
      · simp only [J, e, if_false] at hc; exact hW.imm _ _ hc
  refine (h J hle (by simp [J]) F W hJ).mono ?_; rintro e W' ⟨v, J', L', rfl, hJJ, ⟨rfl, hR⟩, hH⟩
  refine ⟨v, I, (b, o) :: L', rfl, Imm.le_refl _, ⟨rfl, L', rfl, hR⟩, ?_⟩
  have hb : ∀ p ∈ L' ++ F, p.1 ≠ b := by
    intro p hp he
    have := hH.apart p hp
    rw [he] at this
    simp [J] at this
  refine ⟨hH.os, hH.tape, hH.output, ?_, ?_, ?_, ?_⟩
  · rw [List.cons_append, List.map_cons, List.nodup_cons]
    refine ⟨fun hm => ?_, hH.nodup⟩
    obtain ⟨p, hp, he⟩ := List.mem_map.1 hm
    exact hb p hp he
  · intro p hp
    rcases List.mem_cons.1 hp with rfl | hp
    · exact hH.imm b o (by simp [J])
    · exact hH.own p hp
  · intro p hp
    rcases List.mem_cons.1 hp with rfl | hp
    · exact hIb
    · have := hH.apart p hp
      simp only [J, hb p hp, if_false] at this
      exact this
  · intro c o' hc
    exact hH.imm c o' (hle.2 c o' hc)

/-- What came in, as bytes, as numbers. -/
theorem Slc.flat {α : Type} {I : Imm} {v : Value} {xs : List α} {R : α → List Value → Prop} (f : α → Value) (hR : ∀ x cs, R x cs → cs = [f x]) (h : Slc I 1 R v xs) : SlRd (fun b o => I.blk b = some o) v xs.length 1 (xs.map f) := by
  obtain ⟨A, cap, rfl, hc, h3⟩ := h
  refine ⟨A, cap, rfl, hc, by simp, ?_⟩
  rcases h3 with rfl | ⟨b, kk, arr, T, fr, rfl, hb, hel⟩
  · exact .inl rfl
  · refine .inr ⟨b, kk, T, fr, arr, rfl, hb, ?_⟩
    apply List.ext_getElem?
    intro i
    simp only [List.length_map]
    by_cases hi : i < xs.length
    · have h1 := hR _ _ (hel i xs[i] (List.getElem?_eq_getElem hi)).2
      have := take_cells h1 0 _ rfl (by decide)
      rw [List.getElem?_take, if_pos hi, List.getElem?_drop]
      simp only [Nat.mul_one, Nat.add_zero] at this
      rw [this]; simp [hi]
    · rw [List.getElem?_eq_none (by simp; omega), List.getElem?_eq_none (by simp; omega)]
def RB (a : UInt8) (cs : List Value) : Prop := cs = [byteV a]
theorem elem_byte {H : Type} {enc : TypeId × Value → H} {P : Program} {W : World} {sp : Nat → Bool} {held : Bool} {e : Nat} (he : P.underlying e = some (.int .u8)) (n : Nat) (cs : List Value) (x : DataW H × List MemPlace) (h : DataW.trod enc P W 0 sp held n e cs = some x) (hl : cs.length = 1) : ∃ a : UInt8, RB a cs ∧ True := by
  obtain ⟨a, ⟨rfl, hw⟩, _⟩ := elem_int he n cs x h hl
  simp [Lit.wf, IntKind.min, IntKind.max, IntKind.bits, IntKind.signed] at hw
  refine ⟨UInt8.ofNat a.toNat, ?_, trivial⟩
  simp only [RB, byteV]
  congr 2
  rw [UInt8.toNat_ofNat']
  omega
theorem part_trod {H : Type} {enc : TypeId × Value → H} {P : Program} {W : World} {base : Nat} {sp : Nat → Bool} {held : Bool} {fs : Array Field} {xs : List (DataW H × List MemPlace)} {n : Nat} {cs : List Value} (hel : ∀ (i : Nat) (f : Field), fs[i]? = some f → DataW.trod enc P W base sp held n f.type ((cs.drop f.offset).take (P.cellsOf f.type)) = xs[i]?)
    (i ft off m : Nat) (hf : (fs[i]?.map fun f => (f.type, f.offset)) = some (ft, off)) (hc : P.cellsOf ft = m) : DataW.trod enc P W base sp held n ft ((cs.drop off).take m) = xs[i]? := by
  obtain ⟨f, h1, h2⟩ := Option.map_eq_some_iff.1 hf
  have h3 := hel i f h1
  simp only [Prod.mk.injEq] at h2
  rw [h2.1, h2.2, hc] at h3
  exact h3
theorem Slc.bytes {I : Imm} {v : Value} {xs : List UInt8} (h : Slc I 1 RB v xs) : SlRd (fun b o => I.blk b = some o) v xs.length 1 (bytesV xs) := h.flat byteV fun _ _ h => h
theorem set_byte {l : List UInt8} {k : Nat} (a : UInt8) (h : k < l.length) : SetAt (bytesV l) (0 + k * 1) (byteV a) (bytesV (l.set k a)) := by
  have := SetAt.sym (l := bytesV l) (k := 0 + k * 1) (v := byteV a) (by rw [bytesV_len]; omega)
  rw [Nat.zero_add, Nat.mul_one] at this ⊢
  simpa [bytesV, List.map_set] using this
theorem Im_lit {I : Imm} {b T c : Nat} {l : List UInt8} {sp : List Value} (h : I.blk b = some (row T (bytesV l ++ sp))) (hc : l.length ≤ c) : SlRd (fun b o => I.blk b = some o) (.slice (some ⟨b, 0, none⟩) l.length c) l.length 1 (bytesV l) :=
  ⟨_, _, rfl, hc, by rw [bytesV_len, Nat.mul_one], .inr ⟨b, 0, T, (0, 0), (bytesV l ++ sp).toArray, rfl, h, by simp⟩⟩
end Go.Hp
