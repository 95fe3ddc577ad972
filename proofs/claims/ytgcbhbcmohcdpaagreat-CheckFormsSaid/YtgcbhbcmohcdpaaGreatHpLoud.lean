/-
  The operations that change what is owned; calls; the contract of a function.
-/
import Derived.Test.YtgcbhbcmohcdpaaGreatHpOps
set_option linter.unusedVariables false
set_option linter.unusedSimpArgs false
namespace Go.Hp
open Go

/-- In a list the place k becomes v. -/
inductive SetAt : List Value → Nat → Value → List Value → Prop
  | zero {u v : Value} {l : List Value} : SetAt (u :: l) 0 v (v :: l)
  | succ {u v : Value} {l l' : List Value} {k : Nat} (h : SetAt l k v l') : SetAt (u :: l) (k + 1) v (u :: l')
theorem SetAt.spec {l l' : List Value} {k : Nat} {v : Value} (h : SetAt l k v l') : k < l.length ∧ l' = l.take k ++ [v] ++ l.drop (k + 1) := by
  induction h with
  | zero => simp
  | succ h ih => obtain ⟨h1, rfl⟩ := ih; simp [h1]
theorem SetAt.sym {l : List Value} {k : Nat} {v : Value} (h : k < l.length) : SetAt l k v (l.set k v) := by
  induction l generalizing k with
  | nil => simp at h
  | cons u l ih => cases k with
    | zero => exact .zero
    | succ k => exact .succ (ih (by simpa using h))

theorem setRow_other {W : World} {g : Nat} {cs : Array Value} {c : Nat} (h : c ≠ g) : (W.setRow g cs).heap[c]? = W.heap[c]? := by
  show (W.heap.modify g _)[c]? = _
  rw [Array.getElem?_modify, if_neg (Ne.symm h)]
theorem setRow_self' {W : World} {g : Nat} {old cs : Array Value} {T : TypeId} {fr : Nat × Nat} (h : W.heap[g]? = some (.cells old T fr)) : (W.setRow g cs).heap[g]? = some (.cells cs T fr) := by
  show (W.heap.modify g _)[g]? = _
  rw [Array.getElem?_modify, if_pos rfl, h]; rfl

theorem Has.setRow {I : Imm} {L L' : Chunks} {W : World} {b : Nat} {T : TypeId} {cs cs' : List Value} (h : Has I L W) (u : Upd L b (row T cs) (row T cs') L') : Has I L' (W.setRow b cs'.toArray) :=
  h.upd u rfl rfl rfl (setRow_self' (h.own _ u.mem)) (fun c hc => setRow_other hc)

theorem Has.setCell {I : Imm} {L L' : Chunks} {W : World} {b k : Nat} {T : TypeId} {v : Value} {cs cs' : List Value} (h : Has I L W) (u : Upd L b (row T cs) (row T cs') L') (s : SetAt cs k v cs') : Has I L' (W.setCell ⟨b, k, none⟩ v) := by
  obtain ⟨hk, hc⟩ := s.spec
  have hset : cs' = cs.set k v := by rw [hc, List.set_eq_take_append_cons_drop, if_pos hk]; simp
  refine h.upd u rfl rfl rfl ?_ fun c hc => ?_
  · show (W.heap.modify b _)[b]? = _
    rw [Array.getElem?_modify, if_pos rfl, h.own _ u.mem, hset]
    simp [row]
  · show (W.heap.modify b _)[c]? = _
    rw [Array.getElem?_modify, if_neg (Ne.symm hc)]

/-- What is not needed is left. -/
theorem Has.drop {I : Imm} {L : Chunks} {W : World} {p : Nat × Obj} (h : Has I (p :: L) W) : Has I L W where
  os := h.os
  tape := h.tape
  output := h.output
  nodup := by have := h.nodup; simp only [List.map_cons, List.nodup_cons] at this; exact this.2
  own := fun q hq => h.own q (.tail _ hq)
  apart := fun q hq => h.apart q (.tail _ hq)
  imm := h.imm
/-- A slice of the call's own. -/
inductive Own (T sz : Nat) : Value → List Value → Nat → Chunks → Prop
  | none0 : Own T sz (.slice none 0 0) [] 0 []
  | blk {b cap n : Nat} {xs sp : List Value} (h : xs.length = n * sz) (h2 : xs.length + sp.length = cap * sz) (h3 : n ≤ cap) : Own T sz (.slice (some ⟨b, 0, none⟩) n cap) xs n [(b, row T (xs ++ sp))]

theorem Own.len {T sz n : Nat} {v : Value} {xs : List Value} {L : Chunks} (h : Own T sz v xs n L) : xs.length = n * sz := by
  cases h with
  | none0 => simp
  | blk h _ _ => exact h
theorem Own.slice {T sz n : Nat} {v : Value} {xs : List Value} {L : Chunks} (h : Own T sz v xs n L) : ∃ A c, v = .slice A n c ∧ n ≤ c := by
  cases h with
  | none0 => exact ⟨_, _, rfl, Nat.le_refl _⟩
  | blk _ _ h3 => exact ⟨_, _, rfl, h3⟩
theorem Own.get {T sz n : Nat} {v : Value} {xs : List Value} {L : Chunks} (h : Own T sz v xs n L) (hn : 0 < n) : ∃ b cap sp, v = .slice (some ⟨b, 0, none⟩) n cap ∧ L = [(b, row T (xs ++ sp))] ∧ xs.length + sp.length = cap * sz ∧ n ≤ cap := by
  cases h with
  | none0 => omega
  | @blk b cap _ _ sp h h2 h3 => exact ⟨b, cap, sp, rfl, rfl, h2, h3⟩

/-- What the first m elements of a slice read. -/
def SlRd (V : Nat → Obj → Prop) (v : Value) (m sz : Nat) (cs : List Value) : Prop :=
  ∃ A c, v = .slice A m c ∧ m ≤ c ∧ cs.length = m * sz ∧ (m = 0 ∨ ∃ b k T fr arr, A = some ⟨b, k, none⟩ ∧ V b (.cells arr T fr) ∧ (arr.toList.drop k).take cs.length = cs)

theorem SlRd.mono {V V' : Nat → Obj → Prop} {v : Value} {m sz : Nat} {cs : List Value} (h : SlRd V v m sz cs) (hV : ∀ b o, V b o → V' b o) : SlRd V' v m sz cs := by
  obtain ⟨A, c, h1, h0, h2, h3⟩ := h
  refine ⟨A, c, h1, h0, h2, h3.imp id ?_⟩
  rintro ⟨b, k, T, fr, arr, h4, h5, h6⟩
  exact ⟨b, k, T, fr, arr, h4, hV _ _ h5, h6⟩
theorem Own.rd {T sz n : Nat} {v : Value} {xs : List Value} {L Lo : Chunks} {I : Imm} (h : Own T sz v xs n Lo) (hL : ∀ p ∈ Lo, p ∈ L) : SlRd (There I L) v n sz xs := by
  cases h with
  | none0 => exact ⟨_, _, rfl, Nat.le_refl _, by simp, .inl rfl⟩
  | @blk b cap n xs sp h h2 h3 => exact ⟨_, _, rfl, h3, h, .inr ⟨b, 0, T, (0, 0), (xs ++ sp).toArray, rfl, .inl (hL _ (.head _)), by simp⟩⟩

theorem SlRd.first {P : Program} {V : Nat → Obj → Prop} {v : Value} {m sz : Nat} {cs : List Value} (h : SlRd V v m sz cs) {W : World} (hV : Keeps V W) (j : Nat) (hj : j ≤ m) :
    (Builtin.firstCells sz j v).run P W = .ok (cs.take (j * sz)).toArray W := by
  obtain ⟨A, c, rfl, _, hl, h3⟩ := h
  have hlt : (cs.take (j * sz)).length = j * sz := by rw [List.length_take, hl]; exact Nat.min_eq_left (Nat.mul_le_mul_right _ hj)
  rcases h3 with rfl | ⟨b, k, T, fr, arr, rfl, hb, hc⟩
  · have : j = 0 := by omega
    subst this
    cases A with
    | none => simp [Builtin.firstCells]
    | some a => simp [Builtin.firstCells, loadCells, loadCellsFrom]
  · refine run_firstCells_some (P := P) W sz j ⟨b, k, none⟩ m c _ hlt fun i u hu => ?_
    have hi : i < cs.length := by
      have := (List.getElem?_eq_some_iff.1 hu).1
      rw [hlt] at this
      rw [hl]; exact Nat.lt_of_lt_of_le this (Nat.mul_le_mul_right _ hj)
    rw [List.getElem?_take] at hu
    split at hu
    · rw [← hc, List.getElem?_take, if_pos hi, List.getElem?_drop, Array.getElem?_toList] at hu
      simp [add_at, World.cell?, hV _ _ hb, hu]
    · cases hu

/-- A function's contract: from what it owns and reads to what it answers. -/
def Spec (P : Program) (f : FuncId) (args : List Value) (I : Imm) (L : Chunks) (R : Value → Imm → Chunks → Prop) : Prop :=
  ∀ F W, Has I (L ++ F) W → Calls P f args.toArray W fun e W' => ∃ v J L', e = .returned v ∧ I.le J ∧ R v J L' ∧ Has J (L' ++ F) W'

theorem Spec.mono {P : Program} {f : FuncId} {args : List Value} {I : Imm} {L : Chunks} {R R' : Value → Imm → Chunks → Prop} (h : Spec P f args I L R) (hR : ∀ v J L', I.le J → R v J L' → R' v J L') : Spec P f args I L R' :=
  fun F W hW => (h F W hW).mono fun _ _ ⟨v, J, L', he, hJ, hr, hh⟩ => ⟨v, J, L', he, hJ, hR v J L' hJ hr, hh⟩

section
variable {P : Program} {n : Nat} {E : Env} {I : Imm} {L L' : Chunks} {Q : Exit → Act → World → Prop} {ops : Array Oper} {K : Act → World → Prop} {o : Oper}

theorem Act.put_none (a : Act) (v : Value) : a.put none v = a := rfl

theorem Op.store1 {x y : Operand} {t b k T : Nat} {v : Value} {cs cs' : List Value} (hop : o.op = .store t x y) (hd : o.dst = none) (ht : sizeTy P t 1 = true) (hx : E.ev x = some (.pointer (some ⟨b, k, none⟩))) (hy : E.ev y = some v) (h1 : v.oneCell' = true)
    (hu : Upd L b (row T cs) (row T cs') L') (hs : SetAt cs k v cs') (h : WP n K E I L') : WP n (fun a w => o.wp P a w K Q) E I L := .mk fun a W ha hW => by
  obtain ⟨hk, rfl⟩ := hs.spec
  have hc : v.cells = #[v] := by cases v <;> simp [Value.oneCell'] at h1 <;> rfl
  have hst := run_storeCells_at P b k T [v] 0 cs.toArray W (hW.own _ hu.mem) (by simp; omega) (by simpa using h1)
  have hrun : (execOp a.eval o).run P W = .ok .skip (W.setRow b (cs.take k ++ [v] ++ cs.drop (k + 1)).toArray) := by
    simp [execOp, hop, ha.ev hx, ha.ev hy, Instr.storeAt, Instr.sureAddr, storeVar, hc, sizeTy_run ht]
    simpa using congrArg (fun r => Result.andThen r fun a w' => Result.ok Next.skip w') hst
  show Oper.upon P o a _ _ _
  rw [hrun]
  simp only [Oper.upon, hd, Act.put_none]
  exact h.out _ _ ha (hW.setRow hu)

theorem Op.storeN {x y : Operand} {t b k T sz : Nat} {vs cs cs' : List Value} (hop : o.op = .store t x y) (hd : o.dst = none) (ht : sizeTy P t sz = true) (hx : E.ev x = some (.pointer (some ⟨b, k, none⟩))) (hy : E.ev y = some (.agg vs.toArray)) (hl : vs.length = sz) (h1 : vs.all (·.oneCell') = true)
    (hk : k + sz ≤ cs.length) (he : cs' = cs.take k ++ vs ++ cs.drop (k + sz)) (hu : Upd L b (row T cs) (row T cs') L') (h : WP n K E I L') : WP n (fun a w => o.wp P a w K Q) E I L := .mk fun a W ha hW => by
  subst hl; subst he
  have hst := run_storeCells_at P b k T vs 0 cs.toArray W (hW.own _ hu.mem) (by simpa using hk) (List.all_eq_true.1 h1)
  have hrun : (execOp a.eval o).run P W = .ok .skip (W.setRow b (cs.take k ++ vs ++ cs.drop (k + vs.length)).toArray) := by
    simp [execOp, hop, ha.ev hx, ha.ev hy, Instr.storeAt, Instr.sureAddr, storeVar, Value.cells, sizeTy_run ht]
    simpa using congrArg (fun r => Result.andThen r fun a w' => Result.ok Next.skip w') hst
  show Oper.upon P o a _ _ _
  rw [hrun]
  simp only [Oper.upon, hd, Act.put_none]
  exact h.out _ _ ha (hW.setRow hu)

/-- A whole struct or array. -/
theorem Op.storeAll {x y : Operand} {t b T sz : Nat} {vs cs : List Value} (hop : o.op = .store t x y) (hd : o.dst = none) (ht : sizeTy P t sz = true) (hx : E.ev x = some (.pointer (some ⟨b, 0, none⟩))) (hy : E.ev y = some (.agg vs.toArray)) (hl : vs.length = sz) (h1 : vs.all (·.oneCell') = true)
    (hu : Upd L b (row T cs) (row T vs) L') (hk : cs.length = sz) (h : WP n K E I L') : WP n (fun a w => o.wp P a w K Q) E I L :=
  Op.storeN hop hd ht hx hy hl h1 (by omega) (by simp [List.drop_of_length_le (Nat.le_of_eq hk)]) hu h

theorem Op.alloc {t d : Nat} {zs : List Value} (hop : o.op = .alloc t) (hd : o.dst = some d) (hlt : Nat.blt d n = true) (hz : zeroTy P t zs)
    (h : ∀ b, WP n K ((d, .pointer (some ⟨b, 0, none⟩)) :: E) I ((b, row t zs) :: L)) : WP n (fun a w => o.wp P a w K Q) E I L := .mk fun a W ha hW => by
  obtain ⟨i, z, hi, hz, hc⟩ := hz
  have hrun : (execOp a.eval o).run P W = .ok (.value (.pointer (some ⟨W.heap.size, 0, none⟩))) (W.alloc (row t zs)) := by
    simp [execOp, hop, Instr.alloc, zeroValue, typeInfo, hi, hz, newVar, newRow, hc, row]
  show Oper.upon P o a _ _ _
  rw [hrun]
  simp only [Oper.upon, hd]
  exact (h _).out _ _ (ha.put hlt _) (hW.alloc _)

theorem Op.box {t d : Nat} {x : Operand} {v : Value} {zs : List Value} (hop : o.op = .box t x) (hd : o.dst = some d) (hlt : Nat.blt d n = true) (hx : E.ev x = some v) (hc : v.cells = zs.toArray)
    (h : ∀ b, WP n K ((d, .pointer (some ⟨b, 0, none⟩)) :: E) I ((b, row t zs) :: L)) : WP n (fun a w => o.wp P a w K Q) E I L := .mk fun a W ha hW => by
  have hrun : (execOp a.eval o).run P W = .ok (.value (.pointer (some ⟨W.heap.size, 0, none⟩))) (W.alloc (row t zs)) := by
    simp [execOp, hop, Instr.box, ha.ev hx, newVar, newRow, hc, row]
  show Oper.upon P o a _ _ _
  rw [hrun]
  simp only [Oper.upon, hd]
  exact (h _).out _ _ (ha.put hlt _) (hW.alloc _)

theorem Op.val {d : Nat} {v : Value} (y : Yld P n E (There I L) o v) (hd : o.dst = some d) (hlt : Nat.blt d n = true) (h : WP n K ((d, v) :: E) I L) : WP n (fun a w => o.wp P a w K Q) E I L := .mk fun a W ha hW => by
  show Oper.upon P o a _ _ _
  rw [y a W ha (fun b o h => h.heap hW)]
  simp only [Oper.upon, hd]
  exact h.out _ _ (ha.put hlt _) hW

theorem evs_ok {E : Env} {a : Act} (ha : EnvOk n E a) : ∀ {xs : Array Operand} {vs : List Value}, xs.toList.map E.ev = vs.map some → xs.map a.eval = vs.toArray := by
  rintro ⟨l⟩ vs hx
  simp only [List.map_toArray]
  congr 1
  induction l generalizing vs with
  | nil => cases vs <;> simp_all
  | cons p l ih =>
    cases vs with
    | nil => simp at hx
    | cons v vs =>
      simp only [List.map_cons, List.cons.injEq] at hx
      simp only [List.map_cons, ha.ev hx.1, ih hx.2]

theorem call_run {f : Nat} {fn : Func} {xs : Array Operand} {ts : Array TypeId} {vs : List Value} (hop : o.op = .call { callee := .value (.func f), args := xs, argTypes := ts })
    (hf : P.funcs[f]? = some fn) (hfn : ((fn.name == "runtime.NumGoroutine") || fn.body.isNone) = false) (hx : xs.toList.map E.ev = vs.map some) {a : Act} (ha : EnvOk n E a) (W : World) :
    (execOp a.eval o).run P W = .ok (.enter f vs.toArray) W := by
  simp only [Bool.or_eq_false_iff] at hfn
  have hfn1 : fn.name ≠ "runtime.NumGoroutine" := by simpa using hfn.1
  have hfn2 : fn.body ≠ none := fun e => by simp [e] at hfn
  have hargs := evs_ok ha hx
  simp [execOp, hop, resolve, Act.eval, Deferred.ofValue, invoke, callFunc, hf, hfn1, hfn2, hargs]

/-- A call of a Go function, by its contract. -/
theorem Op.call {f d : Nat} {fn : Func} {xs : Array Operand} {ts : Array TypeId} {vs : List Value} {L0 F : Chunks} {R : Value → Imm → Chunks → Prop} (sp : Spec P f vs I L0 R) (hop : o.op = .call { callee := .value (.func f), args := xs, argTypes := ts })
    (hf : P.funcs[f]? = some fn) (hfn : ((fn.name == "runtime.NumGoroutine") || fn.body.isNone) = false) (hx : xs.toList.map E.ev = vs.map some) (hd : o.dst = some d) (hlt : Nat.blt d n = true) (hp : Take L L0 F)
    (h : ∀ v J L1, I.le J → R v J L1 → WP n K ((d, v) :: E) J (L1 ++ F)) : WP n (fun a w => o.wp P a w K Q) E I L := .mk fun a W ha hW => by
  show Oper.upon P o a _ _ _
  rw [call_run hop hf hfn hx ha W]
  simp only [Oper.upon]
  refine (sp F W (hW.perm hp.perm)).mono ?_; rintro e W' ⟨v, J, L1, rfl, hJ, hR, hH⟩
  simp only [hd]
  exact (h v J L1 hJ hR).out _ _ (ha.put hlt _) hH

/-- What a function without a text of its own answers. -/
def Ans (P : Program) (f : FuncId) (vs : List Value) (I : Imm) (L : Chunks) (v : Value) (I' : Imm) (L' : Chunks) : Prop :=
  ∀ W, Has I L W → ∃ W', (callFunc f vs.toArray).run P W = .ok (.value v) W' ∧ Has I' L' W'

/-- A function without a text of its own, whose answer is told. -/
theorem Op.ext {f : Nat} {xs : Array Operand} {ts : Array TypeId} {vs : List Value} {d : Nat} {v : Value} {I' : Imm} {L' : Chunks} (hr : Ans P f vs I L v I' L')
    (hop : o.op = .call { callee := .value (.func f), args := xs, argTypes := ts }) (hx : xs.toList.map E.ev = vs.map some) (hd : o.dst = some d) (hlt : Nat.blt d n = true)
    (h : WP n K ((d, v) :: E) I' L') : WP n (fun a w => o.wp P a w K Q) E I L := .mk fun a W ha hW => by
  obtain ⟨W', h1, h2⟩ := hr W hW
  have hargs := evs_ok ha hx
  have hrun : (execOp a.eval o).run P W = .ok (.value v) W' := by
    simpa [execOp, hop, resolve, Act.eval, Deferred.ofValue, invoke, hargs] using h1
  show Oper.upon P o a _ _ _
  rw [hrun]
  simp only [Oper.upon, hd]
  exact h.out _ _ (ha.put hlt _) h2

theorem There.h {b : Nat} {o : Obj} {L : Chunks} : There I ((b, o) :: L) b o := .inl (.head _)
theorem There.t {b : Nat} {o : Obj} {p : Nat × Obj} {L : Chunks} (h : There I L b o) : There I (p :: L) b o := h.imp (.tail _) id
theorem There.s {b : Nat} {o : Obj} {S L : Chunks} (h : There I L b o) : There I (S ++ L) b o := h.imp (List.mem_append_right _) id
theorem There.i {b : Nat} {o : Obj} {L : Chunks} (h : I.blk b = some o) : There I L b o := .inr h

/-- A comparison parts the ways. -/
theorem WP.split {i d : Nat} {r : List Nat} {p : Prop} [Decidable p] (ho : ops[i]? = some o) (hg : o.guard = none) (hd : o.dst = some d) (hlt : Nat.blt d n = true) (y : ∀ c, decide p = c → Yld P n E (There I L) o (.bool c))
    (ht : p → WP n (wpOps P ops Q r) ((d, .bool true) :: E) I L) (hf : ¬p → WP n (wpOps P ops Q r) ((d, .bool false) :: E) I L) : WP n (wpOps P ops Q (i :: r)) E I L := by
  by_cases h : p
  · exact WP.val ho hg hd hlt (y true (decide_eq_true h)) (ht h)
  · exact WP.val ho hg hd hlt (y false (decide_eq_false h)) (hf h)
theorem WP.splitG {i d g e : Nat} {t : Bool} {r : List Nat} {og : Oper} {p : Prop} [Decidable p] (ho : ops[i]? = some o) (hg : o.guard = some (g, t)) (hog : ops[g]? = some og) (hgd : og.dst = some e) (hv : E.get e = some (.bool t)) (hd : o.dst = some d) (hlt : Nat.blt d n = true) (y : ∀ c, decide p = c → Yld P n E (There I L) o (.bool c))
    (ht : p → WP n (wpOps P ops Q r) ((d, .bool true) :: E) I L) (hf : ¬p → WP n (wpOps P ops Q r) ((d, .bool false) :: E) I L) : WP n (wpOps P ops Q (i :: r)) E I L := by
  by_cases h : p
  · exact WP.valG ho hg hog hgd hv hd hlt (y true (decide_eq_true h)) (ht h)
  · exact WP.valG ho hg hog hgd hv hd hlt (y false (decide_eq_false h)) (hf h)
theorem WD.split {s : Nat} {V1 V2 : Nat → Obj → Prop} {i d fuel : Nat} {l l' : List Bool} {p : Prop} [Decidable p] (ho : ops[i]? = some o) (hg : o.guard = none) (hd : o.dst = some d) (hlt : Nat.blt d n = true)
    (hchk : (Region.noSelect ops && Region.free .any ops l.toArray i && (Region.ready .any ops l.toArray).contains i && !(Nat.beq i s)) = true) (hl : l.set i true = l') (y : ∀ c, decide p = c → Yld P n E V2 o (.bool c))
    (ht : p → WD P n ops K s V1 V2 fuel l' ((d, .bool true) :: E) I L) (hf : ¬p → WD P n ops K s V1 V2 fuel l' ((d, .bool false) :: E) I L) : WD P n ops K s V1 V2 (fuel + 1) l E I L := by
  by_cases h : p
  · exact WD.val ho hg hd hlt hchk hl (y true (decide_eq_true h)) (ht h)
  · exact WD.val ho hg hd hlt hchk hl (y false (decide_eq_false h)) (hf h)
/-- A bool that is not known parts the ways. -/
theorem WP.splitB {i d : Nat} {r : List Nat} {t : Bool} (ho : ops[i]? = some o) (hg : o.guard = none) (hd : o.dst = some d) (hlt : Nat.blt d n = true) (y : Yld P n E (There I L) o (.bool t))
    (ht : t = true → WP n (wpOps P ops Q r) ((d, .bool true) :: E) I L) (hf : t = false → WP n (wpOps P ops Q r) ((d, .bool false) :: E) I L) : WP n (wpOps P ops Q (i :: r)) E I L := by
  cases t
  · exact WP.val ho hg hd hlt y (hf rfl)
  · exact WP.val ho hg hd hlt y (ht rfl)
/-- A loud operation of a region in order. -/
theorem WP.loud {i : Nat} {r : List Nat} (ho : ops[i]? = some o) (hg : o.guard = none) (h : WP n (fun a w => o.wp P a w (wpOps P ops Q r) Q) E I L) : WP n (wpOps P ops Q (i :: r)) E I L := WP.cons (WP.oper ho hg h)
theorem WP.loudG {i g e : Nat} {t : Bool} {r : List Nat} {og : Oper} (ho : ops[i]? = some o) (hg : o.guard = some (g, t)) (hog : ops[g]? = some og) (hgd : og.dst = some e) (hv : E.get e = some (.bool t)) (h : WP n (fun a w => o.wp P a w (wpOps P ops Q r) Q) E I L) : WP n (wpOps P ops Q (i :: r)) E I L := WP.cons (WP.operG ho hg hog hgd hv h)


/-! A struct of parts, each a list of cells. -/
inductive SetSeg : List Value → List (Nat × List Value) → List Value → Prop
  | nil {l : List Value} : SetSeg l [] l
  | one {l l1 l2 : List Value} {k : Nat} {v : Value} {t : List (Nat × List Value)} (h : SetAt l k v l1) (r : SetSeg l1 t l2) : SetSeg l ((k, [v]) :: t) l2
  | seg {l l1 l2 vs : List Value} {k : Nat} {t : List (Nat × List Value)} (hk : k + vs.length ≤ l.length) (h : l1 = l.take k ++ vs ++ l.drop (k + vs.length)) (r : SetSeg l1 t l2) : SetSeg l ((k, vs) :: t) l2

/-- Where the parts of a struct or an array lie. -/
def placeTy (P : Program) (t i off sz : Nat) : Bool := match P.underlying t with
  | some (.struct fs) => match fs[i]? with | some f => Nat.beq f.offset off && (match P.info? f.type with | some j => Nat.beq j.size sz | none => false) | none => false
  | some (.array _ e) => (match P.info? e with | some j => Nat.beq (i * j.size) off && Nat.beq j.size sz | none => false)
  | _ => false
def placesTy (P : Program) (t : Nat) : List (Nat × Nat × Nat) → Bool
  | [] => true
  | (i, off, sz) :: r => placeTy P t i off sz && placesTy P t r
/-- All fields of a struct have sizes. -/
def sizedTy (P : Program) (t : Nat) : Bool := match P.underlying t with
  | some (.struct fs) => fs.toList.all fun f => (P.info? f.type).isSome
  | some (.array _ e) => (P.info? e).isSome
  | _ => false

theorem mapM_get {α β : Type} (f : α → Option β) : ∀ (l : List α) (r : List β), l.mapM f = some r → ∀ i : Nat, r[i]? = (l[i]?).bind f
  | [], r, h, i => by simp at h; subst h; simp
  | a :: l, r, h, i => by
    simp only [List.mapM_cons, Option.bind_eq_bind, Option.pure_def, Option.bind_eq_some_iff, Option.some.injEq] at h
    obtain ⟨b, hb, s, hs, rfl⟩ := h
    cases i with
    | zero => simp [hb]
    | succ i => simpa using mapM_get f l s hs i

theorem fold_sets (vs : List Value) : ∀ (off j : Nat) (cs : Array Value), off + j + vs.length ≤ cs.size →
    ((vs.zipIdx j).foldl (fun cs (c, j) => cs.setIfInBounds (off + j) c) cs).toList = cs.toList.take (off + j) ++ vs ++ cs.toList.drop (off + j + vs.length) := by
  induction vs with
  | nil => intro off j cs h; simp
  | cons v vs ih =>
    intro off j cs h
    simp only [List.length_cons] at h
    simp only [List.zipIdx_cons, List.foldl_cons]
    rw [ih off (j + 1) (cs.setIfInBounds (off + j) v) (by simp; omega)]
    have hlt : off + j < cs.toList.length := by simp; omega
    simp only [Array.toList_setIfInBounds]
    rw [List.set_eq_take_append_cons_drop, if_pos hlt]
    have e1 : off + (j + 1) = off + j + 1 := by omega
    have e2 : off + (j + 1) + vs.length = off + j + 1 + vs.length := by omega
    have hl : (cs.toList.take (off + j)).length = off + j := by rw [List.length_take]; simp only [Array.length_toList] at hlt ⊢; omega
    rw [e2, e1, List.take_append, List.drop_append, hl]
    simp only [show off + j + 1 - (off + j) = 1 by omega, show off + j + 1 + vs.length - (off + j) = vs.length + 1 by omega]
    have e3 : List.take (off + j + 1) (List.take (off + j) cs.toList) = List.take (off + j) cs.toList := List.take_of_length_le (by omega)
    have e4 : List.drop (off + j + 1 + vs.length) (List.take (off + j) cs.toList) = [] := List.drop_of_length_le (by omega)
    rw [e3, e4]
    simp only [List.take_succ_cons, List.take_zero, List.drop_succ_cons, List.drop_drop, List.nil_append, List.length_cons, List.append_assoc, List.cons_append]
    rw [show off + j + (vs.length + 1) = off + j + 1 + vs.length by omega]

theorem fill_segs (place : Nat → Option (Nat × Nat)) : ∀ (ps : List (Nat × Value)) (segs : List (Nat × List Value)) (l l' : List Value), SetSeg l segs l' →
    (ps.map fun p => (place p.1, p.2.cells.toList)) = segs.map (fun s => (some (s.1, s.2.length), s.2)) → Instr.fill place l.toArray ps = some l'.toArray
  | [], segs, l, l', h, hp => by
    cases segs with
    | nil => cases h; rfl
    | cons s segs => simp at hp
  | (i, v) :: ps, segs, l, l', h, hp => by
    cases segs with
    | nil => simp at hp
    | cons s segs =>
      simp only [List.map_cons, List.cons.injEq, Prod.mk.injEq] at hp
      obtain ⟨⟨h1, h2⟩, h3⟩ := hp
      have main : ∀ (k : Nat) (vs l1 : List Value), s = (k, vs) → k + vs.length ≤ l.length → l1 = l.take k ++ vs ++ l.drop (k + vs.length) → SetSeg l1 segs l' → Instr.fill place l.toArray ((i, v) :: ps) = some l'.toArray := by
        rintro k vs l1 rfl hk hl hr
        simp only at h1 h2
        have hsz : v.cells.size = vs.length := by rw [← h2]; simp
        have hf := fold_sets vs k 0 l.toArray (by simpa using hk)
        simp only [Nat.add_zero] at hf
        have hcs : v.cells.zipIdx.foldl (fun cs (c, j) => cs.setIfInBounds (k + j) c) l.toArray = l1.toArray := by
          apply Array.ext'
          rw [hl, ← Array.foldl_toList, Array.toList_zipIdx, h2]
          exact hf
        unfold Instr.fill
        simp only [h1, hsz]
        have hno : ¬ (k + vs.length > l.length) := by omega
        simp only [List.size_toArray, bne_self_eq_false, hno, decide_false, Bool.or_false, Bool.false_eq_true, if_false, ne_eq, not_true_eq_false]
        rw [hcs]
        exact fill_segs place ps segs l1 l' hr h3
      cases h with
      | one h r => obtain ⟨h4, rfl⟩ := h.spec; exact main _ _ _ rfl (Nat.succ_le_of_lt h4) (by simp) r
      | seg hk h r => exact main _ _ _ rfl hk h r

theorem Yld.buildS {V : Nat → Obj → Prop} {t : TypeId} {ps : Array (Nat × Operand)} {vs zs cs : List Value} {pl : List (Nat × Nat × Nat)} {segs : List (Nat × List Value)} (hop : o.op = .build t ps) (hz : zeroTy P t zs) (hsd : sizedTy P t = true) (hpl : placesTy P t pl = true)
    (hi : ps.toList.map (·.1) = pl.map (·.1)) (hx : ps.toList.map (fun p => E.ev p.2) = vs.map some) (hsg : pl.map (fun p => (p.2.1, p.2.2)) = segs.map (fun s => (s.1, s.2.length))) (hv : vs.map (fun v => v.cells.toList) = segs.map (·.2)) (hs : SetSeg zs segs cs) : Yld P n E V o (.agg cs.toArray) := by
  obtain ⟨i, z, hi', hz', hc⟩ := hz
  refine Yld.build hop hx ?_
  -- the places
  have key : ∀ place : Nat → Option (Nat × Nat), (∀ i off sz, placeTy P t i off sz = true → place i = some (off, sz)) → Instr.fill place z.cells ((ps.toList.map (·.1)).zip vs) = some cs.toArray := by
    intro place hplace
    rw [hc]
    refine fill_segs place _ segs zs cs hs ?_; rw [hi]
    clear hop hi hx hs hi' hz' hc hsd
    induction pl generalizing vs segs with
    | nil => cases segs <;> simp_all
    | cons p pl ih =>
      cases segs with
      | nil => simp at hsg
      | cons s segs =>
        cases vs with
        | nil => simp at hv
        | cons v vs =>
          simp only [List.map_cons, List.cons.injEq] at hsg hv
          obtain ⟨i, off, sz⟩ := p
          simp only [placesTy, Bool.and_eq_true] at hpl
          simp only [List.map_cons, List.zip_cons_cons, List.cons.injEq]
          refine ⟨?_, ih hpl.2 hsg.2 hv.2⟩
          rw [hplace i off sz hpl.1, hv.1]
          rw [show (off, sz) = (s.1, s.2.length) from hsg.1]
  unfold Program.built
  rw [hi']
  unfold sizedTy at hsd
  cases hu : P.underlying t with
  | none => simp [hu] at hsd
  | some d =>
    cases d with
    | array n e =>
      simp only [hz']
      cases hie : P.info? e with
      | none => simp [hu, hie] at hsd
      | some j =>
        refine key _ fun i off sz h => ?_; simp [placeTy, hu, hie] at h
        obtain ⟨rfl, rfl⟩ := h
        rfl
    | struct fs =>
      simp only [hz']
      simp only [hu, List.all_eq_true] at hsd
      have hm : ∃ r, fs.toList.mapM (fun f => (P.info? f.type).map fun i => (f.offset, i.size)) = some r := by
        generalize fs.toList = l at hsd
        induction l with
        | nil => exact ⟨[], rfl⟩
        | cons f l ih =>
          obtain ⟨r, hr⟩ := ih (fun f hf => hsd f (.tail _ hf))
          obtain ⟨j, hj⟩ := Option.isSome_iff_exists.1 (hsd f (.head _))
          exact ⟨(f.offset, j.size) :: r, by simp [List.mapM_cons, hj, hr]⟩
      obtain ⟨r, hr⟩ := hm
      rw [hr]
      refine key _ fun i off sz h => ?_; have hg := mapM_get _ _ _ hr i
      simp [placeTy, hu] at h
      cases hf : fs[i]? with
      | none => simp [hf] at h
      | some f =>
        simp [hf] at h
        cases hj : P.info? f.type with
        | none => simp [hj] at h
        | some j =>
          simp [hj] at h
          have : fs.toList[i]? = some f := by simpa using hf
          rw [this] at hg
          simp [hj, h.1, h.2] at hg
          simpa using hg
    | _ => simp [hu] at hsd

/-! The frame of a function. -/
def argsEnv : List Value → Nat → Env
  | [], _ => []
  | v :: t, i => (i, v) :: argsEnv t (i + 1)

theorem argsEnv_get : ∀ (vs : List Value) (i j : Nat) (v : Value), (argsEnv vs i).get j = some v → i ≤ j ∧ vs[j - i]? = some v
  | [], _, _, _, h => by simp [argsEnv, Env.get] at h
  | u :: t, i, j, v, h => by
    simp only [argsEnv, Env.get_cons] at h
    split at h
    · rename_i he; subst he; simp at h; simp [h]
    · rename_i he
      obtain ⟨h1, h2⟩ := argsEnv_get t (i + 1) j v h
      refine ⟨by omega, ?_⟩
      have : j - i = (j - (i + 1)) + 1 := by omega
      rw [this]; simpa using h2

def Post (P : Program) (fn : Func) (I : Imm) (F : Chunks) (R : Value → Imm → Chunks → Prop) : Exit → Act → World → Prop :=
  bodyPost P fn fun e W' => ∃ v J L', e = .returned v ∧ I.le J ∧ R v J L' ∧ Has J (L' ++ F) W'

theorem Spec.of {f : FuncId} {fn : Func} {c : Code} {args : List Value} {R : Value → Imm → Chunks → Prop} (hf : P.funcs[f]? = some fn) (hb : fn.body = some c) (hn : fn.ntmps = n) (hle : args.length ≤ n)
    (h : ∀ F, WP n (c.wp P (Post P fn I F R)) (argsEnv args 0) I (L ++ F)) : Spec P f args I L R := fun F W hW => by
  refine calls_of_wp hf hb ((h F).out _ _ ⟨rfl, ?_, ?_⟩ hW)
  · simp [hn]; omega
  · intro i v hv
    obtain ⟨_, h2⟩ := argsEnv_get args 0 i v hv
    have hi : i < args.length := (List.getElem?_eq_some_iff.1 (by simpa using h2)).1
    simp only [Nat.sub_zero] at h2
    rw [Array.getElem?_append_left (by simpa using hi)]
    simpa using h2

theorem WP.fin {fn : Func} {F : Chunks} {R : Value → Imm → Chunks → Prop} {J : Imm} {v : Value} (e : Exit) (he : e = .normal ∨ e = .ret) (hv : ∀ a W, EnvOk n E a → Has J L W → (results fn a.tmps).run P W = .ok v W) (L1 : Chunks) {F' : Chunks} (hp : Take L L1 F') (hl : Leave F' F) (hJ : I.le J) (hR : R v J L1) :
    WP n (fun a w => Post P fn I F R e a w) E J L := .mk fun a W ha hW => by
  have key : a.defers = [] ∧ ∃ v, (results fn a.tmps).run P W = .ok v W ∧ ∃ v' J L', Ending.returned v = .returned v' ∧ I.le J ∧ R v' J L' ∧ Has J (L' ++ F) W :=
    ⟨ha.defers, v, hv a W ha hW, v, J, L1, rfl, hJ, hR, (hW.perm hp.perm).sublist ((List.Sublist.refl L1).append hl.sub)⟩
  rcases he with rfl | rfl <;> exact key

theorem res0 {fn : Func} (h : fn.results = #[]) (a : Act) (W : World) (_ : EnvOk n E a) (_ : Has I L W) : (results fn a.tmps).run P W = .ok (.tuple #[]) W := by
  simp [results, h]
theorem res1 {fn : Func} {r : Nat} {v : Value} (h : fn.results = #[.tmp r]) (hv : E.get r = some v) (a : Act) (W : World) (ha : EnvOk n E a) (_ : Has I L W) : (results fn a.tmps).run P W = .ok v W := by
  have := ha.get _ _ hv
  simp [results, h, this]
theorem res2 {fn : Func} {r s : Nat} {v u : Value} (h : fn.results = #[.tmp r, .tmp s]) (hv : E.get r = some v) (hu : E.get s = some u) (a : Act) (W : World) (ha : EnvOk n E a) (_ : Has I L W) : (results fn a.tmps).run P W = .ok (.tuple #[v, u]) W := by
  have h1 := ha.get _ _ hv
  have h2 := ha.get _ _ hu
  simp [results, h, h1, h2]
theorem res3 {fn : Func} {r s t : Nat} {v u x : Value} (h : fn.results = #[.tmp r, .tmp s, .tmp t]) (hv : E.get r = some v) (hu : E.get s = some u) (hx : E.get t = some x) (a : Act) (W : World) (ha : EnvOk n E a) (_ : Has I L W) : (results fn a.tmps).run P W = .ok (.tuple #[v, u, x]) W := by
  have h1 := ha.get _ _ hv
  have h2 := ha.get _ _ hu
  have h3 := ha.get _ _ hx
  simp [results, h, h1, h2, h3]
/-- A struct as the one result. -/
theorem resC {fn : Func} {r t b T sz : Nat} {vs : List Value} (h : fn.results = #[.cell r t]) (ht : aggTy P t sz = true) (hv : E.get r = some (.pointer (some ⟨b, 0, none⟩))) (hm : There I L b (row T vs)) (hl : vs.length = sz) (a : Act) (W : World) (ha : EnvOk n E a) (hW : Has I L W) :
    (results fn a.tmps).run P W = .ok (.agg vs.toArray) W := by
  subst hl
  have h1 := ha.get _ _ hv
  have := run_loadCells_list (P := P) W ⟨b, 0, none⟩ vs (cells_at (k := 0) (hm.heap hW) (by simp))
  simp [results, h, h1, asAddr, loadVar, aggTy_run ht, this]
end
end Go.Hp
