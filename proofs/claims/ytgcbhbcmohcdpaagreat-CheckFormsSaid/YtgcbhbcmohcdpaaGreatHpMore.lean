/-
  More operations: structs of whole numbers held against each other; append, make, copy, clear; slices cut.
-/
import Derived.Test.YtgcbhbcmohcdpaaGreatHpTop
set_option linter.unusedVariables false
set_option linter.unusedSimpArgs false
namespace Go.Hp
open Go

/-- A struct of numbers alone, one behind the other. -/
def intFields (P : Program) : List Field → Nat → Bool
  | [], _ => true
  | f :: fs, i => f.name != "_" && Nat.beq f.offset i && (match P.underlying f.type with | some (.int _) => true | _ => false) && intFields P fs (i + 1)
def intsTy (P : Program) (t n : Nat) : Bool := match P.underlying t with
  | some (.struct fs) => Nat.beq fs.size n && intFields P fs.toList 0 && !P.stoodInHeld t && !P.eqGuardType P.depth t
  | _ => false

theorem part_int {P : Program} {t : Nat} (h : (match P.underlying t with | some (.int _) => true | _ => false) = true) (cs : Array Value) (i : Nat) (v : Value) (hv : cs[i]? = some v) (w : World) : (part t cs i).run P w = .ok v w := by
  cases hu : P.underlying t with
  | none => simp [hu] at h
  | some d => cases d <;> simp [hu] at h; simp [part, isAgg, underlying, hu, hv]

theorem eqFields_ints {P : Program} (w : World) (d : Nat) (as bs : List Int) (hl : as.length = bs.length) : ∀ (fs : List Field) (i : Nat), intFields P fs i = true → i + fs.length = as.length →
    (Op.eqFields (d + 1) (as.map (Value.int .i64)).toArray (bs.map (Value.int .i64)).toArray fs).run P w = .ok (decide (as.drop i = bs.drop i)) w
  | [], i, _, h => by
    have h1 : as.drop i = [] := List.drop_of_length_le (by simp at h; omega)
    have h2 : bs.drop i = [] := List.drop_of_length_le (by simp at h; omega)
    simp [Op.eqFields, h1, h2]
  | f :: fs, i, hf, h => by
    simp only [intFields, Bool.and_eq_true, bne_iff_ne, ne_eq] at hf
    obtain ⟨⟨⟨hn, ho⟩, hu⟩, hr⟩ := hf
    have ho' : f.offset = i := Nat.eq_of_beq_eq_true ho
    simp only [List.length_cons] at h
    have hi : i < as.length := by omega
    have hi' : i < bs.length := by omega
    have h1 := part_int hu (as.map (Value.int .i64)).toArray i (.int .i64 as[i]) (by simp [hi]) w
    have h2 := part_int hu (bs.map (Value.int .i64)).toArray i (.int .i64 bs[i]) (by simp [hi']) w
    have hui : ∃ k, P.underlying f.type = some (.int k) := by
      cases hx : P.underlying f.type with
      | none => simp [hx] at hu
      | some dd => cases dd <;> simp [hx] at hu; exact ⟨_, rfl⟩
    obtain ⟨k, hk⟩ := hui
    have ih := eqFields_ints w d as bs hl fs (i + 1) hr (by omega)
    have e1 : as.drop i = as[i] :: as.drop (i + 1) := (List.getElem_cons_drop hi).symm
    have e2 : bs.drop i = bs[i] :: bs.drop (i + 1) := (List.getElem_cons_drop hi').symm
    simp only [Op.eqFields, hn, ne_eq, not_false_eq_true, if_true, Sem.run_bind, ho', h1, h2, Result.andThen_ok, run_equalIn_int w d f.type .i64 k as[i] bs[i] hk, Sem.run_ite, ih]
    have key : decide (as.drop i = bs.drop i) = (decide (as[i] = bs[i]) && decide (as.drop (i + 1) = bs.drop (i + 1))) := by
      rw [e1, e2]; simp only [List.cons.injEq, Bool.decide_and]
    rw [key]
    by_cases he : as[i] = bs[i]
    · simp [he]
    · simp [he]

section
variable {P : Program} {n : Nat} {E : Env} {I : Imm} {L L' : Chunks} {Q : Exit → Act → World → Prop} {ops : Array Oper} {K : Act → World → Prop} {V : Nat → Obj → Prop} {o : Oper}

theorem run_eql_ints {t m : Nat} (h : intsTy P t m = true) (as bs : List Int) (ha : as.length = m) (hb : bs.length = m) (w : World) :
    (Op.equalIn 10000 t (.agg (as.map (Value.int .i64)).toArray) (.agg (bs.map (Value.int .i64)).toArray)).run P w = .ok (decide (as = bs)) w ∧ P.eqGuardType P.depth t = false := by
  unfold intsTy at h
  cases hu : P.underlying t with
  | none => simp [hu] at h
  | some d =>
    cases d <;> simp only [hu] at h <;> try (cases h)
    rename_i fs
    simp only [Bool.and_eq_true, Bool.not_eq_true'] at h
    obtain ⟨⟨⟨h1, h2⟩, h3⟩, h4⟩ := h
    have hf : P.fieldsOf t = fs := by simp [Program.fieldsOf, hu]
    have hm : fs.size = m := Nat.eq_of_beq_eq_true h1
    refine ⟨?_, h4⟩
    rw [show (10000 : Nat) = 9999 + 1 from rfl, run_equalIn_agg w 9999 t _ _ (by rw [hf]; exact hu) h3, hf]
    have := eqFields_ints (P := P) w 9998 as bs (by omega) fs.toList 0 h2 (by simp; omega)
    simpa using this

theorem Yld.eqlInts {x y : Operand} {t t' m : Nat} {us vs : List Int} (hop : o.op = .binOp .eql t x y t') (h : intsTy P t m = true) (hx : E.ev x = some (.agg (us.map (Value.int .i64)).toArray)) (hy : E.ev y = some (.agg (vs.map (Value.int .i64)).toArray)) (ha : us.length = m) (hb : vs.length = m) (c : Bool) (hc : decide (us = vs) = c) :
    Yld P n E V o (.bool c) := fun a W he _ => by
  obtain ⟨h1, h2⟩ := run_eql_ints h us vs ha hb W
  subst hc
  simp [execOp, hop, he.ev hx, he.ev hy, run_eqGuard_agg W .eql t x y _ _ h2, run_eql_struct, h1]
theorem Yld.neqInts {x y : Operand} {t t' m : Nat} {us vs : List Int} (hop : o.op = .binOp .neq t x y t') (h : intsTy P t m = true) (hx : E.ev x = some (.agg (us.map (Value.int .i64)).toArray)) (hy : E.ev y = some (.agg (vs.map (Value.int .i64)).toArray)) (ha : us.length = m) (hb : vs.length = m) (c : Bool) (hc : decide (us ≠ vs) = c) :
    Yld P n E V o (.bool c) := fun a W he _ => by
  obtain ⟨h1, h2⟩ := run_eql_ints h us vs ha hb W
  have hc' : (!decide (us = vs)) = c := by rw [← hc]; simp
  simp [execOp, hop, he.ev hx, he.ev hy, run_eqGuard_agg W .neq t x y _ _ h2, run_neq_struct, h1, hc']

/-! What came in. -/
theorem take_cells {l vs : List Value} {k m : Nat} (h : (l.drop k).take m = vs) (j : Nat) (v : Value) (hv : vs[j]? = some v) (hj : j < m) : l[k + j]? = some v := by
  rw [← h, List.getElem?_take, if_pos hj, List.getElem?_drop] at hv; exact hv
theorem Yld.loadAggC {x : Operand} {t b k sz : Nat} {T : TypeId} {fr : Nat × Nat} {arr : Array Value} {vs : List Value} (hop : o.op = .load t x) (ht : aggTy P t sz = true) (hx : E.ev x = some (.pointer (some ⟨b, k, none⟩)))
    (hm : V b (.cells arr T fr)) (hv : (arr.toList.drop k).take sz = vs) (hl : vs.length = sz) : Yld P n E V o (.agg vs.toArray) := fun a W ha hV => by
  subst hl
  have := run_loadCells_list (P := P) W ⟨b, k, none⟩ vs (fun j v h => by
    have hj : j < vs.length := (List.getElem?_eq_some_iff.1 h).1
    have := take_cells hv j v h hj
    simp [add_at, World.cell?, hV _ _ hm]
    simpa using this)
  simp [execOp, hop, ha.ev hx, Instr.loadAt, Instr.sureAddr, loadVar, aggTy_run ht, this]
theorem Yld.rem {x y : Operand} {t t' : TypeId} {k : IntKind} {a b : Int} (hop : o.op = .binOp .rem t x y t') (hx : E.ev x = some (.int k a)) (hy : E.ev y = some (.int k b)) (h : b ≠ 0) : Yld P n E V o (.int k (a.tmod b)) :=
  Yld.arith hop hx hy fun W => by simp [binOp, Op.intDiv, h]
/-! Bools and texts. -/
theorem bytes_ne {p q : ByteArray} (h : ¬ p = q) : ¬ p.toList = q.toList := fun e => h (by
  rw [ByteArray.toList_eq, ByteArray.toList_eq] at e
  obtain ⟨a⟩ := p
  obtain ⟨b⟩ := q
  exact congrArg ByteArray.mk (Array.ext' e))
theorem size_of_slice {P : Program} {t e sz : Nat} {i : TypeInfo} (ht : sliceTy P t e sz = true) (hi : P.info? e = some i) : i.size = sz := by
  unfold sliceTy at ht
  cases hu : P.underlying t with
  | none => simp [hu] at ht
  | some d => cases d <;> simp [hu, hi] at ht; exact ht.2
theorem flat_get (z : List Value) (sz : Nat) (hz : z.length = sz) (h0 : 0 < sz) : ∀ (c j : Nat), j < c * sz → (List.replicate c z).flatten[j]? = z[j % sz]? := by
  intro c
  induction c with
  | zero => intro j hj; omega
  | succ c ih =>
    intro j hj
    rw [List.replicate_succ, List.flatten_cons]
    by_cases h1 : j < sz
    · rw [List.getElem?_append_left (by omega), Nat.mod_eq_of_lt h1]
    · rw [List.getElem?_append_right (by omega), hz, ih (j - sz) (by rw [Nat.succ_mul] at hj; omega)]
      congr 1
      rw [← Nat.mod_eq_sub_mod (by omega)]
theorem madeCells_flat (z : Array Value) (sz c : Nat) (hz : z.size = sz) : madeCells z (c * sz) = ((List.replicate c z.toList).flatten).toArray := by
  apply Array.ext'
  simp only [madeCells, Array.toList_map, Array.toList_range]
  apply List.ext_getElem?
  intro j
  rw [List.getElem?_map]
  by_cases hj : j < c * sz
  · have h0 : 0 < sz := by
      rcases Nat.eq_zero_or_pos sz with h | h
      · rw [h] at hj; omega
      · exact h
    rw [List.getElem?_range hj, flat_get z.toList sz (by simpa using hz) h0 c j hj]
    have hjm : j % sz < z.size := by rw [hz]; exact Nat.mod_lt _ h0
    simp only [Option.map_some, hz]
    rw [getElem!_pos z (j % sz) hjm]
    simp [hjm]
  · rw [List.getElem?_eq_none (by simp; omega), List.getElem?_eq_none (by simp [hz]; omega)]; rfl

theorem eqGuard_str {op : BinOp} {t : TypeId} {x y : Operand} {a b : ByteArray} (W : World) : (eqGuard op t x y (.string a) (.string b)).run P W = .ok () W := by
  unfold eqGuard; split <;> simp
theorem Yld.eqlStr {x y : Operand} {t t' : Nat} {p q : ByteArray} (hop : o.op = .binOp .eql t x y t') (hx : E.ev x = some (.string p)) (hy : E.ev y = some (.string q)) (c : Bool) (hc : decide (p = q) = c) : Yld P n E V o (.bool c) := fun a W he _ => by
  subst hc
  simp [execOp, hop, he.ev hx, he.ev hy, eqGuard_str, binOp, Op.stringOp]
  by_cases h : p = q
  · simp [h]
  · simp [h, bytes_ne h]
theorem Yld.neqStr {x y : Operand} {t t' : Nat} {p q : ByteArray} (hop : o.op = .binOp .neq t x y t') (hx : E.ev x = some (.string p)) (hy : E.ev y = some (.string q)) (c : Bool) (hc : decide (p ≠ q) = c) : Yld P n E V o (.bool c) := fun a W he _ => by
  subst hc
  simp [execOp, hop, he.ev hx, he.ev hy, eqGuard_str, binOp, Op.stringOp]
  by_cases h : p = q
  · simp [h]
  · simp [h, bytes_ne h]

/-! make. -/
theorem Op.make {t e sz bytes d : Nat} {x y : Operand} {z : Value} {k1 k2 : IntKind} {l c : Nat} (hop : o.op = .makeSlice t x y) (ht : sliceTy P t e sz = true) (hi : ∃ i, P.info? e = some i ∧ i.zero = some z ∧ i.bytes = bytes) (hz : z.cells.size = sz) (hd : o.dst = some d) (hlt : Nat.blt d n = true)
    (hx : E.ev x = some (.int k1 l)) (hy : E.ev y = some (.int k2 c)) (hlc : l ≤ c) (hb : bytes * c ≤ 281474976710656) (h63 : c ≤ 9223372036854775807)
    (h : ∀ b, WP n K ((d, .slice (some ⟨b, 0, none⟩) l c) :: E) I ((b, row e ((List.replicate c z.cells.toList).flatten)) :: L)) : WP n (fun a w => o.wp P a w K Q) E I L := .mk fun a W ha hW => by
  obtain ⟨i, hi, hz', hby⟩ := hi
  have ht' := sliceTy_run ht
  have hsz : i.size = sz := size_of_slice ht hi
  have hm := run_make (P := P) W t e i z ht'.1 hi hz' k1 k2 l c (by omega) (by omega) (by rw [hby, ← Int.natCast_mul]; omega) (by omega)
  simp only [Int.toNat_natCast, hsz] at hm
  have hcs := madeCells_flat z.cells sz c hz
  have hrun : (execOp a.eval o).run P W = .ok (.value (.slice (some ⟨W.heap.size, 0, none⟩) l c)) (W.alloc (row e ((List.replicate c z.cells.toList).flatten))) := by
    simp only [execOp, hop, ha.ev hx, ha.ev hy, Sem.run_bind, hm, Result.andThen_ok, Sem.run_pure, hcs]
    rfl
  show Oper.upon P o a _ _ _
  rw [hrun]
  simp only [Oper.upon, hd]
  exact (h _).out _ _ (ha.put hlt _) (hW.alloc _)

/-! append. -/
theorem SlRd.keeps {V : Nat → Obj → Prop} {v : Value} {m sz : Nat} {cs : List Value} (h : SlRd V v m sz cs) {W W' : World} (hV : Keeps V W) (hw : ∀ (b : Nat) (o : Obj), W.heap[b]? = some o → W'.heap[b]? = some o) : Keeps V W' := fun b o hv => hw b o (hV b o hv)

theorem SlRd.slice {V : Nat → Obj → Prop} {v : Value} {m sz : Nat} {cs : List Value} (h : SlRd V v m sz cs) : ∃ A c, v = .slice A m c := by
  obtain ⟨A, c, h, _⟩ := h; exact ⟨A, c, h⟩

/-- append to a slice of one's own (or nil), of what may be read. -/
theorem Op.append {t e sz bytes d : Nat} {x y : Operand} {z : Value} {v u : Value} {ln m : Nat} {xs cs : List Value} {Lo F : Chunks} (hop : o.op = .call { callee := .builtin .append, args := #[x, y], argTypes := #[t, t] }) (ht : sliceTy P t e sz = true) (hi : ∃ i, P.info? e = some i ∧ i.zero = some z ∧ i.bytes = bytes) (hz : z.cells.size = sz)
    (hd : o.dst = some d) (hlt : Nat.blt d n = true) (hx : E.ev x = some v) (hy : E.ev y = some u) (ho : Own e sz v xs ln Lo) (hr : SlRd (There I L) u m sz cs) (hp : Take L (Lo ++ []) F) (h1 : cs.all (·.oneCell') = true) (hb : (ln + m) * bytes ≤ 140737488355328) (h63 : ln + m ≤ 9223372036854775807)
    (h : ∀ v' Lo', Own e sz v' (xs ++ cs) (ln + m) Lo' → WP n K ((d, v') :: E) I (Lo' ++ F)) : WP n (fun a w => o.wp P a w K Q) E I L := .mk fun a W ha hW => by
  obtain ⟨i, hi, hz', hby⟩ := hi
  obtain ⟨htu, hsz⟩ := sliceTy_run ht
  have hsz' : i.size = sz := size_of_slice ht hi
  subst hsz'
  have hV : Keeps (There I L) W := fun b o h => h.heap hW
  have hcl : cs.length = m * i.size := by obtain ⟨_, _, _, _, h, _⟩ := hr; exact h
  have hf := hr.first (P := P) hV m (Nat.le_refl _)
  have hfd := hr.first (P := P) (W := W.drew) hV m (Nat.le_refl _)
  rw [List.take_of_length_le (by omega)] at hf hfd
  have hLW : Has I (Lo ++ F) W := by have := hW.perm hp.perm; simpa using this
  suffices hs : ∃ v' W' Lo', (Builtin.append_ #[t, t] o.type #[v, u]).run P W = .ok v' W' ∧ Own e i.size v' (xs ++ cs) (ln + m) Lo' ∧ Has I (Lo' ++ F) W' by
    obtain ⟨v', W', Lo', h2, h3, h4⟩ := hs
    have hrun : (execOp a.eval o).run P W = .ok (.value v') W' := by
      simp only [execOp, hop, resolve, invoke, builtin, Sem.run_bind, Sem.run_pure, Result.andThen_ok, List.map_toArray, List.map_cons, List.map_nil, ha.ev hx, ha.ev hy, h2]
    show Oper.upon P o a _ _ _
    rw [hrun]
    simp only [Oper.upon, hd]
    exact (h v' Lo' h3).out _ _ (ha.put hlt _) h4
  obtain ⟨A, c, rfl⟩ := hr.slice
  have grow : ∀ (B : Option Addr) (cp : Nat) (old : List Value), v = .slice B ln cp → cp < ln + m → old.length = ln * i.size → old = xs → (∀ w : World, (∀ (b : Nat) (o : Obj), W.heap[b]? = some o → w.heap[b]? = some o) → (Builtin.firstCells i.size ln v).run P w = .ok old.toArray w) →
      ∃ v' W' Lo', (Builtin.append_ #[t, t] o.type #[v, .slice A m c]).run P W = .ok v' W' ∧ Own e i.size v' (xs ++ cs) (ln + m) Lo' ∧ Has I (Lo' ++ F) W' := by
    rintro B cp old rfl hcap hol rfl hfo
    have hn : ¬ (ln + m ≤ cp) := by omega
    have h63' : ¬ (9223372036854775807 < ((ln : Int) + (m : Int))) := by omega
    have h48' : ¬ (281474976710656 < Builtin.nextslicecap (ln + m) cp * i.bytes) := by
      have := growslice_fits (need := ln + m) (old := cp) (bytes := i.bytes) (by omega) (by rw [hby]; exact hb)
      omega
    have hge : ln + m ≤ grownCap W (ln + m) cp e := by simp [grownCap, Question.cut]
    have hzc : (Builtin.zeroCells z.cells (grownCap W (ln + m) cp e - (ln + m))).size = (grownCap W (ln + m) cp e - (ln + m)) * i.size := by simp [Builtin.zeroCells, hz]
    refine ⟨.slice (some ⟨W.heap.size, 0, none⟩) (ln + m) (grownCap W (ln + m) cp e), W.drew.alloc (row e (old ++ cs ++ (Builtin.zeroCells z.cells (grownCap W (ln + m) cp e - (ln + m))).toList)), [(W.heap.size, row e (old ++ cs ++ (Builtin.zeroCells z.cells (grownCap W (ln + m) cp e - (ln + m))).toList))], ?_, .blk (by simp [hol, hcl, Nat.add_mul]) ?_ hge, ?_⟩
    · have hfo' := hfo W.drew (fun b o h => h)
      simp [Builtin.append_, run_underlying htu, sizeOf, typeInfo, zeroValue, hi, hz', Builtin.lenOf, hn, h63', h48', Question.forced, hfd, hfo', newRow, grownCap, row]
      try (congr 2)
      try (apply Array.ext'; simp)
    · simp only [List.length_append, hol, hcl, Array.length_toList, hzc]
      rw [← Nat.add_mul, ← Nat.add_mul]
      congr 1
      omega
    · have : Has I ((W.drew.heap.size, _) :: (Lo ++ F)) (W.drew.alloc _) := (Has.alloc (W := W.drew) hLW.drew (row e (old ++ cs ++ (Builtin.zeroCells z.cells (grownCap W (ln + m) cp e - (ln + m))).toList)))
      exact this.sublist (List.Sublist.cons_cons _ (List.sublist_append_right _ _))
  cases ho with
  | none0 =>
    rcases Nat.eq_zero_or_pos m with rfl | hm
    · have hnil : cs = [] := List.eq_nil_of_length_eq_zero (by omega)
      subst hnil
      refine ⟨.slice none 0 0, W, [], ?_, by simpa using Own.none0, hLW⟩
      simp [Builtin.append_, run_underlying htu, sizeOf, typeInfo, hi, Builtin.lenOf, hf]
    · exact grow none 0 [] rfl (by omega) (by simp) rfl (fun w _ => by simp [Builtin.firstCells])
  | @blk b cap _ _ sp hl h2 h3 =>
    have hown : W.heap[b]? = some (row e (xs ++ sp)) := hLW.own (b, row e (xs ++ sp)) (by simp)
    by_cases hroom : ln + m ≤ cap
    · -- there is room
      have hfit : ln * i.size + cs.length ≤ (xs ++ sp).length := by
        rw [List.length_append, h2, hcl, ← Nat.add_mul]; exact Nat.mul_le_mul_right _ hroom
      have hst := run_storeCells_at P b (ln * i.size) e cs 0 (xs ++ sp).toArray W hown (by simpa using hfit) (List.all_eq_true.1 h1)
      have hxl : (xs ++ sp).take (ln * i.size) = xs := by rw [← hl]; simp
      have hdl : (xs ++ sp).drop (ln * i.size + cs.length) = sp.drop cs.length := by rw [← hl]; simp [List.drop_append]
      simp only [Nat.add_zero, hxl, hdl] at hst
      refine ⟨.slice (some ⟨b, 0, none⟩) (ln + m) cap, W.setRow b (xs ++ cs ++ sp.drop cs.length).toArray, [(b, row e (xs ++ cs ++ sp.drop cs.length))], ?_, ?_, ?_⟩
      · simp [Builtin.append_, run_underlying htu, sizeOf, typeInfo, hi, Builtin.lenOf, hroom, hf, add_at]
        have hst' := hst
        simp only [List.append_assoc] at hst'
        rw [hst']
        simp
      · have := Own.blk (T := e) (sz := i.size) (b := b) (cap := cap) (n := ln + m) (xs := xs ++ cs) (sp := sp.drop cs.length) (by simp [hl, hcl, Nat.add_mul]) (by
          simp only [List.length_append, List.length_drop] at hfit ⊢; omega) hroom
        simpa using this
      · have hLW' : Has I ((b, row e (xs ++ sp)) :: F) W := by simpa using hLW
        exact hLW'.setRow (b := b) (T := e) (cs := xs ++ sp) (cs' := xs ++ cs ++ sp.drop cs.length) .head
    · refine grow (some ⟨b, 0, none⟩) cap xs rfl (by omega) hl rfl fun w hw => ?_
      have hwb : w.heap[b]? = some (row e (xs ++ sp)) := hw _ _ hown
      exact run_firstCells_some (P := P) w i.size ln ⟨b, 0, none⟩ ln cap xs hl (cells_at (k := 0) hwb (by simp))
end
end Go.Hp
