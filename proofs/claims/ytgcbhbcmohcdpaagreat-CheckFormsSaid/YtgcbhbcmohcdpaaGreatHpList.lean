/-
  Lists of what is owned; results of several kinds; slices written out; slices of numbers that came in.
-/
import Derived.Test.YtgcbhbcmohcdpaaGreatHpMore
set_option linter.unusedVariables false
set_option linter.unusedSimpArgs false
namespace Go.Hp
open Go

/-! One of several alike. -/
theorem flat_out {α : Type} (f : α → Chunks) : ∀ (l : List α) (i : Nat) (hi : i < l.length), (l.flatMap f).Perm (f l[i] ++ (l.eraseIdx i).flatMap f)
  | [], _, h => by simp at h
  | a :: l, 0, _ => by simp
  | a :: l, i + 1, h => by
    simp only [List.flatMap_cons, List.getElem_cons_succ, List.eraseIdx_cons_succ]
    refine (List.Perm.append_left (f a) (flat_out f l i (by simpa using h))).trans ?_; rw [← List.append_assoc, ← List.append_assoc]
    exact List.Perm.append_right _ List.perm_append_comm
section
variable {P : Program} {n : Nat} {E : Env} {I : Imm} {L L' : Chunks} {Q : Exit → Act → World → Prop} {ops : Array Oper} {K : Act → World → Prop} {V : Nat → Obj → Prop} {o : Oper}

theorem WP.outL {α : Type} {f : α → Chunks} {l : List α} {L1 : Chunks} (i : Nat) (hi : i < l.length) (hr : Rm L (l.flatMap f) L1) (h : WP n K E I (f l[i] ++ ((l.eraseIdx i).flatMap f ++ L1))) : WP n K E I L :=
  WP.perm _ (hr.perm.trans ((List.Perm.append_right L1 (flat_out f l i hi)).trans (by rw [List.append_assoc]))) h
theorem WP.inL {α : Type} {f : α → Chunks} {l : List α} {L1 L2 : Chunks} (i : Nat) (hi : i < l.length) (hr : Take L (f l[i]) L1) (hr2 : Rm L1 ((l.eraseIdx i).flatMap f) L2) (h : WP n K E I (l.flatMap f ++ L2)) : WP n K E I L :=
  WP.perm _ (hr.perm.trans ((List.Perm.append_left (f l[i]) hr2.perm).trans (by rw [← List.append_assoc]; exact List.Perm.append_right L2 (flat_out f l i hi).symm))) h
/-! Results. -/
def ResV (P : Program) (E : Env) (I : Imm) (L : Chunks) : ResultVar → Value → Prop
  | .tmp r, v => E.get r = some v
  | .cell r t, v => ∃ b T vs sz, E.get r = some (.pointer (some ⟨b, 0, none⟩)) ∧ There I L b (row T vs) ∧ ((aggTy P t sz = true ∧ vs.length = sz ∧ v = .agg vs.toArray) ∨ (scalarTy P t = true ∧ vs = [v]))
def AllRes (P : Program) (E : Env) (I : Imm) (L : Chunks) : List ResultVar → List Value → Prop
  | [], [] => True
  | r :: rs, v :: vs => ResV P E I L r v ∧ AllRes P E I L rs vs
  | _, _ => False
def resOne (tmps : Array Value) : ResultVar → Sem Value
  | .tmp t => pure (tmps.getD t undef)
  | .cell x t => do loadVar t (← asAddr (tmps.getD x undef))
theorem results_eq (fn : Func) (tmps : Array Value) : results fn tmps = (do let vs ← fn.results.mapM (resOne tmps); pure (if h : vs.size = 1 then vs[0] else .tuple vs)) := by
  unfold results
  congr 1
theorem resV_run {r : ResultVar} {v : Value} (h : ResV P E I L r v) {a : Act} {W : World} (ha : EnvOk n E a) (hW : Has I L W) : (resOne a.tmps r).run P W = .ok v W := by
  cases r with
  | tmp t => have := ha.get _ _ h; simp [resOne, this]
  | cell x t =>
    obtain ⟨b, T, vs, sz, h1, h2, h3⟩ := h
    have h4 := ha.get _ _ h1
    rcases h3 with ⟨h5, rfl, rfl⟩ | ⟨h5, rfl⟩
    · have := run_loadCells_list (P := P) W ⟨b, 0, none⟩ vs (cells_at (k := 0) (h2.heap hW) (by simp))
      simp [resOne, h4, asAddr, loadVar, aggTy_run h5, this]
    · have hc : W.cell? ⟨b, 0, none⟩ = some v := by simp [World.cell?, h2.heap hW, row]
      simp [resOne, h4, asAddr, loadVar, scalarTy_run h5, hc]
theorem allRes_run : ∀ (rs : List ResultVar) (vs : List Value), AllRes P E I L rs vs → ∀ {a : Act} {W : World}, EnvOk n E a → Has I L W → (rs.mapM (resOne a.tmps)).run P W = .ok vs W
  | [], [], _, _, _, _, _ => by simp
  | r :: rs, v :: vs, h, a, W, ha, hW => by
    have h1 := resV_run h.1 ha hW
    have h2 := allRes_run rs vs h.2 ha hW
    rw [List.mapM_cons]
    simp only [Sem.run_bind, h1, Result.andThen_ok, h2, Sem.run_pure]
  | [], _ :: _, h, _, _, _, _ => h.elim
  | _ :: _, [], h, _, _, _, _ => h.elim
theorem resT {fn : Func} {rs : List ResultVar} {vs : List Value} (h : fn.results = rs.toArray) (hv : AllRes P E I L rs vs) (hl : Nat.beq vs.length 1 = false) (a : Act) (W : World) (ha : EnvOk n E a) (hW : Has I L W) : (results fn a.tmps).run P W = .ok (.tuple vs.toArray) W := by
  have hm := allRes_run rs vs hv ha hW
  have hne : ¬ vs.length = 1 := fun e => by rw [e] at hl; simp at hl
  rw [results_eq, h, List.mapM_toArray]
  simp only [Sem.run_bind, Sem.run_map, hm, Result.andThen_ok, Sem.run_pure]
  simp [hne]

/-! Slices written out. -/
theorem Op.buildSlice {t e sz m d : Nat} {z : Value} {ps : Array (Nat × Operand)} {vs : List Value} {segs : List (Nat × List Value)} {cs : List Value} (hop : o.op = .buildSlice t m ps) (ht : sliceTy P t e sz = true) (hi : ∃ i, P.info? e = some i ∧ i.zero = some z) (hz : z.cells.size = sz) (hms : Nat.ble (m * sz) 16777216 = true) (hd : o.dst = some d) (hlt : Nat.blt d n = true)
    (hx : ps.toList.map (fun p => E.ev p.2) = vs.map some) (hsg : (ps.toList.map (·.1)).map (fun i => (i * sz, sz)) = segs.map (fun s => (s.1, s.2.length))) (hv : vs.map (fun v => v.cells.toList) = segs.map (·.2)) (hs : SetSeg ((List.replicate m z.cells.toList).flatten) segs cs)
    (h : ∀ b, WP n K ((d, .slice (some ⟨b, 0, none⟩) m m) :: E) I ((b, row e cs) :: L)) : WP n (fun a w => o.wp P a w K Q) E I L := .mk fun a W ha hW => by
  obtain ⟨i, hi, hz'⟩ := hi
  have ht' := sliceTy_run ht
  have hsz : i.size = sz := size_of_slice ht hi
  subst hsz
  have hmap : (ps.map fun (i, x) => (i, a.eval x)).toList = (ps.toList.map (·.1)).zip vs := by
    obtain ⟨l⟩ := ps
    simp only [List.map_toArray]
    clear hop hsg hv hs
    induction l generalizing vs with
    | nil => simp
    | cons p l ih =>
      cases vs with
      | nil => simp at hx
      | cons v vs =>
        simp only [List.map_cons, List.cons.injEq] at hx
        have := ih hx.2
        simp only [List.map_cons, List.zip_cons_cons, ha.ev hx.1]
        simpa using this
  have hfill : Instr.fill (fun j => some (j * i.size, i.size)) (((List.replicate m z.cells.toList).flatten).toArray) ((ps.toList.map (·.1)).zip vs) = some cs.toArray := by
    refine fill_segs _ _ segs _ cs hs ?_; clear hop hx hs hmap h
    generalize ps.toList.map (·.1) = is at hsg
    induction is generalizing vs segs with
    | nil => cases segs <;> simp_all
    | cons p is ih =>
      cases segs with
      | nil => simp at hsg
      | cons s segs =>
        cases vs with
        | nil => simp at hv
        | cons v vs =>
          simp only [List.map_cons, List.cons.injEq] at hsg hv
          simp only [List.zip_cons_cons, List.map_cons, List.cons.injEq]
          refine ⟨?_, ih hv.2 hsg.2⟩
          rw [hv.1, hsg.1]
  have hle : ¬ (16777216 < m * i.size) := by have := Nat.le_of_ble_eq_true hms; omega
  have hmade := madeCells_flat z.cells i.size m hz
  unfold madeCells at hmade
  rw [hz] at hmade
  have hrun : (execOp a.eval o).run P W = .ok (.value (.slice (some ⟨W.heap.size, 0, none⟩) m m)) (W.alloc (row e cs)) := by
    have hmap' : List.map (fun x => (x.1, a.eval x.2)) ps.toList = (ps.toList.map (·.1)).zip vs := by simpa using hmap
    by_cases h0 : m * i.size = 0
    · have hnil : (List.replicate m z.cells.toList).flatten = [] := List.eq_nil_of_length_eq_zero (by simp [hz, h0])
      rw [hnil] at hfill
      simp [execOp, hop, Instr.buildSlice, run_underlying ht'.1, ht'.2, h0, newRow, row]
      rw [hmap']
      have he : Array.map (fun (_ : Nat) => (default : Value)) (Array.range 0) = ([] : List Value).toArray := by simp
      rw [he, hfill]
      simp
    · simp [execOp, hop, Instr.buildSlice, run_underlying ht'.1, ht'.2, h0, hle, newRow, row, zeroValue, typeInfo, hi, hz', hz, hmade]
      rw [hmap', hfill]
      simp
  show Oper.upon P o a _ _ _
  rw [hrun]
  simp only [Oper.upon, hd]
  exact (h _).out _ _ (ha.put hlt _) (hW.alloc _)

theorem SlRd.lit {b m c T sz : Nat} {cs : List Value} (hm : V b (row T cs)) (hl : cs.length = m * sz) (hc : m ≤ c) : SlRd V (.slice (some ⟨b, 0, none⟩) m c) m sz cs :=
  ⟨_, c, rfl, hc, hl, .inr ⟨b, 0, T, (0, 0), cs.toArray, rfl, hm, by simp⟩⟩

/-- Numbers that came in. -/
theorem Slc.rd {k : IntKind} {v : Value} {xs : List Int} (h : Slc I 1 (fun (a : Int) cs => cs = [.int k a] ∧ (Lit.int k a).wf = true) v xs) : SlRd (There I L) v xs.length 1 (xs.map (Value.int k)) := by
  obtain ⟨A, cap, rfl, hc, h3⟩ := h
  refine ⟨A, cap, rfl, hc, by simp, ?_⟩
  rcases h3 with rfl | ⟨b, kk, arr, T, fr, rfl, hb, hel⟩
  · exact .inl rfl
  · refine .inr ⟨b, kk, T, fr, arr, rfl, .inr hb, ?_⟩
    apply List.ext_getElem?
    intro i
    simp only [List.length_map]
    by_cases hi : i < xs.length
    · have h1 := (hel i xs[i] (List.getElem?_eq_getElem hi)).2.1
      have := take_cells h1 0 _ rfl (by decide)
      rw [List.getElem?_take, if_pos hi, List.getElem?_drop]
      simp only [Nat.mul_one, Nat.add_zero] at this
      rw [this]; simp [hi]
    · rw [List.getElem?_eq_none (by simp; omega), List.getElem?_eq_none (by simp; omega)]
end
end Go.Hp
