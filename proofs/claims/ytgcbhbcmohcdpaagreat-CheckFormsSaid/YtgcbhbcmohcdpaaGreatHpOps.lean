/-
  The operations one by one: those that only compute or read ('Yld'), and those that change what is owned.
-/
import Derived.Test.YtgcbhbcmohcdpaaGreatHpDraw
set_option linter.unusedVariables false
set_option linter.unusedSimpArgs false
namespace Go.Hp
open Go

/-! What is asked of a type: closed facts. -/
def scalarTy (P : Program) (t : TypeId) : Bool := match P.underlying t with | some (.struct _) | some (.array _ _) | none => false | some _ => true
def aggTy (P : Program) (t : TypeId) (sz : Nat) : Bool := match P.underlying t, P.info? t with | some (.struct _), some i | some (.array _ _), some i => Nat.beq i.size sz | _, _ => false
def fieldTy (P : Program) (s f off : Nat) : Bool := match P.underlying s with
  | some (.struct fs) => match fs[f]? with
    | some x => Nat.beq x.offset off && match P.info? x.type with | some i => !(Nat.beq i.size 0) | none => false
    | none => false
  | _ => false
def sizeTy (P : Program) (t : TypeId) (sz : Nat) : Bool := match P.info? t with | some i => Nat.beq i.size sz | none => false
def sliceTy (P : Program) (t e sz : Nat) : Bool := match P.underlying t, P.info? e with | some (.slice e'), some i => Nat.beq e e' && Nat.beq i.size sz | _, _ => false
def arrTy (P : Program) (t len e sz : Nat) : Bool := match P.underlying t, P.info? e with | some (.array l e'), some i => Nat.beq e e' && Nat.beq l len && Nat.beq i.size sz | _, _ => false
def zeroTy (P : Program) (t : TypeId) (zs : List Value) : Prop := ∃ i z, P.info? t = some i ∧ i.zero = some z ∧ z.cells = zs.toArray

theorem scalarTy_run {P : Program} {t : TypeId} (h : scalarTy P t = true) (w : World) : (isAgg t).run P w = .ok false w := by
  unfold scalarTy at h
  cases hu : P.underlying t with
  | none => simp [hu] at h
  | some d => cases d <;> simp [hu] at h <;> simp [isAgg, underlying, hu]
theorem aggTy_run {P : Program} {t : TypeId} {sz : Nat} (h : aggTy P t sz = true) (w : World) : (isAgg t).run P w = .ok true w ∧ (sizeOf t).run P w = .ok sz w := by
  unfold aggTy at h
  cases hu : P.underlying t with
  | none => simp [hu] at h
  | some d =>
    cases hi : P.info? t with
    | none => cases d <;> simp [hu, hi] at h
    | some i => cases d <;> simp [hu, hi] at h <;> simp [isAgg, underlying, hu, sizeOf, typeInfo, hi, h]
theorem sizeTy_run {P : Program} {t : TypeId} {sz : Nat} (h : sizeTy P t sz = true) (w : World) : (sizeOf t).run P w = .ok sz w := by
  unfold sizeTy at h
  cases hi : P.info? t with
  | none => simp [hi] at h
  | some i => simp [hi] at h; simp [sizeOf, typeInfo, hi, h]
theorem fieldTy_run {P : Program} {s f off : Nat} (h : fieldTy P s f off = true) (w : World) (a : Addr) : (Instr.fieldAt s (.pointer (some a)) f).run P w = .ok (.pointer (some (a.add off))) w := by
  unfold fieldTy at h
  cases hu : P.underlying s with
  | none => simp [hu] at h
  | some d =>
    cases d <;> simp [hu] at h
    rename_i fs
    cases hf : fs[f]? with
    | none => simp [hf] at h
    | some x =>
      simp [hf] at h
      obtain ⟨h1, h2⟩ := h
      cases hi : P.info? x.type with
      | none => simp [hi] at h2
      | some i =>
        simp [hi] at h2
        have h3 : i.size ≠ 0 := fun e => by rw [e] at h2; simp at h2
        simp [Instr.fieldAt, underlying, hu, hf, Instr.sureAddr, fieldPlace, sizeOf, typeInfo, hi, h1, h3]
theorem add_at (b k off : Nat) : (⟨b, k, none⟩ : Addr).add off = ⟨b, k + off, none⟩ := by
  unfold Addr.add
  split
  · rename_i h; subst h; rfl
  · rfl
theorem sliceTy_run {P : Program} {t e sz : Nat} (h : sliceTy P t e sz = true) : P.underlying t = some (.slice e) ∧ ∀ w, (sizeOf e).run P w = .ok sz w := by
  unfold sliceTy at h
  cases hu : P.underlying t with
  | none => simp [hu] at h
  | some d =>
    cases hi : P.info? e with
    | none => cases d <;> simp [hu, hi] at h
    | some i =>
      cases d <;> simp [hu, hi] at h
      obtain ⟨rfl, h2⟩ := h
      exact ⟨rfl, fun w => by simp [sizeOf, typeInfo, hi, h2]⟩
theorem arrTy_run {P : Program} {t len e sz : Nat} (h : arrTy P t len e sz = true) : P.underlying t = some (.array len e) ∧ ∀ w, (sizeOf e).run P w = .ok sz w := by
  unfold arrTy at h
  cases hu : P.underlying t with
  | none => simp [hu] at h
  | some d =>
    cases hi : P.info? e with
    | none => cases d <;> simp [hu, hi] at h
    | some i =>
      cases d <;> simp [hu, hi] at h
      obtain ⟨⟨rfl, rfl⟩, h2⟩ := h
      exact ⟨rfl, fun w => by simp [sizeOf, typeInfo, hi, h2]⟩

/-- In each such state, in each world that shows V, the operation hands back v and does nothing else. -/
def Yld (P : Program) (n : Nat) (E : Env) (V : Nat → Obj → Prop) (o : Oper) (v : Value) : Prop :=
  ∀ a W, EnvOk n E a → Keeps V W → (execOp a.eval o).run P W = .ok (.value v) W

section
variable {P : Program} {n : Nat} {E : Env} {I : Imm} {L : Chunks} {Q : Exit → Act → World → Prop} {ops : Array Oper} {K : Act → World → Prop} {s : Nat} {V V1 V2 : Nat → Obj → Prop}

theorem WP.val {i d : Nat} {r : List Nat} {o : Oper} {v : Value} (ho : ops[i]? = some o) (hg : o.guard = none) (hd : o.dst = some d) (hlt : Nat.blt d n = true) (y : Yld P n E (There I L) o v)
    (k : WP n (wpOps P ops Q r) ((d, v) :: E) I L) : WP n (wpOps P ops Q (i :: r)) E I L :=
  WP.cons (WP.oper ho hg <| .mk fun a W ha hW => by
    show Oper.upon P o a _ _ _
    rw [y a W ha (fun b o h => h.heap hW)]
    simp only [Oper.upon, hd]
    exact k.out _ _ (ha.put hlt v) hW)
theorem WP.valG {i d g e : Nat} {t : Bool} {r : List Nat} {o og : Oper} {v : Value} (ho : ops[i]? = some o) (hg : o.guard = some (g, t)) (hog : ops[g]? = some og) (hgd : og.dst = some e) (hv : E.get e = some (.bool t))
    (hd : o.dst = some d) (hlt : Nat.blt d n = true) (y : Yld P n E (There I L) o v)
    (k : WP n (wpOps P ops Q r) ((d, v) :: E) I L) : WP n (wpOps P ops Q (i :: r)) E I L :=
  WP.cons (WP.operG ho hg hog hgd hv <| .mk fun a W ha hW => by
    show Oper.upon P o a _ _ _
    rw [y a W ha (fun b o h => h.heap hW)]
    simp only [Oper.upon, hd]
    exact k.out _ _ (ha.put hlt v) hW)
theorem WP.passG {i d g e : Nat} {t : Bool} {u : Value} {r : List Nat} {o og : Oper} (ho : ops[i]? = some o) (hg : o.guard = some (g, t)) (hog : ops[g]? = some og) (hgd : og.dst = some e) (hv : E.get e = some u) (hne : isB u t = false)
    (hd : o.dst = some d) (hlt : Nat.blt d n = true)
    (k : WP n (wpOps P ops Q r) ((d, undef) :: E) I L) : WP n (wpOps P ops Q (i :: r)) E I L := WP.cons (WP.operS ho hg hog hgd hv hne hd hlt k)
/-- In a region that draws its order. -/
theorem WD.val {i d fuel : Nat} {o : Oper} {v : Value} {l l' : List Bool} (ho : ops[i]? = some o) (hg : o.guard = none) (hd : o.dst = some d) (hlt : Nat.blt d n = true)
    (hchk : (Region.noSelect ops && Region.free .any ops l.toArray i && (Region.ready .any ops l.toArray).contains i && !(Nat.beq i s)) = true) (hl : l.set i true = l')
    (y : Yld P n E V2 o v) (h : WD P n ops K s V1 V2 fuel l' ((d, v) :: E) I L) : WD P n ops K s V1 V2 (fuel + 1) l E I L :=
  WD.take ho hd hlt (fun a _ => by simp [Region.wanted, hg]) hchk hl (fun a w ha ⟨_, _, _, hS⟩ => y a w ha hS.2) h
theorem WD.val1 {i d fuel : Nat} {o : Oper} {v : Value} {l l' : List Bool} (ho : ops[i]? = some o) (hg : o.guard = none) (hd : o.dst = some d) (hlt : Nat.blt d n = true)
    (hchk : (Region.noSelect ops && Region.free .any ops l.toArray i && (Region.ready .any ops l.toArray).contains i && !(Nat.beq i s)) = true) (hl : l.set i true = l')
    (hwt : waits .any ops i ops.size s = true)
    (y : Yld P n E (fun b o => V1 b o ∨ V2 b o) o v) (h : WD P n ops K s V1 V2 fuel l' ((d, v) :: E) I L) : WD P n ops K s V1 V2 (fuel + 1) l E I L :=
  WD.take ho hd hlt (fun a _ => by simp [Region.wanted, hg]) hchk hl (fun a w ha ⟨m, hcl, hmi, hS⟩ => by
    have hms : m.getD s false = false := by
      cases hb : m.getD s false with
      | false => rfl
      | true =>
        have := waits_spec hcl i _ _ hwt hb
        have h2 := getD_true_false hmi
        simp only [Array.getD_eq_getD_getElem?, Array.getElem?_eq_getElem h2, Option.getD_some] at this hmi
        rw [this] at hmi; cases hmi
    exact y a w ha fun b o h => h.elim (hS.1 hms b o) (hS.2 b o)) h
theorem WD.valG {i d fuel g e : Nat} {t : Bool} {o og : Oper} {v : Value} {l l' : List Bool} (ho : ops[i]? = some o) (hg : o.guard = some (g, t)) (hog : ops[g]? = some og) (hgd : og.dst = some e) (hv : E.get e = some (.bool t)) (hd : o.dst = some d) (hlt : Nat.blt d n = true)
    (hchk : (Region.noSelect ops && Region.free .any ops l.toArray i && (Region.ready .any ops l.toArray).contains i && !(Nat.beq i s)) = true) (hl : l.set i true = l')
    (y : Yld P n E V2 o v) (h : WD P n ops K s V1 V2 fuel l' ((d, v) :: E) I L) : WD P n ops K s V1 V2 (fuel + 1) l E I L :=
  WD.take ho hd hlt (fun a ha => by simp [Region.wanted, hg, yielded, hog, hgd, ha.get _ _ hv]) hchk hl (fun a w ha ⟨_, _, _, hS⟩ => y a w ha hS.2) h
theorem WD.passG {i d fuel g e : Nat} {t : Bool} {u : Value} {o og : Oper} {l l' : List Bool} (ho : ops[i]? = some o) (hg : o.guard = some (g, t)) (hog : ops[g]? = some og) (hgd : og.dst = some e) (hv : E.get e = some u) (hne : isB u t = false) (hd : o.dst = some d) (hlt : Nat.blt d n = true)
    (hchk : (Region.noSelect ops && Region.free .any ops l.toArray i && (Region.ready .any ops l.toArray).contains i && !(Nat.beq i s)) = true) (hl : l.set i true = l')
    (h : WD P n ops K s V1 V2 fuel l' ((d, undef) :: E) I L) : WD P n ops K s V1 V2 (fuel + 1) l E I L :=
  WD.pass ho hd hlt (fun a ha => unwanted hg hog hgd (ha.get _ _ hv) hne) hchk hl h
theorem WD.loud {i fuel : Nat} {o : Oper} {l l' : List Bool} (hr : Region.ready .any ops l.toArray = [i]) (hl : l.set i true = l') (ho : ops[i]? = some o) (hg : o.guard = none)
    (h : WP n (fun a w => o.wp P a w (WD.after P ops K s V1 V2 fuel l') (onlyN K)) E I L) : WD P n ops K s V1 V2 (fuel + 1) l E I L := WD.one hr hl (WP.oper ho hg h)
theorem WD.loudG {i fuel g e : Nat} {b : Bool} {o og : Oper} {l l' : List Bool} (hr : Region.ready .any ops l.toArray = [i]) (hl : l.set i true = l') (ho : ops[i]? = some o) (hg : o.guard = some (g, b)) (hog : ops[g]? = some og) (hgd : og.dst = some e) (hv : E.get e = some (.bool b))
    (h : WP n (fun a w => o.wp P a w (WD.after P ops K s V1 V2 fuel l') (onlyN K)) E I L) : WD P n ops K s V1 V2 (fuel + 1) l E I L := WD.one hr hl (WP.operG ho hg hog hgd hv h)

/-! ### What computes -/
theorem Yld.move {o : Oper} {x : Operand} {v : Value} (hop : o.op = .move x) (hx : E.ev x = some v) : Yld P n E V o v := fun a W ha _ => by
  simp [execOp, hop, ha.ev hx]
theorem Yld.assign {o : Oper} {x : Operand} {v : Value} (hop : o.op = .assign x) (hx : E.ev x = some v) : Yld P n E V o v := fun a W ha _ => by
  simp [execOp, hop, ha.ev hx]
theorem Yld.pickT {o : Oper} {c x y : Operand} {v : Value} (hop : o.op = .pick c x y) (hc : E.ev c = some (.bool true)) (hx : E.ev x = some v) : Yld P n E V o v := fun a W ha _ => by
  simp [execOp, hop, ha.ev hx, ha.ev hc, asBool]
theorem Yld.pickF {o : Oper} {c x y : Operand} {v : Value} (hop : o.op = .pick c x y) (hc : E.ev c = some (.bool false)) (hy : E.ev y = some v) : Yld P n E V o v := fun a W ha _ => by
  simp [execOp, hop, ha.ev hy, ha.ev hc, asBool]
theorem Yld.nilCheck {o : Oper} {x : Operand} {p : Addr} (hop : o.op = .nilCheck x) (hx : E.ev x = some (.pointer (some p))) : Yld P n E V o (.pointer (some p)) := fun a W ha _ => by
  simp [execOp, hop, ha.ev hx]
theorem Yld.fieldAddr {o : Oper} {x : Operand} {s f off b k : Nat} (hop : o.op = .fieldAddr s x f) (hf : fieldTy P s f off = true) (hx : E.ev x = some (.pointer (some ⟨b, k, none⟩))) :
    Yld P n E V o (.pointer (some ⟨b, k + off, none⟩)) := fun a W ha _ => by
  simp [execOp, hop, ha.ev hx, fieldTy_run hf, add_at]
theorem Yld.load {o : Oper} {x : Operand} {t b k : Nat} {T : TypeId} {cs : List Value} {v : Value} (hop : o.op = .load t x) (ht : scalarTy P t = true) (hx : E.ev x = some (.pointer (some ⟨b, k, none⟩)))
    (hm : V b (row T cs)) (hv : cs[k]? = some v) : Yld P n E V o v := fun a W ha hV => by
  have hc : W.cell? ⟨b, k, none⟩ = some v := by simp [World.cell?, hV _ _ hm, row, hv]
  simp [execOp, hop, ha.ev hx, Instr.loadAt, Instr.sureAddr, loadVar, scalarTy_run ht, hc]
theorem Yld.loadC {o : Oper} {x : Operand} {t b k : Nat} {T : TypeId} {fr : Nat × Nat} {cs : Array Value} {v : Value} (hop : o.op = .load t x) (ht : scalarTy P t = true) (hx : E.ev x = some (.pointer (some ⟨b, k, none⟩)))
    (hm : V b (.cells cs T fr)) (hv : cs[k]? = some v) : Yld P n E V o v := fun a W ha hV => by
  have hc : W.cell? ⟨b, k, none⟩ = some v := by simp [World.cell?, hV _ _ hm, hv]
  simp [execOp, hop, ha.ev hx, Instr.loadAt, Instr.sureAddr, loadVar, scalarTy_run ht, hc]
theorem cells_at {W : World} {b k : Nat} {T : TypeId} {cs vs : List Value} (hb : W.heap[b]? = some (row T cs)) (h : (cs.drop k).take vs.length = vs) : ∀ j v, vs[j]? = some v → W.cell? ((⟨b, k, none⟩ : Addr).add j) = some v := fun j v hv => by
  have hj : j < vs.length := (List.getElem?_eq_some_iff.1 hv).1
  rw [← h, List.getElem?_take, if_pos hj, List.getElem?_drop] at hv
  simp [add_at, World.cell?, hb, row, hv]
theorem Yld.loadAgg {o : Oper} {x : Operand} {t b k sz : Nat} {T : TypeId} {cs vs : List Value} (hop : o.op = .load t x) (ht : aggTy P t sz = true) (hx : E.ev x = some (.pointer (some ⟨b, k, none⟩)))
    (hm : V b (row T cs)) (hl : vs.length = sz) (hv : (cs.drop k).take vs.length = vs) : Yld P n E V o (.agg vs.toArray) := fun a W ha hV => by
  subst hl
  have := run_loadCells_list (P := P) W ⟨b, k, none⟩ vs (cells_at (hV _ _ hm) hv)
  simp [execOp, hop, ha.ev hx, Instr.loadAt, Instr.sureAddr, loadVar, aggTy_run ht, this]
theorem Yld.loadAll {o : Oper} {x : Operand} {t b sz : Nat} {T : TypeId} {cs : List Value} (hop : o.op = .load t x) (ht : aggTy P t sz = true) (hx : E.ev x = some (.pointer (some ⟨b, 0, none⟩)))
    (hm : V b (row T cs)) (hl : cs.length = sz) : Yld P n E V o (.agg cs.toArray) := Yld.loadAgg hop ht hx hm hl (by simp)
theorem Yld.not {o : Oper} {x : Operand} {t : TypeId} {c : Bool} (hop : o.op = .unOp .not t x) (hx : E.ev x = some (.bool c)) : Yld P n E V o (.bool (!c)) := fun a W ha _ => by
  simp [execOp, hop, ha.ev hx, Op.unary]
theorem Yld.extract {o : Oper} {x : Operand} {i : Nat} {vs : Array Value} {v : Value} (hop : o.op = .extract x i) (hx : E.ev x = some (.tuple vs)) (hv : vs[i]? = some v) : Yld P n E V o v := fun a W ha _ => by
  simp [execOp, hop, ha.ev hx, Instr.extract, hv]

/-! Whole numbers. -/
theorem eqGuard_int {op : BinOp} {t : TypeId} {x y : Operand} {k k' : IntKind} {a b : Int} (W : World) : (eqGuard op t x y (.int k a) (.int k' b)).run P W = .ok () W := by
  unfold eqGuard; split <;> simp
theorem Yld.arith {o : Oper} {op : BinOp} {x y : Operand} {t t' : TypeId} {k : IntKind} {a b c : Int} (hop : o.op = .binOp op t x y t') (hx : E.ev x = some (.int k a)) (hy : E.ev y = some (.int k b))
    (h : ∀ W : World, (binOp op t (.int k a) (.int k b)).run P W = .ok (.int k c) W) : Yld P n E V o (.int k c) := fun a' W ha _ => by
  simp [execOp, hop, ha.ev hx, ha.ev hy, eqGuard_int, h]
theorem Yld.add {o : Oper} {x y : Operand} {t t' : TypeId} {k : IntKind} {a b : Int} (hop : o.op = .binOp .add t x y t') (hx : E.ev x = some (.int k a)) (hy : E.ev y = some (.int k b)) : Yld P n E V o (.int k (k.wrap (a + b))) :=
  Yld.arith hop hx hy fun W => by simp [binOp, Op.intArith]
theorem Yld.sub {o : Oper} {x y : Operand} {t t' : TypeId} {k : IntKind} {a b : Int} (hop : o.op = .binOp .sub t x y t') (hx : E.ev x = some (.int k a)) (hy : E.ev y = some (.int k b)) : Yld P n E V o (.int k (k.wrap (a - b))) :=
  Yld.arith hop hx hy fun W => by simp [binOp, Op.intArith]
theorem Yld.mul {o : Oper} {x y : Operand} {t t' : TypeId} {k : IntKind} {a b : Int} (hop : o.op = .binOp .mul t x y t') (hx : E.ev x = some (.int k a)) (hy : E.ev y = some (.int k b)) : Yld P n E V o (.int k (k.wrap (a * b))) :=
  Yld.arith hop hx hy fun W => by simp [binOp, Op.intArith]
theorem wrap64_id {a : Int} (h : -9223372036854775808 ≤ a ∧ a ≤ 9223372036854775807) : IntKind.i64.wrap a = a := by
  simp only [IntKind.wrap, IntKind.bits, IntKind.signed, Bool.true_and]
  split <;> rename_i hh <;> simp only [ge_iff_le, decide_eq_true_eq] at hh <;> omega
theorem Yld.add64 {o : Oper} {x y : Operand} {t t' : TypeId} {a b : Int} (hop : o.op = .binOp .add t x y t') (hx : E.ev x = some (.int .i64 a)) (hy : E.ev y = some (.int .i64 b)) (h : -9223372036854775808 ≤ a + b ∧ a + b ≤ 9223372036854775807) : Yld P n E V o (.int .i64 (a + b)) := by
  have := Yld.add (P := P) (n := n) (V := V) hop hx hy; rwa [wrap64_id h] at this
theorem Yld.sub64 {o : Oper} {x y : Operand} {t t' : TypeId} {a b : Int} (hop : o.op = .binOp .sub t x y t') (hx : E.ev x = some (.int .i64 a)) (hy : E.ev y = some (.int .i64 b)) (h : -9223372036854775808 ≤ a - b ∧ a - b ≤ 9223372036854775807) : Yld P n E V o (.int .i64 (a - b)) := by
  have := Yld.sub (P := P) (n := n) (V := V) hop hx hy; rwa [wrap64_id h] at this
theorem Yld.mul64 {o : Oper} {x y : Operand} {t t' : TypeId} {a b : Int} (hop : o.op = .binOp .mul t x y t') (hx : E.ev x = some (.int .i64 a)) (hy : E.ev y = some (.int .i64 b)) (h : -9223372036854775808 ≤ a * b ∧ a * b ≤ 9223372036854775807) : Yld P n E V o (.int .i64 (a * b)) := by
  have := Yld.mul (P := P) (n := n) (V := V) hop hx hy; rwa [wrap64_id h] at this
theorem Yld.quo64 {o : Oper} {x y : Operand} {t t' : TypeId} {a b : Int} (hop : o.op = .binOp .quo t x y t') (hx : E.ev x = some (.int .i64 a)) (hy : E.ev y = some (.int .i64 b)) (h : 0 ≤ a ∧ a ≤ 9223372036854775807 ∧ 0 < b) : Yld P n E V o (.int .i64 (a / b)) :=
  Yld.arith hop hx hy fun W => by
    have h1 : b ≠ 0 := by omega
    have h2 : a.tdiv b = a / b := by rw [Int.tdiv_eq_ediv_of_nonneg h.1]
    have h3 : 0 ≤ a / b := Int.ediv_nonneg h.1 (by omega)
    have h4 : a / b ≤ a := Int.ediv_le_self b h.1
    simp [binOp, Op.intDiv, h1, h2, wrap64_id (a := a / b) (by omega)]
theorem Yld.rem64 {o : Oper} {x y : Operand} {t t' : TypeId} {a b : Int} (hop : o.op = .binOp .rem t x y t') (hx : E.ev x = some (.int .i64 a)) (hy : E.ev y = some (.int .i64 b)) (h : 0 ≤ a ∧ 0 < b) : Yld P n E V o (.int .i64 (a % b)) :=
  Yld.arith hop hx hy fun W => by
    have h1 : b ≠ 0 := by omega
    simp [binOp, Op.intDiv, h1, Int.tmod_eq_emod_of_nonneg h.1]
theorem Yld.cmp {o : Oper} {op : BinOp} {x y : Operand} {t t' : TypeId} {k : IntKind} {a b : Int} {c : Bool} (hop : o.op = .binOp op t x y t') (hx : E.ev x = some (.int k a)) (hy : E.ev y = some (.int k b))
    (h : ∀ W : World, (binOp op t (.int k a) (.int k b)).run P W = .ok (.bool c) W) : Yld P n E V o (.bool c) := fun a' W ha _ => by
  simp [execOp, hop, ha.ev hx, ha.ev hy, eqGuard_int, h]
theorem Yld.lss {o : Oper} {x y : Operand} {t t' : TypeId} {k : IntKind} {a b : Int} (hop : o.op = .binOp .lss t x y t') (hx : E.ev x = some (.int k a)) (hy : E.ev y = some (.int k b)) (c : Bool) (h : decide (a < b) = c) : Yld P n E V o (.bool c) :=
  Yld.cmp hop hx hy fun W => by subst h; simp [binOp, Op.intCmp]
theorem Yld.leq {o : Oper} {x y : Operand} {t t' : TypeId} {k : IntKind} {a b : Int} (hop : o.op = .binOp .leq t x y t') (hx : E.ev x = some (.int k a)) (hy : E.ev y = some (.int k b)) (c : Bool) (h : decide (a ≤ b) = c) : Yld P n E V o (.bool c) :=
  Yld.cmp hop hx hy fun W => by subst h; simp [binOp, Op.intCmp]
theorem Yld.gtr {o : Oper} {x y : Operand} {t t' : TypeId} {k : IntKind} {a b : Int} (hop : o.op = .binOp .gtr t x y t') (hx : E.ev x = some (.int k a)) (hy : E.ev y = some (.int k b)) (c : Bool) (h : decide (b < a) = c) : Yld P n E V o (.bool c) :=
  Yld.cmp hop hx hy fun W => by subst h; simp [binOp, Op.intCmp]
theorem Yld.geq {o : Oper} {x y : Operand} {t t' : TypeId} {k : IntKind} {a b : Int} (hop : o.op = .binOp .geq t x y t') (hx : E.ev x = some (.int k a)) (hy : E.ev y = some (.int k b)) (c : Bool) (h : decide (b ≤ a) = c) : Yld P n E V o (.bool c) :=
  Yld.cmp hop hx hy fun W => by subst h; simp [binOp, Op.intCmp]
theorem Yld.eql {o : Oper} {x y : Operand} {t t' : TypeId} {k : IntKind} {a b : Int} (hop : o.op = .binOp .eql t x y t') (hx : E.ev x = some (.int k a)) (hy : E.ev y = some (.int k b)) (c : Bool) (h : decide (a = b) = c) : Yld P n E V o (.bool c) :=
  Yld.cmp hop hx hy fun W => by subst h; simp [binOp, Op.intCmp]; rfl
theorem Yld.neq {o : Oper} {x y : Operand} {t t' : TypeId} {k : IntKind} {a b : Int} (hop : o.op = .binOp .neq t x y t') (hx : E.ev x = some (.int k a)) (hy : E.ev y = some (.int k b)) (c : Bool) (h : decide (a ≠ b) = c) : Yld P n E V o (.bool c) :=
  Yld.cmp hop hx hy fun W => by subst h; simp [binOp, Op.intCmp, bne]; rfl
theorem Yld.conv {o : Oper} {x : Operand} {src dst : TypeId} {k k' : IntKind} {a : Int} (hop : o.op = .convert src dst x) (hs : (P.underlying src).isSome = true) (hd : P.underlying dst = some (.int k')) (hx : E.ev x = some (.int k a)) : Yld P n E V o (.int k' (k'.wrap a)) := fun a' W ha _ => by
  obtain ⟨d, hd'⟩ := Option.isSome_iff_exists.mp hs
  simp [execOp, hop, ha.ev hx, convert, run_underlying hd', run_underlying hd, Conv.intToInt]
theorem Yld.conv64 {o : Oper} {x : Operand} {src dst : TypeId} {k : IntKind} {a : Int} (hop : o.op = .convert src dst x) (hs : (P.underlying src).isSome = true) (hd : P.underlying dst = some (.int .i64)) (hx : E.ev x = some (.int k a)) (h : -9223372036854775808 ≤ a ∧ a ≤ 9223372036854775807) : Yld P n E V o (.int .i64 a) := by
  have := Yld.conv (P := P) (n := n) (V := V) hop hs hd hx; rwa [wrap64_id h] at this

/-! Addresses and nil. -/
theorem Yld.eqlNil {o : Oper} {x y : Operand} {t t' : TypeId} {p : Option Addr} (hop : o.op = .binOp .eql t x y t') (ht : P.underlying t = some (.pointer (P.pointee t))) (hx : E.ev x = some (.pointer p)) (hy : E.ev y = some (.pointer none)) : Yld P n E V o (.bool p.isNone) := fun a W ha _ => by
  simp [execOp, hop, ha.ev hx, ha.ev hy, eqGuard, run_eql_pointer_nil W t p ht]
theorem Yld.neqNil {o : Oper} {x y : Operand} {t t' : TypeId} {p : Option Addr} (hop : o.op = .binOp .neq t x y t') (ht : P.underlying t = some (.pointer (P.pointee t))) (hx : E.ev x = some (.pointer p)) (hy : E.ev y = some (.pointer none)) : Yld P n E V o (.bool (!p.isNone)) := fun a W ha _ => by
  simp [execOp, hop, ha.ev hx, ha.ev hy, eqGuard, run_neq_pointer_nil W t p ht]

/-! Slices. -/
theorem Yld.len {o : Oper} {x : Operand} {t e sz : TypeId} {A : Option Addr} {m c : Nat} (hop : o.op = .call { callee := .builtin .len, args := #[x], argTypes := #[t] }) (ht : sliceTy P t e sz = true) (hx : E.ev x = some (.slice A m c)) : Yld P n E V o (.int .i64 m) := fun a W ha _ => by
  simp [execOp, hop, ha.ev hx, resolve, invoke, builtin, Builtin.len_, run_underlying (sliceTy_run ht).1, goInt]
theorem Yld.min2 {o : Oper} {x y : Operand} {ts : Array TypeId} {k : IntKind} {a b : Int} (hop : o.op = .call { callee := .builtin .min, args := #[x, y], argTypes := ts }) (hx : E.ev x = some (.int k a)) (hy : E.ev y = some (.int k b)) (c : Int) (h : (if b < a then b else a) = c) : Yld P n E V o (.int k c) := fun a' W ha _ => by
  subst h
  simp [execOp, hop, ha.ev hx, ha.ev hy, resolve, invoke, builtin, Builtin.min_, Builtin.min2]
theorem Yld.max2 {o : Oper} {x y : Operand} {ts : Array TypeId} {k : IntKind} {a b : Int} (hop : o.op = .call { callee := .builtin .max, args := #[x, y], argTypes := ts }) (hx : E.ev x = some (.int k a)) (hy : E.ev y = some (.int k b)) (c : Int) (h : (if a < b then b else a) = c) : Yld P n E V o (.int k c) := fun a' W ha _ => by
  subst h
  simp [execOp, hop, ha.ev hx, ha.ev hy, resolve, invoke, builtin, Builtin.max_, Builtin.max2]
theorem Yld.indexAddr {o : Oper} {x y : Operand} {t e sz : TypeId} {b k m c : Nat} {ki : IntKind} {i : Nat} (hop : o.op = .indexAddr t x y) (ht : sliceTy P t e sz = true) (hx : E.ev x = some (.slice (some ⟨b, k, none⟩) m c)) (hy : E.ev y = some (.int ki (i : Int))) (hi : i < m) :
    Yld P n E V o (.pointer (some ⟨b, k + i * sz, none⟩)) := fun a W ha _ => by
  have h2 : (0 : Int) ≤ i ∧ (i : Int) < m := ⟨by omega, by omega⟩
  simp [execOp, hop, ha.ev hx, ha.ev hy, Instr.indexAt, asIntOf, run_underlying (sliceTy_run ht).1, (sliceTy_run ht).2, h2, add_at, hi]
theorem Yld.indexAddrA {o : Oper} {x y : Operand} {t len e sz : TypeId} {b k : Nat} {ki : IntKind} {i : Nat} (hop : o.op = .indexAddr t x y) (ht : arrTy P t len e sz = true) (hx : E.ev x = some (.pointer (some ⟨b, k, none⟩))) (hy : E.ev y = some (.int ki (i : Int))) (hi : i < len) :
    Yld P n E V o (.pointer (some ⟨b, k + i * sz, none⟩)) := fun a W ha _ => by
  have h2 : (0 : Int) ≤ i ∧ (i : Int) < len := ⟨by omega, by omega⟩
  simp [execOp, hop, ha.ev hx, ha.ev hy, Instr.indexAt, asIntOf, Instr.sureAddr, run_underlying (arrTy_run ht).1, (arrTy_run ht).2, h2, add_at, hi]

/-- A struct or an array, put together of its parts. -/
theorem Yld.build {o : Oper} {t : TypeId} {ps : Array (Nat × Operand)} {vs : List Value} {cells : Array Value} (hop : o.op = .build t ps) (hx : ps.toList.map (fun p => E.ev p.2) = vs.map some) (hc : P.built t ((ps.toList.map (·.1)).zip vs) = some cells) : Yld P n E V o (.agg cells) := fun a W ha _ => by
  have hmap : (ps.map fun (i, x) => (i, a.eval x)).toList = (ps.toList.map (·.1)).zip vs := by
    obtain ⟨l⟩ := ps
    simp only [List.map_toArray]
    clear hop hc
    induction l generalizing vs with
    | nil => simp
    | cons p l ih =>
      cases vs with
      | nil => simp at hx
      | cons v vs =>
        simp only [List.map_cons, List.cons.injEq] at hx
        have := ih hx.2
        simp only [List.map_cons, List.zip_cons_cons, ha.ev hx.1]
        simpa using this
  have := run_build (P := P) W t (ps.map fun (i, x) => (i, a.eval x)) cells (by rw [hmap]; exact hc)
  simp only [execOp, hop]
  simp only [Sem.run_bind, this, Result.andThen_ok, Sem.run_pure]
theorem Yld.makeFunc {o : Oper} {fn : Fn} {first captured : Array Operand} {vs us : List Value} (hop : o.op = .makeFunc fn first captured) (hx : first.toList.map E.ev = vs.map some) (hy : captured.toList.map E.ev = us.map some) :
    Yld P n E V o (.func fn vs.toArray us.toArray) := fun a W ha _ => by
  have evs : ∀ (xs : Array Operand) (vs : List Value), xs.toList.map E.ev = vs.map some → xs.map a.eval = vs.toArray := by
    rintro ⟨l⟩ vs h
    simp only [List.map_toArray]
    congr 1
    clear hop
    induction l generalizing vs with
    | nil => cases vs <;> simp_all
    | cons p l ih =>
      cases vs with
      | nil => simp at h
      | cons v vs =>
        simp only [List.map_cons, List.cons.injEq] at h
        simp only [List.map_cons, ha.ev h.1, ih vs h.2]
  simp [execOp, hop, Instr.makeFunc, evs _ _ hx, evs _ _ hy]
end
end Go.Hp
