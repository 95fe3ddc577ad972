/-
  Values of interfaces, methods called through them, and functions that hold variables.
-/
import Derived.Test.YtgcbhbcmohcdpaaGreatHpWord
import Derived.Laws.Build
set_option linter.unusedVariables false
set_option linter.unusedSimpArgs false
namespace Go.Hp
open Go
/-- The method of a pointer type, taken straight. -/
def methTy (P : Program) (t : TypeId) (name : String) (f : FuncId) : Bool := match P.info? t, P.underlying t with
  | some i, some (.pointer _) => match i.methods.find? (·.name == name) with
    | some m => m.path.isEmpty && (match m.func with | some (g, true) => Nat.beq g f | _ => false)
    | none => false
  | _, _ => false
theorem methTy_run {P : Program} {t : TypeId} {name : String} {f : FuncId} (h : methTy P t name f = true) (v : Value) (k : Nat) (w : World) : (method (k + 1) t v name).run P w = .ok (f, v) w := by
  unfold methTy at h
  cases hi : P.info? t with
  | none => simp [hi] at h
  | some i =>
    cases hu : P.underlying t with
    | none => simp [hi, hu] at h
    | some d =>
      cases d <;> simp only [hi, hu] at h <;> try (cases h)
      rename_i e
      cases hm : i.methods.find? (·.name == name) with
      | none => simp [hm] at h
      | some m =>
        simp only [hm, Bool.and_eq_true] at h
        obtain ⟨h1, h2⟩ := h
        have hp : m.path = #[] := by simpa using h1
        cases hf : m.func with
        | none => simp [hf] at h2
        | some gp =>
          obtain ⟨g, b⟩ := gp
          cases b with
          | false => simp [hf] at h2
          | true =>
            simp only [hf] at h2
            have : g = f := Nat.eq_of_beq_eq_true h2
            subst this
            simp [method, typeInfo, hi, hm, hp, follow, hf, receiverAt, underlying, hu, Place.get]
section
variable {P : Program} {n : Nat} {E : Env} {I : Imm} {L L' : Chunks} {Q : Exit → Act → World → Prop} {K : Act → World → Prop} {o : Oper}
/-- A call that enters a function. -/
def Enters (P : Program) (n : Nat) (E : Env) (I : Imm) (L : Chunks) (o : Oper) (f : FuncId) (vs : List Value) : Prop :=
  ∀ a W, EnvOk n E a → Has I L W → (execOp a.eval o).run P W = .ok (.enter f vs.toArray) W
theorem Op.callE {f d : Nat} {vs : List Value} {L0 F : Chunks} {R : Value → Imm → Chunks → Prop} (sp : Spec P f vs I L0 R) (he : Enters P n E I L o f vs) (hd : o.dst = some d) (hlt : Nat.blt d n = true) (hp : Take L L0 F)
    (h : ∀ v J L1, I.le J → R v J L1 → WP n K ((d, v) :: E) J (L1 ++ F)) : WP n (fun a w => o.wp P a w K Q) E I L := .mk fun a W ha hW => by
  show Oper.upon P o a _ _ _
  rw [he a W ha hW]
  simp only [Oper.upon]
  refine (sp F W (hW.perm hp.perm)).mono ?_; rintro e W' ⟨v, J, L1, rfl, hJ, hR, hH⟩
  simp only [hd]
  exact (h v J L1 hJ hR).out _ _ (ha.put hlt _) hH
theorem Enters.invoke {f : Nat} {fn : Func} {x : Operand} {name : String} {xs : Array Operand} {ts : Array TypeId} {t : TypeId} {v : Value} {vs : List Value} (hop : o.op = .call { callee := .invoke x name, args := xs, argTypes := ts }) (ht : methTy P t name f = true)
    (hf : P.funcs[f]? = some fn) (hfn : ((fn.name == "runtime.NumGoroutine") || fn.body.isNone) = false) (hx : E.ev x = some (.iface t v)) (hxs : xs.toList.map E.ev = vs.map some) : Enters P n E I L o f (v :: vs) := fun a W ha hW => by
  simp only [Bool.or_eq_false_iff] at hfn
  have hfn1 : fn.name ≠ "runtime.NumGoroutine" := by simpa using hfn.1
  have hfn2 : fn.body ≠ none := fun e => by simp [e] at hfn
  have hargs := evs_ok ha hxs
  have hm := methTy_run ht v (P.types.size + Made.depth - 1) W
  have hk : P.types.size + Made.depth - 1 + 1 = P.types.size + Made.depth := Nat.sub_add_cancel (Nat.le_trans (show 1 ≤ Made.depth by decide) (Nat.le_add_left _ _))
  rw [hk] at hm
  simp [execOp, hop, resolve, Go.invoke, callMethod, ha.ev hx, hargs, hm, callFunc, hf, hfn1, hfn2]
theorem Enters.closure {f : Nat} {fn : Func} {x : Operand} {xs : Array Operand} {ts : Array TypeId} {us vs : List Value} (hop : o.op = .call { callee := .value x, args := xs, argTypes := ts })
    (hf : P.funcs[f]? = some fn) (hfn : ((fn.name == "runtime.NumGoroutine") || fn.body.isNone) = false) (hx : E.ev x = some (.func (.func f) #[] us.toArray)) (hxs : xs.toList.map E.ev = vs.map some) : Enters P n E I L o f (vs ++ us) := fun a W ha hW => by
  simp only [Bool.or_eq_false_iff] at hfn
  have hfn1 : fn.name ≠ "runtime.NumGoroutine" := by simpa using hfn.1
  have hfn2 : fn.body ≠ none := fun e => by simp [e] at hfn
  have hargs := evs_ok ha hxs
  simp [execOp, hop, resolve, Deferred.ofValue, Go.invoke, ha.ev hx, hargs, callFunc, hf, hfn1, hfn2]
end
end Go.Hp
namespace Go.Hp
open Go
/-- What is owned besides stays. -/
theorem Spec.frame {P : Program} {f : FuncId} {args : List Value} {I : Imm} {L G : Chunks} {R : Value → Imm → Chunks → Prop} (h : Spec P f args I L R) : Spec P f args I (G ++ L) (fun v J L' => ∃ L1, L' = G ++ L1 ∧ R v J L1) := fun F W hW => by
  have e : ((G ++ L) ++ F).Perm (L ++ (G ++ F)) := by
    rw [← List.append_assoc]
    exact List.Perm.append_right F List.perm_append_comm
  refine (h (G ++ F) W (hW.perm e)).mono ?_; rintro e W' ⟨v, J, L', he, hJ, hr, hh⟩
  refine ⟨v, J, G ++ L', he, hJ, ⟨L', rfl, hr⟩, hh.perm ?_⟩
  rw [← List.append_assoc]
  exact List.Perm.append_right F List.perm_append_comm
end Go.Hp
