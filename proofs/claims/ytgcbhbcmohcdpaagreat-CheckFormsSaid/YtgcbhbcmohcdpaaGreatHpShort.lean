/-
  The same rules, with what is found by search left out: it is filled in.
-/
import Derived.Test.YtgcbhbcmohcdpaaGreatHpMap
import Derived.Test.YtgcbhbcmohcdpaaGreatHpNum
import Derived.Test.YtgcbhbcmohcdpaaGreatHpBits
import Derived.KernelRfl
set_option linter.unusedVariables false
namespace Go.Hp
open Go
theorem nf {α : Type} : (∀ (a : α) (s t : List α), a :: s ++ t = a :: (s ++ t)) ∧ (∀ t : List α, [] ++ t = t) ∧ ∀ a b c : List α, a ++ b ++ c = a ++ (b ++ c) := ⟨fun _ _ _ => List.cons_append, List.nil_append, List.append_assoc⟩
section
variable {P : Program} {n : Nat} {E : Env} {I : Imm} {L L' : Chunks} {Q : Exit → Act → World → Prop} {ops : Array Oper} {K : Act → World → Prop} {o : Oper} {V : Nat → Obj → Prop}
def mvAt (ops : Array Oper) (i n : Nat) : Option (Operand × Nat) := match ops[i]? with
  | some o => match o.op, o.guard, o.dst with
    | .move x, none, some d => if Nat.blt d n = true then some (x, d) else none
    | .assign x, none, some d => if Nat.blt d n = true then some (x, d) else none
    | _, _, _ => none
  | none => none
theorem WP.mv {i d : Nat} {r : List Nat} {x : Operand} {v : Value} (h : mvAt ops i n = some (x, d)) (hx : E.ev x = some v) (k : WP n (wpOps P ops Q r) ((d, v) :: E) I L) : WP n (wpOps P ops Q (i :: r)) E I L := by
  unfold mvAt at h
  split at h
  · rename_i o ho
    split at h
    · rename_i x' d' h1 h2 h3
      split at h
      · rename_i hlt
        cases h
        exact WP.val ho h2 h3 hlt (Yld.move h1 hx) k
      · cases h
    · rename_i x' d' h1 h2 h3
      split at h
      · rename_i hlt
        cases h
        exact WP.val ho h2 h3 hlt (Yld.assign h1 hx) k
      · cases h
    · cases h
  · cases h
def vlAt (ops : Array Oper) (i n : Nat) : Option (Oper × Nat) := match ops[i]? with
  | some o => match o.guard, o.dst with
    | none, some d => if Nat.blt d n = true then some (o, d) else none
    | _, _ => none
  | none => none
theorem WP.vl {i d : Nat} {r : List Nat} {o : Oper} {v : Value} (h : vlAt ops i n = some (o, d)) (y : Yld P n E (There I L) o v) (k : WP n (wpOps P ops Q r) ((d, v) :: E) I L) : WP n (wpOps P ops Q (i :: r)) E I L := by
  unfold vlAt at h
  split at h
  · rename_i o ho
    split at h
    · rename_i d' h2 h3
      split at h
      · rename_i hlt
        cases h
        exact WP.val ho h2 h3 hlt y k
      · cases h
    · cases h
  · cases h
theorem Op.cl {f d : Nat} {fn : Func} {xs : Array Operand} {ts : Array TypeId} {vs : List Value} {L0 F : Chunks} {R : Value → Imm → Chunks → Prop} (sp : Spec P f vs I L0 R) (hop : o.op = .call { callee := .value (.func f), args := xs, argTypes := ts })
    (hf : P.funcs[f]? = some fn) (hfn : ((fn.name == "runtime.NumGoroutine") || fn.body.isNone) = false) (hx : xs.toList.map E.ev = vs.map some) (hd : o.dst = some d) (hlt : Nat.blt d n = true)
    (h : ∀ v J L1, I.le J → R v J L1 → WP n K ((d, v) :: E) J (L1 ++ F))
    (hp : Take L L0 F := by repeat (first | exact Take.nil | with_reducible apply Take.cons | apply Take.app | exact Rm.chunk | exact Rm.here | exact Rm.nil0 | apply Rm.skip | apply Rm.skipS | (focus (apply Take.all; (repeat (first | exact Rm.chunk | exact Rm.here | exact Rm.nil0 | apply Rm.skip | apply Rm.skipS)); done)) | apply Take.cons)) :
    WP n (fun a w => o.wp P a w K Q) E I L := Op.call sp hop hf hfn hx hd hlt hp h
theorem WP.fn {fn : Func} {F : Chunks} {R : Value → Imm → Chunks → Prop} {J : Imm} {v : Value} (e : Exit) (he : e = .normal ∨ e = .ret) (hv : ∀ a W, EnvOk n E a → Has J L W → (results fn a.tmps).run P W = .ok v W) (L1 : Chunks) {F' : Chunks} (hJ : I.le J) (hR : R v J L1)
    (hp : Take L L1 F' := by repeat (first | exact Take.nil | with_reducible apply Take.cons | apply Take.app | exact Rm.chunk | exact Rm.here | exact Rm.nil0 | apply Rm.skip | apply Rm.skipS | (focus (apply Take.all; (repeat (first | exact Rm.chunk | exact Rm.here | exact Rm.nil0 | apply Rm.skip | apply Rm.skipS)); done)) | apply Take.cons))
    (hl : Leave F' F := by repeat (first | exact Leave.done | apply Leave.drop | apply Leave.dropS)) :
    WP n (fun a w => Post P fn I F R e a w) E J L := WP.fin e he hv L1 hp hl hJ hR
theorem WP.mt {X : Type} {E0 : X → Env} {I0 : X → Imm} {L0 : X → Chunks} {pre : X → Prop} (t : X) (hp : pre t) (hE : (E0 t).Sub E) (hI : I = I0 t) (hL : PX L (L0 t) := by (try dsimp only); repeat (first | exact Rm.chunk | exact Rm.here | exact Rm.nil0 | apply Rm.skip | apply Rm.skipS | apply PX.cons | (apply PX.done; (repeat (first | exact Leave.done | apply Leave.drop | apply Leave.dropS)); done) | apply PX.app)) :
    WP n (fun a w => Exit.then (fun a w => ∃ t, pre t ∧ EnvOk n (E0 t) a ∧ Has (I0 t) (L0 t) w) Q .normal a w) E I L := WP.meet t hp hE hI hL
theorem WP.ag {X : Type} {E0 : X → Env} {I0 : X → Imm} {L0 : X → Chunks} {pre : X → Prop} {μ : X → Nat} {m : Nat} (y : X) (hp : pre y) (hμ : μ y < m) (hE : (E0 y).Sub E) (hI : I = I0 y) (hL : PX L (L0 y) := by (try dsimp only); repeat (first | exact Rm.chunk | exact Rm.here | exact Rm.nil0 | apply Rm.skip | apply Rm.skipS | apply PX.cons | (apply PX.done; (repeat (first | exact Leave.done | apply Leave.drop | apply Leave.dropS)); done) | apply PX.app)) :
    WP n (fun a w => Exit.then (fun a w => ∃ y, pre y ∧ μ y < m ∧ EnvOk n (E0 y) a ∧ Has (I0 y) (L0 y) w) Q .normal a w) E I L := WP.again y hp hμ hE hI hL
theorem Yld.ld {x : Operand} {t b k : Nat} {T : TypeId} {cs : List Value} {v : Value} (hop : o.op = .load t x) (ht : scalarTy P t = true) (hx : E.ev x = some (.pointer (some ⟨b, k, none⟩))) (hv : cs[k]? = some v)
    (hm : V b (row T cs) := by repeat (first | exact There.h | exact There.i (by assumption) | apply There.t | apply There.s)) : Yld P n E V o v := Yld.load hop ht hx hm hv
theorem Yld.lda {x : Operand} {t b sz : Nat} {T : TypeId} {cs : List Value} (hop : o.op = .load t x) (ht : aggTy P t sz = true) (hx : E.ev x = some (.pointer (some ⟨b, 0, none⟩))) (hl : cs.length = sz)
    (hm : V b (row T cs) := by repeat (first | exact There.h | exact There.i (by assumption) | apply There.t | apply There.s)) : Yld P n E V o (.agg cs.toArray) := Yld.loadAll hop ht hx hm hl
theorem Yld.ldg {x : Operand} {t b k sz : Nat} {T : TypeId} {cs vs : List Value} (hop : o.op = .load t x) (ht : aggTy P t sz = true) (hx : E.ev x = some (.pointer (some ⟨b, k, none⟩))) (hl : vs.length = sz) (hv : (cs.drop k).take vs.length = vs)
    (hm : V b (row T cs) := by repeat (first | exact There.h | exact There.i (by assumption) | apply There.t | apply There.s)) : Yld P n E V o (.agg vs.toArray) := Yld.loadAgg hop ht hx hm hl hv
theorem Op.sA {x y : Operand} {t b T sz : Nat} {vs cs : List Value} (hop : o.op = .store t x y) (hd : o.dst = none) (ht : sizeTy P t sz = true) (hx : E.ev x = some (.pointer (some ⟨b, 0, none⟩))) (hy : E.ev y = some (.agg vs.toArray)) (hl : vs.length = sz) (h1 : vs.all (·.oneCell') = true)
    (hk : cs.length = sz) (h : WP n K E I L') (hu : Upd L b (row T cs) (row T vs) L' := by repeat (first | exact Upd.head | apply Upd.tail | apply Upd.tailS)) : WP n (fun a w => o.wp P a w K Q) E I L := Op.storeAll hop hd ht hx hy hl h1 hu hk h
theorem Op.s1 {x y : Operand} {t b k T : Nat} {v : Value} {cs cs' : List Value} (hop : o.op = .store t x y) (hd : o.dst = none) (ht : sizeTy P t 1 = true) (hx : E.ev x = some (.pointer (some ⟨b, k, none⟩))) (hy : E.ev y = some v) (h1 : v.oneCell' = true)
    (h : WP n K E I L') (hu : Upd L b (row T cs) (row T cs') L' := by repeat (first | exact Upd.head | apply Upd.tail | apply Upd.tailS)) (hs : SetAt cs k v cs' := by repeat (first | exact SetAt.zero | apply SetAt.succ)) : WP n (fun a w => o.wp P a w K Q) E I L := Op.store1 hop hd ht hx hy h1 hu hs h
theorem WD.gR {S fuel : Nat} {V1 V2 : Nat → Obj → Prop} {l : List Bool} (h : WD P n ops K S V1 V2 fuel l E I L) (h1 : SubL V1 I L := by rintro _ _ ⟨rfl, rfl⟩; repeat (first | exact There.h | exact There.i (by assumption) | apply There.t | apply There.s)) (h2 : SubL V2 I L := by exact fun _ _ h => h.elim) : WP n (WD.after P ops K S V1 V2 fuel l) E I L := WD.go (.inr h1) h2 h
theorem WP.shO {Lo L1 : Chunks} {T sz m : Nat} {v : Value} {xs : List Value} (ho : Own T sz v xs m Lo) (h : ∀ J : Imm, I.le J → SlRd (fun b o => J.blk b = some o) v m sz xs → WP n K E J L1)
    (hr : Take L (Lo ++ []) L1 := by repeat (first | exact Take.nil | with_reducible apply Take.cons | apply Take.app | exact Rm.chunk | exact Rm.here | exact Rm.nil0 | apply Rm.skip | apply Rm.skipS | (focus (apply Take.all; (repeat (first | exact Rm.chunk | exact Rm.here | exact Rm.nil0 | apply Rm.skip | apply Rm.skipS)); done)) | apply Take.cons)) : WP n K E I L := WP.shareOwn ho hr h
/-- What is found by search. -/
theorem zM {p : Prop} (h : p := by repeat (first | exact There.h | exact There.i (by assumption) | apply There.t | apply There.s)) : p := h
theorem zT {p : Prop} (h : p := by repeat (first | exact Take.nil | with_reducible apply Take.cons | apply Take.app | exact Rm.chunk | exact Rm.here | exact Rm.nil0 | apply Rm.skip | apply Rm.skipS | (focus (apply Take.all; (repeat (first | exact Rm.chunk | exact Rm.here | exact Rm.nil0 | apply Rm.skip | apply Rm.skipS)); done)) | apply Take.cons)) : p := h
theorem zP {p : Prop} (h : p := by (try dsimp only); repeat (first | exact Rm.chunk | exact Rm.here | exact Rm.nil0 | apply Rm.skip | apply Rm.skipS | apply PX.cons | (apply PX.done; (repeat (first | exact Leave.done | apply Leave.drop | apply Leave.dropS)); done) | apply PX.app)) : p := h
theorem zA {p : Prop} (h : p := by (try simp only [List.append_eq, List.cons_append, List.nil_append, List.append_assoc]); repeat (first | exact Rm.chunk | exact Rm.here | exact Rm.nil0 | apply Rm.skip | apply Rm.skipS | apply PX.cons | (apply PX.done; (repeat (first | exact Leave.done | apply Leave.drop | apply Leave.dropS)); done) | apply PX.app)) : p := h
theorem zS {p : Prop} (h : p := by repeat (first | exact SetSeg.nil | apply SetSeg.one | exact SetAt.zero | apply SetAt.succ)) : p := h
theorem zK {p : Prop} (h : p := by kernel_rfl) : p := h
theorem WD.vl {s : Nat} {V1 V2 : Nat → Obj → Prop} {i d fuel : Nat} {v : Value} {l l' : List Bool} (h : vlAt ops i n = some (o, d)) (y : Yld P n E V2 o v) (k : WD P n ops K s V1 V2 fuel l' ((d, v) :: E) I L)
    (hchk : (Region.noSelect ops && Region.free .any ops l.toArray i && (Region.ready .any ops l.toArray).contains i && !(Nat.beq i s)) = true := by kernel_rfl) (hl : l.set i true = l' := by rfl) : WD P n ops K s V1 V2 (fuel + 1) l E I L := by
  unfold vlAt at h
  split at h
  · rename_i o ho
    split at h
    · rename_i d' h2 h3
      split at h
      · rename_i hlt
        cases h
        exact WD.val ho h2 h3 hlt hchk hl y k
      · cases h
    · cases h
  · cases h
end
end Go.Hp
