/-
  Maps whose keys are whole numbers: what a map holds is a list of pairs.
-/
import Derived.Test.YtgcbhbcmohcdpaaGreatHpMore
import Derived.MapKept
set_option linter.unusedVariables false
set_option linter.unusedSimpArgs false
namespace Go.Hp
open Go
def afind : List (Int × Value) → Int → Nat → Option (Nat × Value)
  | [], _, _ => none
  | p :: l, a, i => if a = p.1 then some (i, p.2) else afind l a (i + 1)
def aget (l : List (Int × Value)) (a : Int) : Option Value := (afind l a 0).map (·.2)
def aput : List (Int × Value) → Int → Value → List (Int × Value)
  | [], a, v => [(a, v)]
  | p :: l, a, v => if a = p.1 then (a, v) :: l else p :: aput l a v
def adel : List (Int × Value) → Int → List (Int × Value)
  | [], _ => []
  | p :: l, a => if a = p.1 then l else p :: adel l a
def entryOf (e : MapEntry) : Value × Value := (e.key, e.val)
def pairOf (p : Int × Value) : Value × Value := (.int .i64 p.1, p.2)
/-- What the map's object holds. -/
def MapObj (l : List (Int × Value)) (o : Obj) : Prop := ∃ (es : Array MapEntry) (clock : Nat), o = .map es clock ∧ es.toList.map entryOf = l.map pairOf
theorem MapObj.new : MapObj [] (.map #[] 0) := ⟨#[], 0, rfl, rfl⟩
theorem find_int : ∀ (es : List MapEntry) (l : List (Int × Value)) (a : Int) (i : Nat), es.map entryOf = l.map pairOf → Instr.findNow (.int .i64) (.int .i64 a) es i = some (afind l a i)
  | [], [], _, _, _ => rfl
  | e :: es, p :: l, a, i, h => by
    simp only [List.map_cons, List.cons.injEq] at h
    obtain ⟨h1, h2⟩ := h
    have hk : e.key = .int .i64 p.1 := congrArg Prod.fst h1
    have hv : e.val = p.2 := congrArg Prod.snd h1
    unfold Instr.findNow afind
    rw [hk]
    by_cases hp : a = p.1
    · subst hp; simp [Instr.sameNow, hv]
    · have hpf : (a == p.1) = false := by simpa using hp
      simp [Instr.sameNow, hpf, hp, find_int es l a (i + 1) h2]
theorem checkKey_int {P : Program} {t : TypeId} {q : IntKind} (h : P.underlying t = some (.int q)) (b : Bool) (n : Nat) (v : Value) (W : World) : (Instr.checkKey b (n + 1) t v).run P W = .ok () W := by
  simp [Instr.checkKey, run_underlying h]
theorem findKey_int {P : Program} {t : TypeId} (h : P.underlying t = some (.int .i64)) {es : List MapEntry} {l : List (Int × Value)} {a : Int} (he : es.map entryOf = l.map pairOf) (W : World) : (Instr.findKey t (.int .i64 a) es).run P W = .ok (afind l a 0) W := by
  simp [Instr.findKey, run_underlying h, find_int es l a 0 he]
def mapTy (P : Program) (t k e : TypeId) : Bool := (match P.underlying t with | some (.map k' e') => Nat.beq k' k && Nat.beq e' e | _ => false) && (match P.underlying k with | some (.int .i64) => true | _ => false)
theorem mapTy_run {P : Program} {t k e : TypeId} (h : mapTy P t k e = true) : P.underlying t = some (.map k e) ∧ P.underlying k = some (.int .i64) := by
  unfold mapTy at h
  simp only [Bool.and_eq_true] at h
  obtain ⟨h1, h2⟩ := h
  constructor
  · cases hu : P.underlying t with
    | none => simp [hu] at h1
    | some d =>
      cases d <;> simp only [hu] at h1 <;> try (cases h1)
      rename_i k' e'
      simp only [Bool.and_eq_true] at h1
      rw [Nat.eq_of_beq_eq_true h1.1, Nat.eq_of_beq_eq_true h1.2]
  · cases hu : P.underlying k with
    | none => simp [hu] at h2
    | some d =>
      cases d <;> simp only [hu] at h2 <;> try (cases h2)
      rename_i q
      cases q <;> simp_all
section
variable {P : Program} {n : Nat} {E : Env} {I : Imm} {L : Chunks} {Q : Exit → Act → World → Prop} {K : Act → World → Prop} {V : Nat → Obj → Prop} {o : Oper}
theorem Op.makeMap {t k e d : Nat} (hop : o.op = .makeMap t none) (hd : o.dst = some d) (hlt : Nat.blt d n = true)
    (h : ∀ b, WP n K ((d, .map (some b)) :: E) I ((b, .map #[] 0) :: L)) : WP n (fun a w => o.wp P a w K Q) E I L := .mk fun a W ha hW => by
  have hrun : (execOp a.eval o).run P W = .ok (.value (.map (some W.heap.size))) (W.alloc (.map #[] 0)) := by
    simp [execOp, hop, Instr.makeMap]
  show Oper.upon P o a _ _ _
  rw [hrun]
  simp only [Oper.upon, hd]
  exact (h _).out _ _ (ha.put hlt _) (hW.alloc _)
/-- A look that tells whether there is one. -/
theorem Yld.lookupOk {t k e : TypeId} {x y : Operand} {b : Nat} {ob : Obj} {l : List (Int × Value)} {a : Int} {z : Value} (hop : o.op = .lookup t x y true) (ht : mapTy P t k e = true) (hz : ∃ i, P.info? e = some i ∧ i.zero = some z) (hx : E.ev x = some (.map (some b))) (hy : E.ev y = some (.int .i64 a)) (hb : V b ob) (hm : MapObj l ob) :
    Yld P n E V o (.tuple #[(aget l a).getD z, .bool (aget l a).isSome]) := fun A W ha hV => by
  obtain ⟨hu, hk⟩ := mapTy_run ht
  obtain ⟨es, clock, rfl, hes⟩ := hm
  obtain ⟨i, hi, hz⟩ := hz
  have hb' : W.heap[b]? = some (.map es clock) := hV _ _ hb
  have h1 := Go.MapKept.run_getObj_map (P := P) hb'
  have h2 : (Instr.checkKey es.isEmpty 10000 k (.int .i64 a)).run P W = .ok () W := checkKey_int hk _ 9999 _ W
  have h3 := findKey_int (P := P) hk (a := a) hes W
  unfold aget
  cases hf : afind l a 0 with
  | none =>
    rw [hf] at h3
    simp [execOp, hop, ha.ev hx, ha.ev hy, Instr.lookup, run_underlying hu, h1, h2, h3, zeroValue, typeInfo, hi, hz]
  | some p =>
    rw [hf] at h3
    obtain ⟨j, v⟩ := p
    simp [execOp, hop, ha.ev hx, ha.ev hy, Instr.lookup, run_underlying hu, h1, h2, h3]
theorem Yld.lookup {t k e : TypeId} {x y : Operand} {b : Nat} {ob : Obj} {l : List (Int × Value)} {a : Int} {z : Value} (hop : o.op = .lookup t x y false) (ht : mapTy P t k e = true) (hz : ∃ i, P.info? e = some i ∧ i.zero = some z) (hx : E.ev x = some (.map (some b))) (hy : E.ev y = some (.int .i64 a)) (hb : V b ob) (hm : MapObj l ob) :
    Yld P n E V o ((aget l a).getD z) := fun A W ha hV => by
  obtain ⟨hu, hk⟩ := mapTy_run ht
  obtain ⟨es, clock, rfl, hes⟩ := hm
  obtain ⟨i, hi, hz⟩ := hz
  have hb' : W.heap[b]? = some (.map es clock) := hV _ _ hb
  have h1 := Go.MapKept.run_getObj_map (P := P) hb'
  have h2 : (Instr.checkKey es.isEmpty 10000 k (.int .i64 a)).run P W = .ok () W := checkKey_int hk _ 9999 _ W
  have h3 := findKey_int (P := P) hk (a := a) hes W
  unfold aget
  cases hf : afind l a 0 with
  | none =>
    rw [hf] at h3
    simp [execOp, hop, ha.ev hx, ha.ev hy, Instr.lookup, run_underlying hu, h1, h2, h3, zeroValue, typeInfo, hi, hz]
  | some p =>
    rw [hf] at h3
    obtain ⟨j, v⟩ := p
    simp [execOp, hop, ha.ev hx, ha.ev hy, Instr.lookup, run_underlying hu, h1, h2, h3]
theorem afind_shift : ∀ (l : List (Int × Value)) (a : Int) (i : Nat), afind l a i = (afind l a 0).map fun p => (p.1 + i, p.2)
  | [], _, _ => rfl
  | p :: l, a, i => by
    unfold afind
    by_cases h : a = p.1
    · simp [h]
    · rw [if_neg h, if_neg h, afind_shift l a (i + 1), afind_shift l a (0 + 1), Option.map_map]
      congr 1; funext q; simp; omega
theorem put_some : ∀ (l : List (Int × Value)) (es : List MapEntry) (a : Int) (v : Value) (j : Nat) (w : Value), es.map entryOf = l.map pairOf → afind l a 0 = some (j, w) →
    (es.modify j fun e => { e with key := .int .i64 a, val := v }).map entryOf = (aput l a v).map pairOf ∧ (∃ e, es[j]? = some e ∧ e.key = .int .i64 a)
  | [], _, _, _, _, _, _, h => by simp [afind] at h
  | p :: l, [], _, _, _, _, he, _ => by simp at he
  | p :: l, e :: es, a, v, j, w, he, h => by
    simp only [List.map_cons, List.cons.injEq] at he
    obtain ⟨h1, h2⟩ := he
    unfold afind at h
    by_cases hp : a = p.1
    · subst hp
      rw [if_pos rfl] at h
      cases h
      unfold aput
      rw [if_pos rfl]
      have hk : e.key = .int .i64 p.1 := congrArg Prod.fst h1
      exact ⟨by simp [List.modify, h2]; rfl, e, rfl, hk⟩
    · rw [if_neg hp, afind_shift l a (0 + 1)] at h
      cases hf : afind l a 0 with
      | none => rw [hf] at h; cases h
      | some q =>
        obtain ⟨j', w'⟩ := q
        rw [hf] at h
        simp only [Option.map_some, Option.some.injEq, Prod.mk.injEq] at h
        obtain ⟨rfl, rfl⟩ := h
        obtain ⟨h3, e', h4, h5⟩ := put_some l es a v j' w' h2 hf
        unfold aput
        rw [if_neg hp]
        refine ⟨?_, e', by simpa using h4, h5⟩
        have : (j' + (0 + 1)) = j' + 1 := rfl
        rw [this, List.modify_succ_cons, List.map_cons, List.map_cons, h3, h1]
theorem put_none : ∀ (l : List (Int × Value)) (a : Int) (v : Value), afind l a 0 = none → aput l a v = l ++ [(a, v)]
  | [], _, _, _ => rfl
  | p :: l, a, v, h => by
    unfold afind at h
    by_cases hp : a = p.1
    · rw [if_pos hp] at h; cases h
    · rw [if_neg hp, afind_shift l a (0 + 1)] at h
      unfold aput
      rw [if_neg hp, put_none l a v (by cases hf : afind l a 0 with | none => rfl | some q => rw [hf] at h; cases h)]
      rfl
theorem del_some : ∀ (l : List (Int × Value)) (es : List MapEntry) (a : Int) (j : Nat) (w : Value), es.map entryOf = l.map pairOf → afind l a 0 = some (j, w) → (es.eraseIdx j).map entryOf = (adel l a).map pairOf
  | [], _, _, _, _, _, h => by simp [afind] at h
  | p :: l, [], _, _, _, he, _ => by simp at he
  | p :: l, e :: es, a, j, w, he, h => by
    simp only [List.map_cons, List.cons.injEq] at he
    obtain ⟨h1, h2⟩ := he
    unfold afind at h
    by_cases hp : a = p.1
    · rw [if_pos hp] at h
      cases h
      unfold adel
      rw [if_pos hp]
      exact h2
    · rw [if_neg hp, afind_shift l a (0 + 1)] at h
      cases hf : afind l a 0 with
      | none => rw [hf] at h; cases h
      | some q =>
        obtain ⟨j', w'⟩ := q
        rw [hf] at h
        simp only [Option.map_some, Option.some.injEq, Prod.mk.injEq] at h
        obtain ⟨rfl, rfl⟩ := h
        unfold adel
        rw [if_neg hp]
        have : (j' + (0 + 1)) = j' + 1 := rfl
        rw [this, List.eraseIdx_cons_succ, List.map_cons, List.map_cons, h1, del_some l es a j' w' h2 hf]
theorem del_none : ∀ (l : List (Int × Value)) (a : Int), afind l a 0 = none → adel l a = l
  | [], _, _ => rfl
  | p :: l, a, h => by
    unfold afind at h
    by_cases hp : a = p.1
    · rw [if_pos hp] at h; cases h
    · rw [if_neg hp, afind_shift l a (0 + 1)] at h
      unfold adel
      rw [if_neg hp, del_none l a (by cases hf : afind l a 0 with | none => rfl | some q => rw [hf] at h; cases h)]
/-- What a map is made to hold at a key. -/
theorem Op.mapUpdate {t k e : TypeId} {x y z : Operand} {b : Nat} {ob : Obj} {l : List (Int × Value)} {a : Int} {v : Value} {L' : Obj → Chunks} (hop : o.op = .mapUpdate t x y z) (ht : mapTy P t k e = true) (hd : o.dst = none) (hx : E.ev x = some (.map (some b))) (hy : E.ev y = some (.int .i64 a)) (hz : E.ev z = some v) (hm : MapObj l ob)
    (hu : ∀ o', Upd L b ob o' (L' o')) (h : ∀ o', MapObj (aput l a v) o' → WP n K E I (L' o')) : WP n (fun a w => o.wp P a w K Q) E I L := .mk fun A W ha hW => by
  obtain ⟨hut, hk⟩ := mapTy_run ht
  obtain ⟨es, clock, rfl, hes⟩ := hm
  have hb' : W.heap[b]? = some (.map es clock) := hW.own _ (hu (.map es clock)).mem
  have hlt : b < W.heap.size := (Array.getElem?_eq_some_iff.1 hb').1
  have h1 := Go.MapKept.run_getObj_map (P := P) hb'
  have h2 : (Instr.checkKey false 10000 k (.int .i64 a)).run P W = .ok () W := checkKey_int hk _ 9999 _ W
  have h3 := findKey_int (P := P) hk (a := a) hes W
  have hset := fun ob => Go.MapKept.run_setObj_map (P := P) ob hb'
  suffices hs : ∃ o', (execOp A.eval o).run P W = .ok .skip { W with heap := W.heap.setIfInBounds b o' } ∧ MapObj (aput l a v) o' by
    obtain ⟨o', h4, h5⟩ := hs
    show Oper.upon P o A _ _ _
    rw [h4]
    simp only [Oper.upon, hd]
    exact (h o' h5).out _ _ ha (hW.upd (hu o') rfl rfl rfl (by show (W.heap.setIfInBounds b o')[b]? = some o'; rw [Array.getElem?_setIfInBounds_self_of_lt hlt]) (fun c hc => by show (W.heap.setIfInBounds b o')[c]? = W.heap[c]?; rw [Array.getElem?_setIfInBounds_ne (Ne.symm hc)]))
  cases hf : afind l a 0 with
  | none =>
    rw [hf] at h3
    refine ⟨.map (es.push { key := .int .i64 a, val := v, born := clock }) (clock + 1), ?_, ⟨_, _, rfl, ?_⟩⟩
    · simp [execOp, hop, ha.ev hx, ha.ev hy, ha.ev hz, Instr.mapUpdate, run_underlying hut, h1, h2, h3, hset]
    · rw [put_none l a v hf]; simp [hes, entryOf, pairOf]
  | some q =>
    obtain ⟨j, w⟩ := q
    rw [hf] at h3
    obtain ⟨h4, e', h5, h6⟩ := put_some l es.toList a v j w hes hf
    have h7 : es[j]? = some e' := by rw [← Array.getElem?_toList]; exact h5
    refine ⟨.map (es.modify j fun e => { e with key := .int .i64 a, val := v }) clock, ?_, ⟨_, _, rfl, ?_⟩⟩
    · simp [execOp, hop, ha.ev hx, ha.ev hy, ha.ev hz, Instr.mapUpdate, run_underlying hut, h1, h2, h3, hset, h7, h6, Instr.keyThatStays, Instr.sameBits]
    · rw [Array.toList_modify]; exact h4
/-- A key is taken out. -/
theorem Op.delete {t k e : TypeId} {x y : Operand} {b : Nat} {ob : Obj} {l : List (Int × Value)} {a : Int} {L' : Obj → Chunks} (hop : o.op = .call { callee := .builtin .delete, args := #[x, y], argTypes := #[t, k] }) (ht : mapTy P t k e = true) (hd : o.dst = none) (hx : E.ev x = some (.map (some b))) (hy : E.ev y = some (.int .i64 a)) (hm : MapObj l ob)
    (hu : ∀ o', Upd L b ob o' (L' o')) (h : ∀ o', MapObj (adel l a) o' → WP n K E I (L' o')) : WP n (fun a w => o.wp P a w K Q) E I L := .mk fun A W ha hW => by
  obtain ⟨hut, hk⟩ := mapTy_run ht
  obtain ⟨es, clock, rfl, hes⟩ := hm
  have hb' : W.heap[b]? = some (.map es clock) := hW.own _ (hu (.map es clock)).mem
  have hlt : b < W.heap.size := (Array.getElem?_eq_some_iff.1 hb').1
  have h1 := Go.MapKept.run_getObj_map (P := P) hb'
  have h2 : (Instr.checkKey es.isEmpty 10000 k (.int .i64 a)).run P W = .ok () W := checkKey_int hk _ 9999 _ W
  have h3 := findKey_int (P := P) hk (a := a) hes W
  have hset := fun ob => Go.MapKept.run_setObj_map (P := P) ob hb'
  suffices hs : ∃ o', (execOp A.eval o).run P W = .ok (.value (.tuple #[])) { W with heap := W.heap.setIfInBounds b o' } ∧ MapObj (adel l a) o' by
    obtain ⟨o', h4, h5⟩ := hs
    show Oper.upon P o A _ _ _
    rw [h4]
    simp only [Oper.upon, hd]
    exact (h o' h5).out _ _ ha (hW.upd (hu o') rfl rfl rfl (by show (W.heap.setIfInBounds b o')[b]? = some o'; rw [Array.getElem?_setIfInBounds_self_of_lt hlt]) (fun c hc => by show (W.heap.setIfInBounds b o')[c]? = W.heap[c]?; rw [Array.getElem?_setIfInBounds_ne (Ne.symm hc)]))
  cases hf : afind l a 0 with
  | none =>
    rw [hf] at h3
    refine ⟨.map es clock, ?_, ⟨_, _, rfl, by rw [del_none l a hf]; exact hes⟩⟩
    simp [execOp, hop, ha.ev hx, ha.ev hy, resolve, invoke, builtin, Builtin.delete_, run_underlying hut, h1, h2, h3, hset]
  | some q =>
    obtain ⟨j, w⟩ := q
    rw [hf] at h3
    refine ⟨.map (es.eraseIdxIfInBounds j) clock, ?_, ⟨_, _, rfl, ?_⟩⟩
    · simp [execOp, hop, ha.ev hx, ha.ev hy, resolve, invoke, builtin, Builtin.delete_, run_underlying hut, h1, h2, h3, hset]
    · rw [Array.toList_eraseIdxIfInBounds]; exact del_some l es.toList a j w hes hf
end
/-! What stands there behind a put, a take. -/
theorem aget_put (l : List (Int × Value)) (a c : Int) (v : Value) : aget (aput l a v) c = if c = a then some v else aget l c := by
  unfold aget
  induction l with
  | nil =>
    unfold aput afind
    by_cases h : c = a
    · simp [h]
    · simp [h, afind]
  | cons p l ih =>
    unfold aput
    by_cases hp : a = p.1
    · rw [if_pos hp]
      by_cases h : c = a
      · subst h; simp [afind]
      · rw [if_neg h]; unfold afind; rw [if_neg h, if_neg (by rw [← hp]; exact h)]
    · rw [if_neg hp]
      by_cases hc : c = p.1
      · have : ¬ c = a := fun e => hp (by rw [← e]; exact hc)
        rw [if_neg this]; unfold afind; rw [if_pos hc, if_pos hc]
      · unfold afind; rw [if_neg hc, if_neg hc, afind_shift, Option.map_map]
        have h2 : Option.map ((fun x => x.snd) ∘ fun p : Nat × Value => (p.1 + (0 + 1), p.2)) (afind (aput l a v) c 0) = Option.map (·.2) (afind (aput l a v) c 0) := by congr 1
        rw [h2, ih]
        split
        · rfl
        · conv => rhs; rw [afind_shift, Option.map_map]
          congr 1
theorem aget_cons (p : Int × Value) (l : List (Int × Value)) (c : Int) : aget (p :: l) c = if c = p.1 then some p.2 else aget l c := by
  unfold aget
  conv => lhs; unfold afind
  by_cases h : c = p.1
  · rw [if_pos h, if_pos h]; rfl
  · rw [if_neg h, if_neg h, afind_shift, Option.map_map]; congr 1
theorem aget_none {l : List (Int × Value)} {a : Int} : aget l a = none ↔ a ∉ l.map (·.1) := by
  induction l with
  | nil => simp [aget, afind]
  | cons p l ih =>
    rw [aget_cons, List.map_cons, List.mem_cons]
    by_cases h : a = p.1
    · simp [h]
    · rw [if_neg h, ih]; simp [h]
theorem keys_put (l : List (Int × Value)) (a : Int) (v : Value) : (aput l a v).map (·.1) = if a ∈ l.map (·.1) then l.map (·.1) else l.map (·.1) ++ [a] := by
  induction l with
  | nil => simp [aput]
  | cons p l ih =>
    unfold aput
    by_cases h : a = p.1
    · simp [h]
    · rw [if_neg h, List.map_cons, ih, List.map_cons]
      by_cases h2 : a ∈ l.map (·.1)
      · rw [if_pos h2, if_pos (List.mem_cons_of_mem _ h2)]
      · rw [if_neg h2, if_neg (by simp only [List.mem_cons, not_or]; exact ⟨h, h2⟩)]; rfl
theorem nodup_put {l : List (Int × Value)} (h : (l.map (·.1)).Nodup) (a : Int) (v : Value) : ((aput l a v).map (·.1)).Nodup := by
  rw [keys_put]
  split
  · exact h
  · rename_i hn
    rw [List.nodup_append]
    exact ⟨h, by simp, fun x hx y hy => by simp only [List.mem_singleton] at hy; subst hy; exact fun e => hn (e ▸ hx)⟩
theorem len_put (l : List (Int × Value)) (a : Int) (v : Value) : (aput l a v).length = if (aget l a).isSome = true then l.length else l.length + 1 := by
  have := congrArg List.length (keys_put l a v)
  rw [List.length_map] at this
  rw [this]
  cases h : aget l a with
  | none => rw [if_neg (aget_none.1 h)]; simp
  | some w => rw [if_pos (Decidable.not_not.1 fun hn => by rw [aget_none.2 hn] at h; cases h)]; simp
theorem keys_del_sub (l : List (Int × Value)) (a : Int) : ((adel l a).map (·.1)).Sublist (l.map (·.1)) := by
  induction l with
  | nil => exact .slnil
  | cons p l ih =>
    unfold adel
    by_cases h : a = p.1
    · rw [if_pos h]; exact List.sublist_cons_self _ _
    · rw [if_neg h]; exact ih.cons_cons _
theorem nodup_del {l : List (Int × Value)} (h : (l.map (·.1)).Nodup) (a : Int) : ((adel l a).map (·.1)).Nodup := h.sublist (keys_del_sub l a)
theorem aget_del {l : List (Int × Value)} (h : (l.map (·.1)).Nodup) (a c : Int) : aget (adel l a) c = if c = a then none else aget l c := by
  induction l with
  | nil => simp [adel, aget, afind]
  | cons p l ih =>
    rw [List.map_cons, List.nodup_cons] at h
    unfold adel
    by_cases hp : a = p.1
    · rw [if_pos hp, aget_cons]
      by_cases hc : c = a
      · rw [if_pos hc, hc, hp]; exact aget_none.2 h.1
      · rw [if_neg hc, if_neg (by rw [← hp]; exact hc)]
    · rw [if_neg hp, aget_cons, ih h.2, aget_cons]
      by_cases hc : c = a
      · rw [if_pos hc, if_pos hc, if_neg (by rw [hc]; exact hp)]
      · rw [if_neg hc, if_neg hc]
theorem len_del (l : List (Int × Value)) (a : Int) : (adel l a).length = if (aget l a).isSome = true then l.length - 1 else l.length := by
  induction l with
  | nil => simp [adel, aget, afind]
  | cons p l ih =>
    unfold adel
    by_cases hp : a = p.1
    · rw [if_pos hp, aget_cons, if_pos hp]; simp
    · rw [if_neg hp, aget_cons, if_neg hp, List.length_cons, ih, List.length_cons]
      cases h : aget l a with
      | none => simp
      | some w =>
        have : 0 < l.length := by cases l with | nil => simp [aget, afind] at h | cons q l => simp
        simp; omega
end Go.Hp
