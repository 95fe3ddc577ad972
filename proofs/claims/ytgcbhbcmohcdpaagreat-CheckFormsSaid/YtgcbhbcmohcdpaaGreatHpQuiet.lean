/-
  Regions that draw their order, whose first operations only compute, read, or call what leaves all as it was, and whose last ones stand in a row: one walk in the order of the text serves every order.
-/
import Derived.Test.YtgcbhbcmohcdpaaGreatHpLoud
import Derived.Deep.Quiet
import Derived.StillTail
set_option linter.unusedVariables false
set_option linter.unusedSimpArgs false
namespace Go.Hp
open Go

section
variable {P : Program} {ops : Array Oper} {md : Region.Mode} {C : World → Prop}

def wpAnyT (P : Program) (md : Region.Mode) (ops : Array Oper) (C : World → Prop) (n : Nat) (T : Array Bool → Act → Prop) : Nat → Array Bool → Act → Prop
  | 0, listed, a => T listed a
  | f + 1, listed, a =>
    Region.ready md ops listed ≠ [] ∧ ∀ i ∈ Region.ready md ops listed, i < n ∧ qOp P ops C i (wpAnyT P md ops C n T f (listed.setIfInBounds i true)) a

theorem wpAny_of_T {n g : Nat} {T : Array Bool → Act → Prop} {Q' : Exit → Act → World → Prop} (hT : ∀ listed a, T listed a → ∀ w, C w → wpAny P md ops Q' g listed a w) :
    ∀ (f : Nat) (listed : Array Bool) (a : Act) (w : World), C w → wpAnyT P md ops C n T f listed a → wpAny P md ops Q' (f + g) listed a w
  | 0, listed, a, w, hw, h => by rw [Nat.zero_add]; exact hT _ _ h w hw
  | f + 1, listed, a, w, hw, h => by
    rw [show f + 1 + g = (f + g) + 1 by omega]
    exact ⟨fun h0 => absurd h0 h.1, fun i hi => wpOp_of_qOp hw (fun a' w' hw' h' => wpAny_of_T hT f _ a' w' hw' h') (h.2 i hi).2⟩

theorem wpAnyT_first {n i : Nat} {oi : Oper} {v : Value} {T : Array Bool → Act → Prop} (hi : ops[i]? = some oi) (hsel : ∀ (j : Nat) (o : Oper) cs b, ops[j]? = some o → o.op ≠ .select cs b)
    (hs : Region.sinkB md ops n = true) (hc : Region.chainB md ops n = true) (hn : n < ops.size) (hin : i < n)
    (hdone : ∀ listed a, T listed a → ∀ j ∈ Region.ready md ops listed, n ≤ j) :
    ∀ (f : Nat) (listed : Array Bool) (a : Act), HeadInv md ops n listed →
      (∀ j oj, ops[j]? = some oj → j ≠ i → listed.getD j true = false → (∀ e ∈ oj.after, Region.binds md e = true → e.on ≠ i) → oi.apart ops oj = true) →
      i ∈ Region.ready md ops listed → YieldsIn P ops C oi v a →
      wpAnyT P md ops C n T f (listed.setIfInBounds i true) (a.put oi.dst v) → wpAnyT P md ops C n T (f + 1) listed a := by
  intro f
  induction f with
  | zero =>
    intro listed a inv _ hr hy H
    have hun := (mem_ready.1 hr).1
    refine ⟨fun h => (by rw [h] at hr; cases hr), fun j hj => ?_⟩
    have hjn : j < n := by
      rcases Nat.lt_or_ge j n with h | h
      · exact h
      · exact absurd hj (tail_waits hs hc hn inv _ i rfl hin hun j h)
    refine ⟨hjn, ?_⟩
    by_cases hji : j = i
    · subst hji; exact hy.qOp hi H
    · have := hdone _ _ H j (ready_mono hj hji)
      omega
  | succ f ih =>
    intro listed a inv hfree hr hy H
    have hun := (mem_ready.1 hr).1
    refine ⟨fun h => (by rw [h] at hr; cases hr), fun j hj => ?_⟩
    have hjn : j < n := by
      rcases Nat.lt_or_ge j n with h | h
      · exact h
      · exact absurd hj (tail_waits hs hc hn inv _ i rfl hin hun j h)
    refine ⟨hjn, ?_⟩
    by_cases hji : j = i
    · subst hji; exact hy.qOp hi H
    · have h1 := (H.2 j (ready_mono hj hji)).2
      obtain ⟨hjun, oj, hoj, hall⟩ := mem_ready.1 hj
      have hnot : ∀ e ∈ oj.after, Region.binds md e = true → e.on ≠ i := fun e he hb heq => by
        have h1 := hall e he hb
        rw [heq, getD_both hun] at h1
        cases h1
      have h2 := qOp_put hoj (hfree j oj hoj hji hjun hnot) (fun cs b => hsel i oi cs b hi) (fun cs b => hsel j oj cs b hoj) hy h1
      have hfree' : ∀ k ok, ops[k]? = some ok → k ≠ i → (listed.setIfInBounds j true).getD k true = false →
          (∀ e ∈ ok.after, Region.binds md e = true → e.on ≠ i) → oi.apart ops ok = true := fun k ok hk hki hun hno => by
        refine hfree k ok hk hki ?_ hno
        by_cases hjk : j = k
        · subst hjk; exact hjun
        · rw [getD_set_ne true hjk] at hun; exact hun
      refine qOp_mono (fun a' h3 => ih (listed.setIfInBounds j true) a' (inv.set hj hjn) hfree' (ready_mono hr (Ne.symm hji)) h3.1 ?_) h2
      rw [Array.setIfInBounds_comm _ _ hji]
      exact h3.2

theorem wpAnyT_lex {n g : Nat} {Tq : Act → Prop} (hsel : Region.noSelect ops = true) (hs : Region.sinkB md ops n = true) (hc : Region.chainB md ops n = true) (hn : n < ops.size) :
    ∀ (l : List Oper) (k : Nat) (listed : Array Bool) (a : Act), (∀ j, j < l.length → l[j]? = ops[k + j]?) → k + l.length = n → HeadInv md ops n listed →
    Region.lexHead md ops g l.length k listed = true → wpQuiet P ops C Tq l a →
    wpAnyT P md ops C n (fun listed' a' => Region.seqB md ops g n listed' = true ∧ Tq a') l.length listed a
  | [], k, listed, a, _, hk, _, hB, h => by
    have : k = n := by simpa using hk
    subst this
    exact ⟨by simpa [Region.lexHead] using hB, h⟩
  | o :: l, k, listed, a, hl, hk, inv, hB, h => by
    have h0 : ops[k]? = some o := by simpa using (hl 0 (by simp)).symm
    simp only [List.length_cons, Region.lexHead, Bool.and_eq_true] at hB
    obtain ⟨⟨hr, hf⟩, hB'⟩ := hB
    have hkn : k < n := by simp only [List.length_cons] at hk; omega
    have hr' : k ∈ Region.ready md ops listed := by simpa using hr
    have hst : qOp P ops C k (wpQuiet P ops C Tq l) a := by unfold qOp; simp only [h0]; exact h
    obtain ⟨v, hy, hK⟩ := yieldsIn_of_qOp h0 hst
    exact wpAnyT_first h0 (Region.noSelect_spec hsel) hs hc hn hkn (fun listed' a' hL => seqB_ready hL.1) l.length listed a inv (Region.free_spec h0 hf) hr' hy
      (wpAnyT_lex hsel hs hc hn l (k + 1) _ _ (fun j hj => by have := hl (j + 1) (by simp; omega); simpa [Nat.add_assoc, Nat.add_comm 1 j] using this) (by simp only [List.length_cons] at hk; omega) (inv.set hr' hkn) hB' hK)

theorem wpAny_of_row {Q' : Exit → Act → World → Prop} : ∀ (g k : Nat) (listed : Array Bool) (a : Act) (w : World),
    Region.seqB md ops g k listed = true → wpOps P ops Q' (List.range' k g) a w → wpAny P md ops Q' g listed a w
  | 0, _, _, _, _, hB, h => ⟨by simpa [Region.seqB] using hB, h⟩
  | g + 1, k, listed, a, w, hB, h => by
    simp only [Region.seqB, Bool.and_eq_true, decide_eq_true_eq] at hB
    refine ⟨fun h1 => (by rw [hB.1] at h1; cases h1), fun i hi => ?_⟩
    rw [hB.1] at hi
    have hik : i = k := by simpa using hi
    subst hik
    rw [List.range'_succ, wpOps_cons] at h
    exact wpOp_mono (fun a' w' h' => wpAny_of_row g (i + 1) _ a' w' hB.2 h') h

/-- The region: the first m operations quiet in the class, the others in a row. -/
theorem wp_region_quiet_tail {id : Nat} {Q : Exit → Act → World → Prop} {a : Act} {w : World} (m : Nat) (hm : P.follows .mixedOrders = true) (hB : Region.lexTailB .any ops m = true) (hC : C { w with drawn := w.drawn + 1 })
    (h : wpQuiet P ops C (fun a' => ∀ w', C w' → wpOps P ops Q (List.range' m (ops.size - m)) a' w') (ops.toList.take m) a) : (Code.region id ops true).wp P Q a w := by
  simp only [Region.lexTailB, Bool.and_eq_true, decide_eq_true_eq] at hB
  obtain ⟨⟨⟨⟨hsel, hn⟩, hs⟩, hc⟩, hlex⟩ := hB
  have htl : (ops.toList.take m).length = m := by simp; omega
  have inv0 : HeadInv .any ops m (Array.replicate ops.size false) :=
    ⟨by simp, fun j oj _ hl => (by rw [getD_replicate_false] at hl; cases hl), fun t _ ht => getD_in (by simpa using ht) (getD_replicate_false _ _)⟩
  have H := wpAnyT_lex (md := .any) (g := ops.size - m) hsel hs hc hn (ops.toList.take m) 0 _ a (fun j hj => by
    have hj' : j < m := by rw [htl] at hj; exact hj
    simp [hj']) (by simpa using htl) inv0 (by rw [htl]; exact hlex) h
  refine wp_region_any hm ?_; have := wpAny_of_T (Q' := Q) (g := ops.size - m) (fun listed a' hL w' hw' => wpAny_of_row _ m listed a' w' hL.1 (hL.2 w' hw')) _ _ _ _ hC H
  rw [htl, show m + (ops.size - m) = ops.size by omega] at this
  exact this
end

section
variable {P : Program} {n : Nat} {E : Env} {I : Imm} {L : Chunks} {Q : Exit → Act → World → Prop} {ops : Array Oper} {K : Act → World → Prop} {o : Oper} {r : List Oper}

/-- A walk through quiet operations. -/
structure WQ (P : Program) (n : Nat) (ops : Array Oper) (K : Act → World → Prop) (r : List Oper) (E : Env) (I : Imm) (L : Chunks) : Prop where
  out : ∀ a, EnvOk n E a → wpQuiet P ops (Has I L) (fun a' => ∀ w, Has I L w → K a' w) r a

theorem WQ.start {id : Nat} (hm : P.follows .mixedOrders = true) (m : Nat) (hB : Region.lexTailB .any ops m = true) (l : List Oper) (hl : ops.toList.take m = l) (g : List Nat) (hg : List.range' m (ops.size - m) = g)
    (h : WQ P n ops (wpOps P ops Q g) l E I L) : WP n ((Code.region id ops true).wp P Q) E I L := .mk fun a W ha hW => by
  subst hl; subst hg
  exact wp_region_quiet_tail (C := Has I L) m hm hB hW.drew (h.out a ha)
theorem WQ.startAll {id : Nat} (hm : P.follows .mixedOrders = true) (hB : Region.lexB .any ops = true) (l : List Oper) (hl : ops.toList = l)
    (h : WQ P n ops (fun a w => Q .normal a w) l E I L) : WP n ((Code.region id ops true).wp P Q) E I L := .mk fun a W ha hW => by
  subst hl
  exact wp_region_quiet (C := Has I L) hm hB hW.drew (h.out a ha)
theorem WQ.nil (h : WP n K E I L) : WQ P n ops K [] E I L := ⟨fun a ha w hw => h.out a w ha hw⟩

theorem WQ.step {d : Nat} {v : Value} (hw : ∀ a, EnvOk n E a → Region.wanted o (yielded ops a.tmps) = true) (hd : o.dst = some d) (hlt : Nat.blt d n = true)
    (hq : ∀ a W, EnvOk n E a → Has I L W → o.quietAt P a (Has I L) W v) (k : WQ P n ops K r ((d, v) :: E) I L) : WQ P n ops K (o :: r) E I L := ⟨fun a ha => by
  unfold wpQuiet
  simp only [hw a ha, if_true]
  exact ⟨v, fun W hW => hq a W ha hW, by rw [hd]; exact k.out _ (ha.put hlt v)⟩⟩
theorem WQ.val {d : Nat} {v : Value} (hg : o.guard = none) (hd : o.dst = some d) (hlt : Nat.blt d n = true) (y : Yld P n E (There I L) o v) (k : WQ P n ops K r ((d, v) :: E) I L) : WQ P n ops K (o :: r) E I L :=
  WQ.step (fun a _ => by simp [Region.wanted, hg]) hd hlt (fun a W ha hW => by
    unfold Oper.quietAt
    rw [y a W ha (fun b o h => h.heap hW)]
    exact ⟨rfl, rfl⟩) k
theorem WQ.valG {d g e : Nat} {t : Bool} {og : Oper} {v : Value} (hg : o.guard = some (g, t)) (hog : ops[g]? = some og) (hgd : og.dst = some e) (hv : E.get e = some (.bool t)) (hd : o.dst = some d) (hlt : Nat.blt d n = true) (y : Yld P n E (There I L) o v) (k : WQ P n ops K r ((d, v) :: E) I L) : WQ P n ops K (o :: r) E I L :=
  WQ.step (fun a ha => by simp [Region.wanted, hg, yielded, hog, hgd, ha.get _ _ hv]) hd hlt (fun a W ha hW => by
    unfold Oper.quietAt
    rw [y a W ha (fun b o h => h.heap hW)]
    exact ⟨rfl, rfl⟩) k
theorem WQ.passG {d g e : Nat} {t : Bool} {u : Value} {og : Oper} (hg : o.guard = some (g, t)) (hog : ops[g]? = some og) (hgd : og.dst = some e) (hv : E.get e = some u) (hne : isB u t = false) (hd : o.dst = some d) (hlt : Nat.blt d n = true) (k : WQ P n ops K r ((d, undef) :: E) I L) : WQ P n ops K (o :: r) E I L := ⟨fun a ha => by
  have hw : Region.wanted o (yielded ops a.tmps) = false := unwanted hg hog hgd (ha.get _ _ hv) hne
  unfold wpQuiet
  simp only [hw, Bool.false_eq_true, if_false]
  rw [hd]; exact k.out _ (ha.put hlt _)⟩

/-- A call that leaves all as it was. -/
theorem quiet_call {f : Nat} {fn : Func} {xs : Array Operand} {ts : Array TypeId} {vs : List Value} {L0 F : Chunks} {R : Value → Imm → Chunks → Prop} {v : Value} (sp : Spec P f vs I L0 R) (hop : o.op = .call { callee := .value (.func f), args := xs, argTypes := ts })
    (hf : P.funcs[f]? = some fn) (hfn : ((fn.name == "runtime.NumGoroutine") || fn.body.isNone) = false) (hx : xs.toList.map E.ev = vs.map some) (hp : Take L L0 F) (hR : ∀ v' J L1, R v' J L1 → v' = v ∧ J = I ∧ L1 = L0) (a : Act) (W : World) (ha : EnvOk n E a) (hW : Has I L W) : o.quietAt P a (Has I L) W v := by
  unfold Oper.quietAt
  rw [call_run hop hf hfn hx ha W]
  refine ⟨rfl, (sp F W (hW.perm hp.perm)).mono ?_⟩
  rintro e W' ⟨v', J, L1, rfl, hJ, hr, hH⟩
  obtain ⟨rfl, rfl, rfl⟩ := hR _ _ _ hr
  exact ⟨rfl, hH.perm hp.perm.symm⟩
theorem WQ.call {f d : Nat} {fn : Func} {xs : Array Operand} {ts : Array TypeId} {vs : List Value} {L0 F : Chunks} {R : Value → Imm → Chunks → Prop} {v : Value} (sp : Spec P f vs I L0 R) (hR : ∀ v' J L1, R v' J L1 → v' = v ∧ J = I ∧ L1 = L0) (hop : o.op = .call { callee := .value (.func f), args := xs, argTypes := ts })
    (hf : P.funcs[f]? = some fn) (hfn : ((fn.name == "runtime.NumGoroutine") || fn.body.isNone) = false) (hx : xs.toList.map E.ev = vs.map some) (hg : o.guard = none) (hd : o.dst = some d) (hlt : Nat.blt d n = true) (hp : Take L L0 F)
    (k : WQ P n ops K r ((d, v) :: E) I L) : WQ P n ops K (o :: r) E I L :=
  WQ.step (fun a _ => by simp [Region.wanted, hg]) hd hlt (quiet_call sp hop hf hfn hx hp hR) k
theorem WQ.callG {f d g e : Nat} {t : Bool} {og : Oper} {fn : Func} {xs : Array Operand} {ts : Array TypeId} {vs : List Value} {L0 F : Chunks} {R : Value → Imm → Chunks → Prop} {v : Value} (sp : Spec P f vs I L0 R) (hR : ∀ v' J L1, R v' J L1 → v' = v ∧ J = I ∧ L1 = L0) (hop : o.op = .call { callee := .value (.func f), args := xs, argTypes := ts })
    (hf : P.funcs[f]? = some fn) (hfn : ((fn.name == "runtime.NumGoroutine") || fn.body.isNone) = false) (hx : xs.toList.map E.ev = vs.map some) (hg : o.guard = some (g, t)) (hog : ops[g]? = some og) (hgd : og.dst = some e) (hv : E.get e = some (.bool t)) (hd : o.dst = some d) (hlt : Nat.blt d n = true) (hp : Take L L0 F)
    (k : WQ P n ops K r ((d, v) :: E) I L) : WQ P n ops K (o :: r) E I L :=
  WQ.step (fun a ha => by simp [Region.wanted, hg, yielded, hog, hgd, ha.get _ _ hv]) hd hlt (quiet_call sp hop hf hfn hx hp hR) k
theorem WQ.split {d : Nat} {p : Prop} [Decidable p] (hg : o.guard = none) (hd : o.dst = some d) (hlt : Nat.blt d n = true) (y : ∀ c, decide p = c → Yld P n E (There I L) o (.bool c))
    (ht : p → WQ P n ops K r ((d, .bool true) :: E) I L) (hf : ¬p → WQ P n ops K r ((d, .bool false) :: E) I L) : WQ P n ops K (o :: r) E I L := by
  by_cases h : p
  · exact WQ.val hg hd hlt (y true (decide_eq_true h)) (ht h)
  · exact WQ.val hg hd hlt (y false (decide_eq_false h)) (hf h)
theorem WQ.splitG {d g e : Nat} {t : Bool} {og : Oper} {p : Prop} [Decidable p] (hg : o.guard = some (g, t)) (hog : ops[g]? = some og) (hgd : og.dst = some e) (hv : E.get e = some (.bool t)) (hd : o.dst = some d) (hlt : Nat.blt d n = true) (y : ∀ c, decide p = c → Yld P n E (There I L) o (.bool c))
    (ht : p → WQ P n ops K r ((d, .bool true) :: E) I L) (hf : ¬p → WQ P n ops K r ((d, .bool false) :: E) I L) : WQ P n ops K (o :: r) E I L := by
  by_cases h : p
  · exact WQ.valG hg hog hgd hv hd hlt (y true (decide_eq_true h)) (ht h)
  · exact WQ.valG hg hog hgd hv hd hlt (y false (decide_eq_false h)) (hf h)
end
end Go.Hp
