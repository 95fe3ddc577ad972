/-
  Regions that draw their order: what only reads, or computes, is taken first, also where a last operation writes what was read.
-/
import Derived.Test.YtgcbhbcmohcdpaaGreatHpCore
set_option linter.unusedVariables false
set_option linter.unusedSimpArgs false
namespace Go.Hp
open Go

/-- The heap shows what V says. -/
def Keeps (V : Nat → Obj → Prop) (w : World) : Prop := ∀ b o, V b o → w.heap[b]? = some o

section
variable {P : Program} {ops : Array Oper} {Q : Exit → Act → World → Prop} {md : Region.Mode}

/-- Up to the operation s the heap shows V1 (and V2 throughout). -/
def SS (s : Nat) (V1 V2 : Nat → Obj → Prop) (l : Array Bool) (w : World) : Prop := (l.getD s false = false → Keeps V1 w) ∧ Keeps V2 w

/-- What has come up has all that it waits for. -/
def Closed (md : Region.Mode) (ops : Array Oper) (l : Array Bool) : Prop :=
  l.size = ops.size ∧ ∀ j o, ops[j]? = some o → l.getD j false = true → ∀ e ∈ o.after, Region.binds md e = true → l.getD e.on false = true

theorem Closed.start : Closed md ops (Array.replicate ops.size false) := ⟨by simp, fun j o _ h => by
  exfalso
  simp only [Array.getD_eq_getD_getElem?, Array.getElem?_replicate] at h
  split at h <;> simp at h⟩

theorem getD_true_false {l : Array Bool} {j : Nat} (h : l.getD j true = false) : j < l.size := by
  rcases Nat.lt_or_ge j l.size with h' | h'
  · exact h'
  · simp [Array.getD_eq_getD_getElem?, Array.getElem?_eq_none h'] at h

theorem Closed.set {l : Array Bool} {j : Nat} (h : Closed md ops l) (hj : j ∈ Region.ready md ops l) : Closed md ops (l.setIfInBounds j true) := by
  obtain ⟨h0, o, ho, hall⟩ := mem_ready.1 hj
  refine ⟨by simp [h.1], fun k ok hk hl e he hb => ?_⟩
  by_cases hjk : k = j
  · subst hjk
    rw [ho] at hk; cases hk
    exact getD_set_true (hall e he hb)
  · rw [getD_set_ne false (Ne.symm hjk)] at hl
    exact getD_set_true (h.2 k ok hk hl e he hb)

/-- Does s wait for i, by at most so many steps? -/
def waits (md : Region.Mode) (ops : Array Oper) (i : Nat) : Nat → Nat → Bool
  | 0, _ => false
  | f + 1, s => match ops[s]? with
    | none => true
    | some o => o.after.toList.any fun e => Region.binds md e && (e.on == i || waits md ops i f e.on)

theorem waits_spec {l : Array Bool} (h : Closed md ops l) (i : Nat) : ∀ (f s : Nat), waits md ops i f s = true → l.getD s false = true → l.getD i false = true
  | 0, _, hw, _ => by simp [waits] at hw
  | f + 1, s, hw, hl => by
    unfold waits at hw
    cases ho : ops[s]? with
    | none =>
      have hs : l.size ≤ s := by rw [h.1]; exact Array.getElem?_eq_none_iff.1 ho
      simp [Array.getD_eq_getD_getElem?, Array.getElem?_eq_none hs] at hl
    | some o =>
      rw [ho] at hw
      simp only [List.any_eq_true] at hw
      obtain ⟨e, he, hw⟩ := hw
      have he := Array.mem_toList_iff.1 he
      simp only [Bool.and_eq_true, Bool.or_eq_true, beq_iff_eq] at hw
      obtain ⟨hb, hw⟩ := hw
      have h1 := h.2 s o ho hl e he hb
      rcases hw with rfl | hw
      · exact h1
      · exact waits_spec h i f e.on hw h1

variable (s : Nat) (V1 V2 : Nat → Obj → Prop)
def wpAnyI (P : Program) (md : Region.Mode) (ops : Array Oper) (Q : Exit → Act → World → Prop) (S : Array Bool → World → Prop) : Nat → Array Bool → Act → World → Prop
  | 0, listed, a, w => Region.ready md ops listed = [] ∧ Q .normal a w
  | fuel + 1, listed, a, w =>
    (Region.ready md ops listed = [] → Q .normal a w) ∧
    ∀ i ∈ Region.ready md ops listed, wpOp P ops Q i (fun a' w' => S (listed.setIfInBounds i true) w' ∧ wpAnyI P md ops Q S fuel (listed.setIfInBounds i true) a' w') a w

theorem wpAny_of_I {S : Array Bool → World → Prop} : ∀ (fuel : Nat) (listed : Array Bool) (a : Act) (w : World), wpAnyI P md ops Q S fuel listed a w → wpAny P md ops Q fuel listed a w
  | 0, _, _, _, h => h
  | fuel + 1, _, _, _, h => ⟨h.1, fun i hi => wpOp_mono (fun a' w' h' => wpAny_of_I fuel _ a' w' h'.2) (h.2 i hi)⟩

theorem SS.weaken {l : Array Bool} {i : Nat} {w : World} (hne : i ≠ s) (h : SS s V1 V2 (l.setIfInBounds i true) w) : SS s V1 V2 l w :=
  ⟨fun hl => h.1 (by rw [getD_set_ne false hne]; exact hl), h.2⟩

theorem wpAnyI_first {i : Nat} {oi : Oper} {v : Value} (hi : ops[i]? = some oi) (hsel : ∀ (j : Nat) (o : Oper) cs b, ops[j]? = some o → o.op ≠ .select cs b)
    (hQ : ∀ c a w, Q (.panic c) (a.put oi.dst v) w → Q (.panic c) a w) (hne : i ≠ s) :
    ∀ (fuel : Nat) (listed : Array Bool) (a : Act) (w : World), Closed md ops listed →
      (∀ j oj, ops[j]? = some oj → j ≠ i → listed.getD j true = false → (∀ e ∈ oj.after, Region.binds md e = true → e.on ≠ i) → oi.apart ops oj = true) →
      i ∈ Region.ready md ops listed → YieldsIf P ops (fun w => ∃ l, Closed md ops l ∧ l.getD i true = false ∧ SS s V1 V2 l w) oi v a → SS s V1 V2 listed w →
      wpAnyI P md ops Q (SS s V1 V2) fuel (listed.setIfInBounds i true) (a.put oi.dst v) w → wpAnyI P md ops Q (SS s V1 V2) (fuel + 1) listed a w := by
  have hset : ∀ (listed : Array Bool) (w : World), SS s V1 V2 listed w → SS s V1 V2 (listed.setIfInBounds i true) w := fun listed w h =>
    ⟨fun hl => h.1 (by rw [getD_set_ne false hne] at hl; exact hl), h.2⟩
  intro fuel
  induction fuel with
  | zero =>
    intro listed a w hcl _ hr hy hS H
    refine ⟨fun h => (by rw [h] at hr; cases hr), fun j hj => ?_⟩
    by_cases hji : j = i
    · subst hji; exact hy.wpOp hi ⟨listed, hcl, (mem_ready.1 hr).1, hS⟩ ⟨hset _ _ hS, H⟩
    · have := ready_mono hj hji
      rw [H.1] at this
      cases this
  | succ fuel ih =>
    intro listed a w hcl hfree hr hy hS H
    refine ⟨fun h => (by rw [h] at hr; cases hr), fun j hj => ?_⟩
    by_cases hji : j = i
    · subst hji; exact hy.wpOp hi ⟨listed, hcl, (mem_ready.1 hr).1, hS⟩ ⟨hset _ _ hS, H⟩
    · have h1 := H.2 j (ready_mono hj hji)
      obtain ⟨hjun, oj, hoj, hall⟩ := mem_ready.1 hj
      have hnot : ∀ e ∈ oj.after, Region.binds md e = true → e.on ≠ i := fun e he hb heq => by
        have h1 := hall e he hb
        have h0 := (mem_ready.1 hr).1
        rw [heq] at h1
        rcases Nat.lt_or_ge i listed.size with h' | h'
        · simp [h'] at h0 h1; rw [h0] at h1; cases h1
        · simp [Array.getElem?_eq_none h'] at h1
      have h2 := wpOp_putIf hoj (hfree j oj hoj hji hjun hnot) (fun cs b => hsel i oi cs b hi) (fun cs b => hsel j oj cs b hoj) hQ hy h1
      have hfree' : ∀ k ok, ops[k]? = some ok → k ≠ i → (listed.setIfInBounds j true).getD k true = false →
          (∀ e ∈ ok.after, Region.binds md e = true → e.on ≠ i) → oi.apart ops ok = true := fun k ok hk hki hun hno => by
        refine hfree k ok hk hki ?_ hno
        by_cases hjk : j = k
        · subst hjk; exact hjun
        · rw [getD_set_ne true hjk] at hun; exact hun
      refine wpOp_mono (fun a' w' h3 => ?_) h2
      have hS3 : SS s V1 V2 (listed.setIfInBounds j true) w' := by
        refine SS.weaken s V1 V2 (i := i) hne ?_; rw [Array.setIfInBounds_comm _ _ hji]
        exact h3.2.1
      refine ⟨hS3, ih (listed.setIfInBounds j true) a' w' (hcl.set hj) hfree' (ready_mono hr (Ne.symm hji)) h3.1 hS3 ?_⟩
      rw [Array.setIfInBounds_comm _ _ hji]
      exact h3.2.2
end

/-- The end of a region alone. -/
def onlyN (K : Act → World → Prop) : Exit → Act → World → Prop
  | .normal, a, w => K a w
  | _, _, _ => False

section
variable {P : Program} {n : Nat} {E : Env} {I : Imm} {L : Chunks} {Q : Exit → Act → World → Prop} {ops : Array Oper} {K : Act → World → Prop} {s : Nat} {V1 V2 : Nat → Obj → Prop}

/-- The state of a walk through a region that draws its order: these have come up. -/
def WD (P : Program) (n : Nat) (ops : Array Oper) (K : Act → World → Prop) (s : Nat) (V1 V2 : Nat → Obj → Prop) (fuel : Nat) (listed : List Bool) (E : Env) (I : Imm) (L : Chunks) : Prop :=
  WP n (fun a w => Closed .any ops listed.toArray → SS s V1 V2 listed.toArray w → wpAnyI P .any ops (onlyN K) (SS s V1 V2) fuel listed.toArray a w) E I L

def SubL (V : Nat → Obj → Prop) (I : Imm) (L : Chunks) : Prop := ∀ b o, V b o → There I L b o
theorem SubL.keeps {V : Nat → Obj → Prop} (h : SubL V I L) {w : World} (hw : Has I L w) : Keeps V w := fun b o hv => (h b o hv).heap hw

theorem SubL.nil : SubL (There I []) I L := fun b o h => h.elim (fun h => by cases h) .inr
theorem SubL.cons {b : Nat} {o : Obj} {l : Chunks} (h : There I L b o) (k : SubL (There I l) I L) : SubL (There I ((b, o) :: l)) I L := fun b' o' h' => by
  rcases h' with h' | h'
  · rcases List.mem_cons.1 h' with e | h'
    · cases e; exact h
    · exact k b' o' (.inl h')
  · exact .inr h'
theorem WD.start {id : Nat} (hm : P.follows .mixedOrders = true) (s : Nat) (V1 V2 : Nat → Obj → Prop) (h1 : SubL V1 I L) (h2 : SubL V2 I L) (fuel : Nat) (l : List Bool) (hf : ops.size = fuel) (hl : List.replicate fuel false = l)
    (h : WD P n ops (fun a w => Q .normal a w) s V1 V2 fuel l E I L) : WP n ((Code.region id ops true).wp P Q) E I L := by
  subst hf; subst hl
  refine .mk fun a w ha hw => ?_; have hw' := hw.drew
  have hl : (List.replicate ops.size false).toArray = Array.replicate ops.size false := by simp
  have H := h.out a _ ha hw'
  rw [hl] at H
  refine wp_mono (wp_region_any (Q := onlyN fun a w => Q .normal a w) hm (wpAny_of_I _ _ _ _ (H Closed.start ⟨fun _ => h1.keeps hw', h2.keeps hw'⟩))) ?_; intro e a w q
  cases e <;> first | exact q | exact q.elim

/-- What computes, or reads what is kept, is taken first. -/
theorem WD.take {i d fuel : Nat} {o : Oper} {v : Value} {l l' : List Bool} (ho : ops[i]? = some o) (hd : o.dst = some d) (hlt : Nat.blt d n = true)
    (hw : ∀ a, EnvOk n E a → Region.wanted o (yielded ops a.tmps) = true)
    (hchk : (Region.noSelect ops && Region.free .any ops l.toArray i && (Region.ready .any ops l.toArray).contains i && !(Nat.beq i s)) = true)
    (hl : l.set i true = l')
    (hy : ∀ a w, EnvOk n E a → (∃ m, Closed .any ops m ∧ m.getD i true = false ∧ SS s V1 V2 m w) → (execOp a.eval o).run P w = .ok (.value v) w)
    (h : WD P n ops K s V1 V2 fuel l' ((d, v) :: E) I L) : WD P n ops K s V1 V2 (fuel + 1) l E I L := by
  subst hl
  refine .mk fun a w ha hW hcl hS => ?_; simp only [Bool.and_eq_true, Bool.not_eq_true'] at hchk
  obtain ⟨⟨⟨hns, hfr⟩, hrd⟩, hne⟩ := hchk
  have hne' : i ≠ s := fun e => by subst e; simp at hne
  have hrd' : i ∈ Region.ready .any ops l.toArray := by simpa using hrd
  have hset : (l.set i true).toArray = l.toArray.setIfInBounds i true := by simp
  refine wpAnyI_first s V1 V2 ho (Region.noSelect_spec hns) (fun c a w q => q.elim) hne' fuel l.toArray a w hcl (Region.free_spec ho hfr) hrd' (.inl ⟨hw a ha, fun w hS => hy a w ha hS⟩) hS ?_; have H := h.out (a.put o.dst v) w (by rw [hd]; exact ha.put hlt v) hW
  rw [hset] at H
  refine H (hcl.set hrd') ⟨fun hl => hS.1 ?_, hS.2⟩
  rw [getD_set_ne false hne'] at hl; exact hl

/-- What its guard holds back is passed over. -/
theorem WD.pass {i d fuel : Nat} {o : Oper} {l l' : List Bool} (ho : ops[i]? = some o) (hd : o.dst = some d) (hlt : Nat.blt d n = true)
    (hw : ∀ a, EnvOk n E a → Region.wanted o (yielded ops a.tmps) = false)
    (hchk : (Region.noSelect ops && Region.free .any ops l.toArray i && (Region.ready .any ops l.toArray).contains i && !(Nat.beq i s)) = true)
    (hl : l.set i true = l')
    (h : WD P n ops K s V1 V2 fuel l' ((d, undef) :: E) I L) : WD P n ops K s V1 V2 (fuel + 1) l E I L := by
  subst hl
  refine .mk fun a w ha hW hcl hS => ?_; simp only [Bool.and_eq_true, Bool.not_eq_true'] at hchk
  obtain ⟨⟨⟨hns, hfr⟩, hrd⟩, hne⟩ := hchk
  have hne' : i ≠ s := fun e => by subst e; simp at hne
  have hrd' : i ∈ Region.ready .any ops l.toArray := by simpa using hrd
  have hset : (l.set i true).toArray = l.toArray.setIfInBounds i true := by simp
  refine wpAnyI_first s V1 V2 ho (Region.noSelect_spec hns) (fun c a w q => q.elim) hne' fuel l.toArray a w hcl (Region.free_spec ho hfr) hrd' (.inr ⟨hw a ha, rfl⟩) hS ?_; have H := h.out (a.put o.dst undef) w (by rw [hd]; exact ha.put hlt _) hW
  rw [hset] at H
  refine H (hcl.set hrd') ⟨fun hl => hS.1 ?_, hS.2⟩
  rw [getD_set_ne false hne'] at hl; exact hl

/-- Behind an operation that was carried out. -/
def WD.after (P : Program) (ops : Array Oper) (K : Act → World → Prop) (s : Nat) (V1 V2 : Nat → Obj → Prop) (fuel : Nat) (l : List Bool) : Act → World → Prop :=
  fun a w => Closed .any ops l.toArray → SS s V1 V2 l.toArray w ∧ wpAnyI P .any ops (onlyN K) (SS s V1 V2) fuel l.toArray a w

/-- Whichever of those that may come up comes up. -/
theorem WD.all {fuel : Nat} {l : List Bool} (rs : List Nat) (hr : Region.ready .any ops l.toArray = rs) (hne : rs ≠ [])
    (h : ∀ i ∈ rs, WP n (wpOp P ops (onlyN K) i (WD.after P ops K s V1 V2 fuel (l.set i true))) E I L) : WD P n ops K s V1 V2 (fuel + 1) l E I L := by
  refine .mk fun a w ha hW hcl hS => ?_; refine ⟨fun h0 => absurd (hr ▸ h0) hne, fun i hi => wpOp_mono (fun a' w' h' => ?_) ((h i (hr ▸ hi)).out a w ha hW)⟩
  have hset : (l.set i true).toArray = l.toArray.setIfInBounds i true := by simp
  unfold WD.after at h'
  rw [hset] at h'
  exact h' (hcl.set hi)

/-- The one that may come up. -/
theorem WD.one {fuel i : Nat} {l l' : List Bool} (hr : Region.ready .any ops l.toArray = [i]) (hl : l.set i true = l')
    (h : WP n (wpOp P ops (onlyN K) i (WD.after P ops K s V1 V2 fuel l')) E I L) : WD P n ops K s V1 V2 (fuel + 1) l E I L :=
  WD.all [i] hr (by simp) fun j hj => by
    have : j = i := by simpa using hj
    subst this; subst hl
    exact h

/-- One of two. -/
theorem WD.both {fuel i j : Nat} {l li lj : List Bool} (hr : Region.ready .any ops l.toArray = [i, j]) (hi : l.set i true = li) (hj : l.set j true = lj)
    (h1 : WP n (wpOp P ops (onlyN K) i (WD.after P ops K s V1 V2 fuel li)) E I L) (h2 : WP n (wpOp P ops (onlyN K) j (WD.after P ops K s V1 V2 fuel lj)) E I L) : WD P n ops K s V1 V2 (fuel + 1) l E I L :=
  WD.all [i, j] hr (by simp) fun k hk => by
    simp only [List.mem_cons, List.not_mem_nil, or_false] at hk
    rcases hk with rfl | rfl
    · subst hi; exact h1
    · subst hj; exact h2

theorem WD.go {fuel : Nat} {l : List Bool} (h1 : l.toArray.getD s false = true ∨ SubL V1 I L) (h2 : SubL V2 I L)
    (h : WD P n ops K s V1 V2 fuel l E I L) : WP n (WD.after P ops K s V1 V2 fuel l) E I L := by
  refine .mk fun a w ha hW hcl => ?_; have hS : SS s V1 V2 l.toArray w := ⟨fun hl => by
    rcases h1 with h1 | h1
    · rw [h1] at hl; cases hl
    · exact h1.keeps hW, h2.keeps hW⟩
  exact ⟨hS, h.out a w ha hW hcl hS⟩

theorem WD.done {fuel : Nat} {l : List Bool} (hr : Region.ready .any ops l.toArray = []) (h : WP n K E I L) : WD P n ops K s V1 V2 fuel l E I L := by
  refine .mk fun a w ha hW hcl hS => ?_; cases fuel with
  | zero => exact ⟨hr, h.out a w ha hW⟩
  | succ f => exact ⟨fun _ => h.out a w ha hW, by rw [hr]; simp⟩
end
end Go.Hp
