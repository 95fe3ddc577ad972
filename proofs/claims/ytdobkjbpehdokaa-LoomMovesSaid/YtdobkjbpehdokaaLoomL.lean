import Derived.Test.YtdobkjbpehdokaaLoomK
set_option linter.unusedVariables false
set_option linter.unusedSimpArgs false
namespace Go.Hp
open Go Go.Proofs

theorem loom_refStepI {I : Imm} {b i : Nat} {xs : List Ad} {sp : List Value} {cl : Int} (hi : i < xs.length) (hl : xs[i].left ≤ 9223372036854775807) : Spec Try.prog 20 [.pointer (some ⟨b, 0 + i * 7, none⟩), .int .i64 cl] I [(b, row 46 (wc xs ++ sp))] (fun v J L => v = .int .i64 (refStep xs[i] cl).2 ∧ I = J ∧ L = [(b, row 46 (wc (xs.set i ((refStep xs[i] cl).1)) ++ sp))]) := by
  have h := loom_refStep (I := I) (b := b) (sp := sp) (cl := cl) hi hl
  rwa [List.set_getElem_self] at h
def liveP (xs : List Ad) (i : Nat) : Bool := match xs[i]? with | some a => !a.done | none => false
theorem live_eq (xs : List Ad) : live xs = (List.range xs.length).filter (liveP xs) := rfl
def rsw (most : Int) : List Nat → List Ad × Int × Int × Bool → List Ad × Int × Int × Bool
  | [], st => st
  | i :: is, (xs, v, k, lv) => if k < most then (match xs[i]? with
      | some a => if a.done then rsw most is (xs, v, k, lv) else rsw most is (xs.set i (refStep a v).1, (refStep a v).2, k + 1, true)
      | none => rsw most is (xs, v, k, lv)) else (xs, v, k, lv)
def refRunL (most : Int) : Nat → List Ad × Int × Int → List Ad × Int × Int
  | 0, st => st
  | f + 1, (xs, v, k) => if k < most then (if (rsw most (List.range xs.length) (xs, v, k, false)).2.2.2 = true then refRunL most f ((rsw most (List.range xs.length) (xs, v, k, false)).1, (rsw most (List.range xs.length) (xs, v, k, false)).2.1, (rsw most (List.range xs.length) (xs, v, k, false)).2.2.1)
      else ((rsw most (List.range xs.length) (xs, v, k, false)).1, (rsw most (List.range xs.length) (xs, v, k, false)).2.1, (rsw most (List.range xs.length) (xs, v, k, false)).2.2.1)) else (xs, v, k)
theorem sweep_most (most : Int) (l : List Nat) (xs : List Ad) (s : CS) : sweep most l (xs, s, most) = (xs, s, most) := by
  cases l with
  | nil => rfl
  | cons i l => rw [sweep, if_pos rfl]
theorem sweep_rsw (most : Int) : ∀ (is : List Nat) (xs : List Ad) (s : CS) (k : Int) (lv : Bool), is.Nodup → lefts xs → k ≤ most →
    rsw most is (xs, s.v, k, lv) = ((sweep most (is.filter (liveP xs)) (xs, s, k)).1, (sweep most (is.filter (liveP xs)) (xs, s, k)).2.1.v, (sweep most (is.filter (liveP xs)) (xs, s, k)).2.2, lv || (decide (is.filter (liveP xs) ≠ []) && decide (k < most)))
  | [], xs, s, k, lv, _, _, _ => by simp [rsw, sweep]
  | i :: is, xs, s, k, lv, hn, hl, hk => by
    rw [List.nodup_cons] at hn
    by_cases hkm : k < most
    · rw [rsw, if_pos hkm]
      cases ha : xs[i]? with
      | none =>
        have hp : liveP xs i = false := by simp [liveP, ha]
        rw [List.filter_cons_of_neg (by rw [hp]; decide)]
        exact sweep_rsw most is xs s k lv hn.2 hl hk
      | some a =>
        simp only
        cases hd : a.done with
        | true =>
          have hp : liveP xs i = false := by simp [liveP, ha, hd]
          rw [List.filter_cons_of_neg (by rw [hp]; decide)]
          exact sweep_rsw most is xs s k lv hn.2 hl hk
        | false =>
          have hp : liveP xs i = true := by simp [liveP, ha, hd]
          have hil : i < xs.length := (List.getElem?_eq_some_iff.1 ha).1
          have hai : xs[i] = a := (List.getElem?_eq_some_iff.1 ha).2
          have hst := ref_tStep (a := a) (s := s) hd (hl a (List.mem_of_getElem? ha))
          have hsa : stepAt xs s i = (xs.set i (refStep a s.v).1, (tStep a s).2) := by rw [stepAt_lt hil, hai, hst.1]
          have hf : is.filter (liveP xs) = is.filter (liveP (xs.set i (refStep a s.v).1)) := by
            apply List.filter_congr
            intro j hj
            have hne : i ≠ j := fun h => hn.1 (h ▸ hj)
            unfold liveP
            rw [List.getElem?_set_ne hne]
          have hl2 := lefts_step hl s i
          rw [hsa] at hl2
          have ih := sweep_rsw most is (xs.set i (refStep a s.v).1) (tStep a s).2 (k + 1) true hn.2 hl2 (by omega)
          rw [List.filter_cons_of_pos hp, sweep, if_neg (show ¬ k = most by omega), hsa, hf, ← hst.2]
          try simp only [Bool.false_eq_true, if_false]
          rw [ih]
          simp [hkm]
    · have : k = most := by omega
      subst this
      rw [rsw, if_neg hkm, sweep_most]
      simp
theorem lefts_sweep (most : Int) : ∀ (l : List Nat) (st : List Ad × CS × Int), lefts st.1 → lefts (sweep most l st).1
  | [], _, h => h
  | i :: l, (xs, s, k), h => by
    rw [sweep]
    split
    · exact h
    · exact lefts_sweep most l _ (lefts_step h s i)
theorem refRun_run (most : Int) : ∀ (f : Nat) (xs : List Ad) (s : CS) (k : Int), lefts xs → k ≤ most ∨ ¬ k < most →
    refRunL most f (xs, s.v, k) = ((runL most f (xs, s, k)).1, (runL most f (xs, s, k)).2.1.v, (runL most f (xs, s, k)).2.2)
  | 0, _, _, _, _, _ => rfl
  | f + 1, xs, s, k, hl, hk => by
    rw [refRunL, runL]
    by_cases hkm : k < most
    · simp only [hkm, if_true]
      have h := sweep_rsw most (List.range xs.length) xs s k false List.nodup_range hl (by omega)
      rw [← live_eq] at h
      rw [h]
      by_cases hz : live xs = []
      · simp [hz, sweep]
      · simp only [hz, hkm, decide_true, ne_eq, not_false_eq_true, Bool.and_true, Bool.or_true, if_true, if_false]
        obtain ⟨h1, h2, _⟩ := sweep_n most (live xs) (xs, s, k) (by simp only; omega)
        have := refRun_run most f (sweep most (live xs) (xs, s, k)).1 (sweep most (live xs) (xs, s, k)).2.1 (sweep most (live xs) (xs, s, k)).2.2 (lefts_sweep most _ _ hl) (.inl h2)
        exact this
    · simp only [hkm, if_false]
theorem rsw_n (most : Int) : ∀ (is : List Nat) (st : List Ad × Int × Int × Bool), st.2.2.1 ≤ most → st.2.2.1 ≤ (rsw most is st).2.2.1 ∧ (rsw most is st).2.2.1 ≤ most ∧ (rsw most is st).1.length = st.1.length ∧ ((rsw most is st).2.2.2 = true → st.2.2.2 = true ∨ st.2.2.1 < (rsw most is st).2.2.1)
  | [], st, h => ⟨Int.le_refl _, h, rfl, fun h => .inl h⟩
  | i :: is, (xs, v, k, lv), h => by
    simp only at h
    rw [rsw]
    split
    · split
      · split
        · exact rsw_n most is (xs, v, k, lv) h
        · rename_i a ha hd
          have := rsw_n most is (xs.set i (refStep a v).1, (refStep a v).2, k + 1, true) (by simp only; omega)
          simp only at this ⊢
          exact ⟨by omega, this.2.1, by rw [this.2.2.1]; simp, fun _ => .inr (by omega)⟩
      · exact rsw_n most is (xs, v, k, lv) h
    · exact ⟨Int.le_refl _, h, rfl, fun h => .inl h⟩

end Go.Hp
