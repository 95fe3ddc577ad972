import Derived.Test.YtdobkjbpehdokaaLoomO
set_option linter.unusedVariables false
set_option linter.unusedSimpArgs false
namespace Go.Hp
open Go Go.Proofs

def sumI (f : Ad → Int) (xs : List Ad) : Int := (xs.map f).sum
theorem sumI_set (f : Ad → Int) : ∀ (xs : List Ad) (i : Nat) (h : i < xs.length) (a : Ad), sumI f (xs.set i a) = sumI f xs - f xs[i] + f a
  | b :: xs, 0, _, a => by simp [sumI]; omega
  | b :: xs, i + 1, h, a => by
    have := sumI_set f xs i (by simpa using h) a
    simp only [sumI, List.set_cons_succ, List.map_cons, List.sum_cons, List.getElem_cons_succ] at this ⊢
    omega
theorem sumI_le (f : Ad → Int) (c : Int) : ∀ (xs : List Ad), (∀ a ∈ xs, f a ≤ c) → sumI f xs ≤ c * (xs.length : Int)
  | [], _ => by simp [sumI]
  | a :: xs, h => by
    have h1 := sumI_le f c xs (fun b hb => h b (by simp [hb]))
    have h2 := h a (by simp)
    simp only [sumI, List.map_cons, List.sum_cons, List.length_cons] at h1 ⊢
    have h3 : c * ((xs.length + 1 : Nat) : Int) = c * (xs.length : Int) + c := by rw [Int.natCast_add, Int.mul_add]; simp
    omega
theorem sumI_nonneg (f : Ad → Int) : ∀ (xs : List Ad), (∀ a ∈ xs, 0 ≤ f a) → 0 ≤ sumI f xs
  | [], _ => by simp [sumI]
  | a :: xs, h => by
    have h1 := sumI_nonneg f xs (fun b hb => h b (by simp [hb]))
    have h2 := h a (by simp)
    simp only [sumI, List.map_cons, List.sum_cons] at h1 ⊢
    omega
theorem sumI_mem (f : Ad → Int) : ∀ (xs : List Ad), (∀ a ∈ xs, 0 ≤ f a) → ∀ a ∈ xs, f a ≤ sumI f xs
  | b :: xs, h, a, ha => by
    have h1 := sumI_nonneg f xs (fun c hc => h c (by simp [hc]))
    have h0 := h b (by simp)
    simp only [sumI, List.map_cons, List.sum_cons] at h1 ⊢
    rcases List.mem_cons.1 ha with rfl | ha
    · omega
    · have := sumI_mem f xs (fun c hc => h c (by simp [hc])) a ha
      simp only [sumI] at this
      omega
theorem liveP_get {xs : List Ad} {i : Nat} (h : liveP xs i = true) : ∃ hi : i < xs.length, xs[i].done = false := by
  unfold liveP at h
  cases hg : xs[i]? with
  | none => rw [hg] at h; cases h
  | some a =>
    rw [hg] at h
    have hi := (List.getElem?_eq_some_iff.1 hg).1
    exact ⟨hi, by rw [(List.getElem?_eq_some_iff.1 hg).2]; simpa using h⟩
theorem live_mem {xs : List Ad} {i : Nat} (h : i ∈ live xs) : ∃ hi : i < xs.length, xs[i].done = false := by
  rw [live_eq] at h
  exact liveP_get (List.mem_filter.1 h).2
theorem live_nil {xs : List Ad} (h : live xs = []) : ∀ a ∈ xs, a.done = true := by
  intro a ha
  obtain ⟨i, hi, rfl⟩ := List.getElem_of_mem ha
  cases hd : xs[i].done with
  | true => rfl
  | false =>
    have : i ∈ live xs := by
      rw [live_eq]
      exact List.mem_filter.2 ⟨List.mem_range.2 hi, by simp [liveP, hi, hd]⟩
    rw [h] at this; cases this
theorem runL_end (most : Int) : ∀ (f : Nat) (st : List Ad × CS × Int), (most - st.2.2).toNat ≤ f → st.2.2 ≤ most → live (runL most f st).1 = [] ∨ ¬ (runL most f st).2.2 < most
  | 0, st, h, _ => .inr (by show ¬ st.2.2 < most; omega)
  | f + 1, st, h, hk => by
    rw [runL]
    split
    · rename_i hlt
      split
      · rename_i hz; exact .inl hz
      · rename_i hz
        obtain ⟨h1, h2, h3⟩ := sweep_n most (live st.1) st hk
        have := h3 hz hlt
        exact runL_end most f _ (by omega) h2
    · rename_i hlt; exact .inr hlt
/-! In turn. -/
structure Turn (r : Int) (xs : List Ad) (k : Int) : Prop where
  le : ∀ a ∈ xs, 0 ≤ a.steps ∧ a.steps ≤ r + 1
  ge : ∀ a ∈ xs, a.done = false → r ≤ a.steps
  sum : sumI (·.steps) xs = k
structure TurnAll (r : Int) (xs : List Ad) (k : Int) : Prop where
  le : ∀ a ∈ xs, 0 ≤ a.steps ∧ a.steps ≤ r
  eq : ∀ a ∈ xs, a.done = false → a.steps = r
  sum : sumI (·.steps) xs = k
theorem tStep_steps {a : Ad} {s : CS} (h : -9223372036854775808 ≤ a.steps + 1 ∧ a.steps + 1 ≤ 9223372036854775807) : (tStep a s).1.steps = a.steps + 1 := wrap64_id h
theorem sweep_turn (most : Int) (hm : most ≤ 1000000) (r : Int) : ∀ (is : List Nat) (xs : List Ad) (s : CS) (k : Int), is.Nodup → k ≤ most → Turn r xs k →
    (∀ i ∈ is, ∃ hi : i < xs.length, xs[i].done = false ∧ xs[i].steps = r) → (∀ i (hi : i < xs.length), i ∉ is → xs[i].done = false → xs[i].steps = r + 1) →
    Turn r (sweep most is (xs, s, k)).1 (sweep most is (xs, s, k)).2.2 ∧ (TurnAll (r + 1) (sweep most is (xs, s, k)).1 (sweep most is (xs, s, k)).2.2 ∨ (sweep most is (xs, s, k)).2.2 = most)
  | [], xs, s, k, _, _, h, _, h2 => by
    refine ⟨h, .inl ⟨h.le, fun a ha hd => ?_, h.sum⟩⟩
    obtain ⟨i, hi, rfl⟩ := List.getElem_of_mem ha
    exact h2 i hi (by simp) hd
  | i :: is, xs, s, k, hn, hk, h, h1, h2 => by
    rw [List.nodup_cons] at hn
    rw [sweep]
    split
    · rename_i hkm; exact ⟨h, .inr hkm⟩
    · rename_i hkm
      obtain ⟨hi, hd, hs⟩ := h1 i (by simp)
      have hsm : xs[i].steps ≤ k := by
        rw [← h.sum]; exact sumI_mem _ xs (fun a ha => (h.le a ha).1) _ (List.getElem_mem hi)
      have h0 := (h.le _ (List.getElem_mem hi)).1
      have hst : (tStep xs[i] s).1.steps = r + 1 := by rw [tStep_steps (by omega), hs]
      rw [stepAt_lt hi]
      refine sweep_turn most hm r is _ _ (k + 1) hn.2 (by omega) ⟨?_, ?_, ?_⟩ ?_ ?_
      · intro a ha
        rcases List.mem_or_eq_of_mem_set ha with ha | rfl
        · exact h.le a ha
        · rw [hst]; omega
      · intro a ha hda
        rcases List.mem_or_eq_of_mem_set ha with ha | rfl
        · exact h.ge a ha hda
        · rw [hst]; omega
      · show sumI (·.steps) (xs.set i (tStep xs[i] s).1) = k + 1
        rw [sumI_set _ _ _ hi, h.sum, hst]; omega
      · intro j hj
        obtain ⟨hj1, hj2⟩ := h1 j (by simp [hj])
        have hne : i ≠ j := fun e => hn.1 (e ▸ hj)
        refine ⟨by simpa using hj1, ?_⟩
        simp only [List.getElem_set_ne hne]; exact hj2
      · intro j hj hjn hjd
        by_cases e : i = j
        · subst e; simp only [List.getElem_set_self]; exact hst
        · simp only [List.getElem_set_ne e] at hjd ⊢
          exact h2 j (by simpa using hj) (by simp [Ne.symm e, hjn]) hjd
theorem runL_turn (most : Int) (hm : most ≤ 1000000) : ∀ (f : Nat) (xs : List Ad) (s : CS) (k r : Int), k ≤ most ∨ ¬ k < most → TurnAll r xs k → 0 ≤ r → ∃ r', Turn r' (runL most f (xs, s, k)).1 (runL most f (xs, s, k)).2.2 ∧ 0 ≤ r'
  | 0, xs, s, k, r, _, h, h0 => ⟨r, ⟨fun a ha => by have := h.le a ha; omega, fun a ha hd => by have := h.eq a ha hd; omega, h.sum⟩, h0⟩
  | f + 1, xs, s, k, r, hk, h, h0 => by
    have hT : Turn r xs k := ⟨fun a ha => by have := h.le a ha; omega, fun a ha hd => by have := h.eq a ha hd; omega, h.sum⟩
    rw [runL]
    split
    · rename_i hlt
      split
      · exact ⟨r, hT, h0⟩
      · simp only at hlt
        have hnd : (live xs).Nodup := by rw [live_eq]; exact List.nodup_range.filter _
        obtain ⟨h1, h2⟩ := sweep_turn most hm r (live xs) xs s k hnd (by omega) hT (fun i hi => by
          obtain ⟨hi', hd⟩ := live_mem hi
          exact ⟨hi', hd, h.eq _ (List.getElem_mem hi') hd⟩) (fun i hi hn hd => by
          exfalso; apply hn; rw [live_eq]; exact List.mem_filter.2 ⟨List.mem_range.2 hi, by simp [liveP, hi, hd]⟩)
        rcases h2 with h2 | h2
        · exact runL_turn most hm f _ _ _ (r + 1) (.inl (sweep_n most (live xs) (xs, s, k) (by simp only; omega)).2.1) h2 (by omega)
        · refine ⟨r, ?_, h0⟩
          have : runL most f (sweep most (live xs) (xs, s, k)) = sweep most (live xs) (xs, s, k) := runL_stop (.inl (by omega))
          rw [this]; exact h1
    · exact ⟨r, hT, h0⟩
theorem run_turn {xs : List Ad} {s : CS} {most : Int} (hm : most ≤ 1000000) (h : ∀ a ∈ xs, a.steps = 0) : ∃ r, Turn r (run xs s most).1 (run xs s most).2.2 ∧ 0 ≤ r := by
  have hs : sumI (·.steps) xs = 0 := by
    induction xs with
    | nil => rfl
    | cons a xs ih =>
      have h1 := ih (fun b hb => h b (by simp [hb]))
      simp only [sumI, List.map_cons, List.sum_cons] at h1 ⊢
      rw [h1, h a (by simp)]; rfl
  exact runL_turn most hm most.toNat xs s 0 0 (by omega) ⟨fun a ha => by rw [h a ha]; omega, fun a ha _ => h a ha, hs⟩ (Int.le_refl _)

end Go.Hp
