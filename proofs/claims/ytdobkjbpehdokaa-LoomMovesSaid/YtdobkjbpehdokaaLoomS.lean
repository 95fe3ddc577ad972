import Derived.Test.YtdobkjbpehdokaaLoomR
set_option linter.unusedVariables false
set_option linter.unusedSimpArgs false
namespace Go.Hp
open Go Go.Proofs

theorem keep_pick {adds tot : Int} {xs : List Ad} {s : CS} (h : Keep adds tot xs s) (ha : adds ≤ 1470) (k : Int) : Keep adds tot (pick xs s k).1 (pick xs s k).2.1 ∧ meas (pick xs s k).1 (pick xs s k).2.1 ≤ meas xs s := by
  unfold pick
  cases hk : adAt xs k with
  | none => exact ⟨h, Int.le_refl _⟩
  | some a =>
    simp only
    by_cases hd : a.done = true
    · rw [if_pos hd]; exact ⟨h, Int.le_refl _⟩
    · rw [if_neg hd]
      unfold adAt at hk
      split at hk
      · cases hk
      · have hi := (List.getElem?_eq_some_iff.1 hk).1
        have ha' := (List.getElem?_eq_some_iff.1 hk).2
        have := keep_step h ha hi (by rw [ha']; simpa using hd)
        exact ⟨this.keep, by have := this.meas; simp only; omega⟩
theorem keep_sweep {adds tot : Int} (ha : adds ≤ 1470) (most : Int) : ∀ (is : List Nat) (xs : List Ad) (s : CS) (k : Int), is.Nodup → (∀ i ∈ is, ∃ hi : i < xs.length, xs[i].done = false) → Keep adds tot xs s →
    Keep adds tot (sweep most is (xs, s, k)).1 (sweep most is (xs, s, k)).2.1 ∧ (sweep most is (xs, s, k)).2.2 + meas (sweep most is (xs, s, k)).1 (sweep most is (xs, s, k)).2.1 ≤ k + meas xs s
  | [], xs, s, k, _, _, h => ⟨h, Int.le_refl _⟩
  | i :: is, xs, s, k, hn, hl, h => by
    rw [List.nodup_cons] at hn
    rw [sweep]
    split
    · exact ⟨h, Int.le_refl _⟩
    · obtain ⟨hi, hd⟩ := hl i (by simp)
      have hst := keep_step h ha hi hd
      have ih := keep_sweep ha most is (stepAt xs s i).1 (stepAt xs s i).2 (k + 1) hn.2 (fun j hj => by
        obtain ⟨hj1, hj2⟩ := hl j (by simp [hj])
        have hne : i ≠ j := fun e => hn.1 (e ▸ hj)
        rw [stepAt_lt hi]
        exact ⟨by simpa using hj1, by simp only [List.getElem_set_ne hne]; exact hj2⟩) hst.keep
      have := hst.meas
      exact ⟨ih.1, by omega⟩
theorem keep_runL {adds tot : Int} (ha : adds ≤ 1470) (most : Int) : ∀ (f : Nat) (xs : List Ad) (s : CS) (k : Int), Keep adds tot xs s →
    Keep adds tot (runL most f (xs, s, k)).1 (runL most f (xs, s, k)).2.1 ∧ (runL most f (xs, s, k)).2.2 + meas (runL most f (xs, s, k)).1 (runL most f (xs, s, k)).2.1 ≤ k + meas xs s
  | 0, xs, s, k, h => ⟨h, Int.le_refl _⟩
  | f + 1, xs, s, k, h => by
    rw [runL]
    split
    · split
      · exact ⟨h, Int.le_refl _⟩
      · have hnd : (live xs).Nodup := by rw [live_eq]; exact List.nodup_range.filter _
        obtain ⟨h1, h2⟩ := keep_sweep ha most (live xs) xs s k hnd (fun i hi => live_mem hi) h
        obtain ⟨h3, h4⟩ := keep_runL ha most f (sweep most (live xs) (xs, s, k)).1 (sweep most (live xs) (xs, s, k)).2.1 (sweep most (live xs) (xs, s, k)).2.2 h1
        exact ⟨h3, Int.le_trans h4 h2⟩
    · exact ⟨h, Int.le_refl _⟩
def mkS (j : Job) : Ad := ⟨tm j.times, j.by_, 0, false, true, false, 0⟩
def mkSs (l : List Job) (i : Nat) : List Ad := (l.take i).map mkS
theorem mkSs_succ {l : List Job} {i : Nat} (h : i < l.length) : mkSs l (i + 1) = mkSs l i ++ [mkS l[i]] := by
  unfold mkSs
  rw [List.take_succ_eq_append_getElem h, List.map_append]; rfl
theorem mkSs_len (l : List Job) (i : Nat) (h : i ≤ l.length) : (mkSs l i).length = i := by simp [mkSs]; omega
theorem sumI_app (f : Ad → Int) (xs : List Ad) (a : Ad) : sumI f (xs ++ [a]) = sumI f xs + f a := by simp [sumI]
theorem mkSs_mem {l : List Job} {i : Nat} {a : Ad} (h : a ∈ mkSs l i) : a.safe = true ∧ a.left ≤ 49 ∧ a.done = false := by
  obtain ⟨j, _, rfl⟩ := List.mem_map.1 h
  have := tm_le j.times
  exact ⟨rfl, by show tm j.times ≤ 49; omega, rfl⟩
theorem mkSs_rem (l : List Job) (i : Nat) (hi : i ≤ l.length) : sumI rem (mkSs l i) ≤ 49 * (i : Int) := by
  have := sumI_le rem 49 (mkSs l i) (fun a ha => by have := mkSs_mem ha; unfold rem; split <;> omega)
  rwa [mkSs_len l i hi] at this
theorem keep_start {l : List Job} (hl : l.length ≤ 30) {first : Int} (hf : -9223372036854775808 ≤ first ∧ first ≤ 9223372036854775807) : Keep (sumI rem (mkSs l l.length)) (first + sumI remBy (mkSs l l.length)) (mkSs l l.length) ⟨first, 0, 0, 0, 0, 0⟩ :=
  ⟨fun a ha => ⟨(mkSs_mem ha).1, (mkSs_mem ha).2.1, fun h => by rw [(mkSs_mem ha).2.2] at h; cases h⟩, by rw [mkSs_len _ _ (Nat.le_refl _)]; exact hl, rfl, Int.le_refl _, by show 0 + _ = _; omega, Cong.refl _, hf⟩
theorem meas_start {l : List Job} (hl : l.length ≤ 30) (s : CS) : meas (mkSs l l.length) s ≤ 89730 := by
  have h1 := sumI_le ev 49 (mkSs l l.length) (fun a ha => by have := mkSs_mem ha; unfold ev; (repeat' split) <;> omega)
  have h2 := sumI_le (slk s.v) 2 (mkSs l l.length) (fun a _ => (slk_le _ a).2)
  rw [mkSs_len _ _ (Nat.le_refl _)] at h1 h2
  unfold meas; omega
/-- All have ended: nothing is left to add. -/
theorem all_done {adds tot : Int} {xs : List Ad} {s : CS} (h : Keep adds tot xs s) (hz : live xs = []) : s.sw = adds ∧ Cong s.v tot := by
  have hr : ∀ a ∈ xs, rem a = 0 := fun a ha => by
    have := (h.good a ha).dn (live_nil hz a ha)
    unfold rem; rw [if_pos this]
  have e1 : ∀ l : List Ad, (∀ a ∈ l, rem a = 0) → sumI rem l = 0 ∧ sumI remBy l = 0 := by
    intro l hl
    induction l with
    | nil => exact ⟨rfl, rfl⟩
    | cons a l ih =>
      obtain ⟨i1, i2⟩ := ih (fun b hb => hl b (by simp [hb]))
      have h0 := hl a (by simp)
      simp only [sumI, List.map_cons, List.sum_cons] at i1 i2 ⊢
      rw [i1, i2, h0, show remBy a = 0 by unfold remBy; rw [h0, Int.zero_mul]]
      exact ⟨rfl, rfl⟩
  obtain ⟨h1, h2⟩ := e1 xs hr
  have h3 := h.sw
  have h4 := h.cong
  rw [h1] at h3; rw [h2, Int.add_zero] at h4
  exact ⟨by omega, h4⟩
theorem nd_live (xs : List Ad) : ((live xs).length : Int) = sumI nd xs := by
  have : ∀ i, i ≤ xs.length → ((liveU xs i).length : Int) = sumI nd (xs.take i) := by
    intro i
    induction i with
    | zero => intro _; simp [liveU, sumI]
    | succ i ih =>
      intro hi
      rw [liveU_succ hi, sumI_take hi, List.length_append, Int.natCast_add, ih (by omega)]
      congr 1
      unfold nd
      cases xs[i].done <;> simp
  have h := this xs.length (Nat.le_refl _)
  rw [List.take_length] at h
  exact h

end Go.Hp
