import Derived.Test.YtoplcafnmghifaaCellB
set_option linter.unusedVariables false
set_option linter.unusedSimpArgs false
namespace Go.Hp
open Go Go.Proofs

theorem wrap_add (a b : Int) : IntKind.i64.wrap (IntKind.i64.wrap a + b) = IntKind.i64.wrap (a + b) := by
  have e : ∀ n : Int, IntKind.i64.wrap n = if n % 18446744073709551616 ≥ 9223372036854775808 then n % 18446744073709551616 - 18446744073709551616 else n % 18446744073709551616 := fun n => by
    simp [IntKind.wrap, IntKind.bits, IntKind.signed]
  rw [e, e, e]
  repeat' split
  all_goals omega
theorem wrap_wf {a : Int} (h : (Lit.int .i64 a).wf = true) : IntKind.i64.wrap a = a := by
  simp [Lit.wf, IntKind.min, IntKind.max, IntKind.bits, IntKind.signed] at h
  exact wrap64_id (by omega)
theorem vals_at {l : List Int} {k : Nat} (h : k < l.length) : (l.map (Value.int .i64))[0 + k * 1]? = some (.int .i64 l[k]) := by simp [h]
theorem set_at {l : List Int} {k : Nat} (z : Int) (h : k < l.length) : SetAt (l.map (Value.int .i64)) (0 + k * 1) (.int .i64 z) ((l.set k z).map (Value.int .i64)) := by
  have := SetAt.sym (l := l.map (Value.int .i64)) (k := 0 + k * 1) (v := .int .i64 z) (by simp; omega)
  rw [Nat.zero_add, Nat.mul_one] at this ⊢
  simpa [List.map_set] using this
theorem mk0 (n : Nat) : (List.replicate n (Value.int .i64 0).cells.toList).flatten = (List.replicate n (0 : Int)).map (Value.int .i64) := by
  induction n with
  | zero => rfl
  | succ n ih => rw [List.replicate_succ, List.flatten_cons, ih]; simp [Value.cells, List.replicate_succ]
def acc : List Int → List Int → Int
  | b :: bs, z :: zs => (if z = 2 then b else 0) + acc bs zs
  | _, _ => 0
theorem acc_set {bs zs : List Int} {k : Nat} (z : Int) (h1 : k < bs.length) (h2 : k < zs.length) (hz : ¬ zs[k] = 2) : acc bs (zs.set k z) = acc bs zs + (if z = 2 then bs[k] else 0) := by
  induction bs generalizing zs k with
  | nil => simp at h1
  | cons b bs ih =>
    cases zs with
    | nil => simp at h2
    | cons y zs =>
      cases k with
      | zero => simp at hz; simp [acc, hz]; omega
      | succ k =>
        simp at h1 h2 hz
        have := ih (zs := zs) h1 h2 hz
        simp [acc, this]; omega
theorem acc_all {bs zs : List Int} (hl : zs.length = bs.length) (h : ∀ z ∈ zs, z = 2) : acc bs zs = bs.sum := by
  induction bs generalizing zs with
  | nil => simp [acc]
  | cons b bs ih =>
    cases zs with
    | nil => simp at hl
    | cons y zs =>
      have h1 := h y (by simp)
      have := ih (zs := zs) (by simpa using hl) (fun z hz => h z (by simp [hz]))
      simp [acc, h1, this]
theorem acc_none {bs zs : List Int} (h : ∀ z ∈ zs, z = 0) : acc bs zs = 0 := by
  induction bs generalizing zs with
  | nil => simp [acc]
  | cons b bs ih =>
    cases zs with
    | nil => simp [acc]
    | cons y zs =>
      have h1 := h y (by simp)
      have := ih (zs := zs) (fun z hz => h z (by simp [hz]))
      simp [acc, h1, this]
theorem turn_ex {n k i : Nat} (hk : k < n) : ∃ t, i ≤ t ∧ t < i + n ∧ t % n = k := by
  have h := Nat.div_add_mod i n
  have h2 := Nat.mod_lt i (show 0 < n by omega)
  by_cases hc : i % n ≤ k
  · refine ⟨n * (i / n) + k, by omega, by omega, ?_⟩
    rw [Nat.mul_add_mod, Nat.mod_eq_of_lt hk]
  · refine ⟨n * (i / n + 1) + k, ?_, ?_, ?_⟩
    · rw [Nat.mul_add]; omega
    · rw [Nat.mul_add]; omega
    · rw [Nat.mul_add_mod, Nat.mod_eq_of_lt hk]
def Due (n P i left : Nat) (live : Nat → Prop) (lag : Nat → Nat) : Prop := ∃ t, i ≤ t ∧ live (t % n) ∧ t + lag (t % n) * n + 3 * n * left < P + 3 * (n * n) + 3 * n
theorem Due.step {n P i left : Nat} {live live' : Nat → Prop} {lag lag' : Nat → Nat} (h : Due n P i left live lag) (hn : 0 < n) (ho : ∀ j, j ≠ i % n → live j → live' j ∧ lag' j ≤ lag j) (hk : live (i % n) → live' (i % n) ∧ lag' (i % n) + 1 ≤ lag (i % n)) : Due n P (i + 1) left live' lag' := by
  obtain ⟨t, h1, h2, h3⟩ := h
  by_cases hc : t % n = i % n
  · rw [hc] at h2 h3
    obtain ⟨h4, h5⟩ := hk h2
    have h6 : (t + n) % n = i % n := by rw [Nat.add_mod_right, hc]
    refine ⟨t + n, by omega, by rw [h6]; exact h4, ?_⟩
    rw [h6]
    have := Nat.mul_le_mul_right n h5
    rw [Nat.add_mul] at this
    omega
  · obtain ⟨h4, h5⟩ := ho _ hc h2
    have : t ≠ i := fun e => hc (by rw [e])
    have := Nat.mul_le_mul_right n h5
    exact ⟨t, by omega, h4, by omega⟩
theorem Due.fresh {n P i left k : Nat} {live : Nat → Prop} {lag : Nat → Nat} (hk : k < n) (hl : live k) (hlag : lag k ≤ 2) (hb : i + 3 * n * left ≤ P + 3 * (n * n)) : Due n P i left live lag := by
  obtain ⟨t, h1, h2, h3⟩ := turn_ex (i := i) hk
  have := Nat.mul_le_mul_right n hlag
  exact ⟨t, h1, by rw [h3]; exact hl, by rw [h3]; omega⟩
theorem Due.le {n P i left : Nat} {live : Nat → Prop} {lag : Nat → Nat} (h : Due n P i left live lag) (hl : 0 < left) : i < P + 3 * (n * n) := by
  obtain ⟨t, h1, _, h3⟩ := h
  have : 3 * n * 1 ≤ 3 * n * left := Nat.mul_le_mul_left _ hl
  omega
structure XA where
  i : Nat
  left : Nat
  seen : List Int
  st : List Int
  v : Int
  l : Int
  sw : Int
  m : Int
def XA.live (x : XA) (k : Nat) : Prop := ∃ z, x.st[k]? = some z ∧ z ≠ 2
def XA.lag (x : XA) (k : Nat) : Nat := if x.st[k]? = some 0 then 1 else if x.seen[k]? = some x.v then 0 else 2
theorem XA.lag_le (x : XA) (k : Nat) : x.lag k ≤ 2 := by unfold XA.lag; split <;> (try split) <;> omega
structure XA.ok (first : Int) (bs : List Int) (P : Nat) (x : XA) : Prop where
  ls : x.seen.length = bs.length
  la : x.st.length = bs.length
  rng : ∀ z ∈ x.st, z = 0 ∨ z = 1 ∨ z = 2
  left : x.left + x.st.count 2 = bs.length
  sw : x.sw = x.st.count 2
  l : x.l = x.sw + x.m + x.st.count 1
  m0 : 0 ≤ x.m
  lb : x.l ≤ x.i
  ib : x.i ≤ P + 3 * (bs.length * bs.length)
  v : x.v = IntKind.i64.wrap (first + acc bs x.st)
  go : P ≤ x.i → 0 < x.left → Due bs.length P x.i x.left x.live x.lag
theorem XA.some_live {first : Int} {bs : List Int} {x : XA} (hl : x.st.length = bs.length) (h : x.left + x.st.count 2 = bs.length) (h0 : 0 < x.left) : ∃ k, k < bs.length ∧ x.live k := by
  refine Classical.byContradiction fun hc => ?_
  have : ∀ z ∈ x.st, (2 : Int) = z := by
    intro z hz
    obtain ⟨k, hk, rfl⟩ := List.getElem_of_mem hz
    refine Classical.byContradiction fun h2 => ?_
    exact hc ⟨k, by omega, _, List.getElem?_eq_getElem hk, fun e => h2 e.symm⟩
  have := List.count_eq_length.2 this
  omega
theorem XA.le {first : Int} {bs : List Int} {P : Nat} {x : XA} (h : x.ok first bs P) (h0 : 0 < x.left) : x.i < P + 3 * (bs.length * bs.length) ∨ x.i < P := by
  by_cases hc : P ≤ x.i
  · exact .inl ((h.go hc h0).le h0)
  · exact .inr (by omega)
theorem left_le {n left c : Nat} (h : left + c = n) : 3 * n * left ≤ 3 * (n * n) := by
  rw [Nat.mul_assoc]; exact Nat.mul_le_mul_left _ (Nat.mul_le_mul_left _ (by omega))
theorem XA.start {first : Int} (bs : List Int) (P : Nat) (hf : IntKind.i64.wrap first = first) : (⟨0, bs.length, List.replicate bs.length 0, List.replicate bs.length 0, first, 0, 0, 0⟩ : XA).ok first bs P := by
  have c2 : (List.replicate bs.length (0 : Int)).count 2 = 0 := List.count_eq_zero.2 (by simp)
  have c1 : (List.replicate bs.length (0 : Int)).count 1 = 0 := List.count_eq_zero.2 (by simp)
  refine ⟨by simp, by simp, by simp, by simp [c2], by simp [c2], by simp [c1], by simp, by simp, by simp, ?_, ?_⟩
  · simp only [acc_none (bs := bs) (zs := List.replicate bs.length 0) (by simp), Int.add_zero, hf]
  · intro h1 h0
    have hP : P = 0 := Nat.le_zero.1 h1
    subst hP
    simp only at h0 ⊢
    refine Due.fresh (i := 0) (k := 0) h0 ?_ (XA.lag_le _ _) ?_
    · exact ⟨0, by simp only [List.getElem?_replicate, if_pos h0], by decide⟩
    · have := left_le (n := bs.length) (left := bs.length) (c := 0) (by omega)
      simpa using this
/-- One turn: what is done at k. -/
theorem XA.turn {first : Int} {bs : List Int} {P : Nat} {x y : XA} (h : x.ok first bs P) (h0 : 0 < x.left) {k : Nat} (hk : k < bs.length) (hr : P ≤ x.i → k = x.i % bs.length) (hi : y.i = x.i + 1)
    (la : y.st.length = bs.length) (left : y.left + y.st.count 2 = bs.length) (hc : (y.left = x.left ∧ (∀ j, j ≠ k → x.live j → y.live j ∧ y.lag j ≤ x.lag j) ∧ (x.live k → y.live k ∧ y.lag k + 1 ≤ x.lag k)) ∨ y.left + 1 = x.left) : P ≤ y.i → 0 < y.left → Due bs.length P y.i y.left y.live y.lag := by
  intro hP hy
  have hn : 0 < bs.length := by omega
  by_cases hx : P ≤ x.i
  · have hg := h.go hx h0
    have hk' := hr hx
    rcases hc with ⟨e, ho, hs⟩ | e
    · rw [e, hi]
      exact hg.step hn (fun j hj => ho j (by rw [hk']; exact hj)) (by rw [← hk']; exact hs)
    · obtain ⟨j, hj, hl⟩ := XA.some_live (first := first) la left hy
      obtain ⟨t, h1, _, h3⟩ := hg
      refine Due.fresh hj hl (XA.lag_le _ _) ?_
      rw [← e, Nat.mul_add] at h3
      rw [hi]; omega
  · obtain ⟨j, hj, hl⟩ := XA.some_live (first := first) la left hy
    refine Due.fresh hj hl (XA.lag_le _ _) ?_
    have := left_le left
    omega
theorem get_set_ne {l : List Int} {k j : Nat} {z : Int} (h : j ≠ k) : (l.set k z)[j]? = l[j]? := by rw [List.getElem?_set_ne (Ne.symm h)]
section
variable {first : Int} {bs : List Int} {P : Nat} {x : XA} (h : x.ok first bs P) (h0 : 0 < x.left) {k : Nat} (hk : k < bs.length) (hr : P ≤ x.i → k = x.i % bs.length)
include h h0 hr
theorem XA.load (hs : k < x.st.length) (hz : x.st[k] = 0) : (⟨x.i + 1, x.left, x.seen.set k x.v, x.st.set k 1, x.v, x.l + 1, x.sw, x.m⟩ : XA).ok first bs P := by
  have hk : k < bs.length := by rw [← h.la]; exact hs
  have c2 := List.count_set (l := x.st) (i := k) (a := (1 : Int)) (b := 2) hs
  have c1 := List.count_set (l := x.st) (i := k) (a := (1 : Int)) (b := 1) hs
  simp only [hz] at c1 c2
  simp at c1 c2
  have hib := XA.le h h0
  obtain ⟨g1, g2, g3, g4, g5, g6, g7, g8, gi, g9, g10⟩ := id h
  refine ⟨by simp [g1], by simp [g2], ?_, by simp only [c2, g4], by simp only [c2, g5], by simp only [c1, g6]; omega, g7, by simp only; omega, by simp only; omega, ?_, ?_⟩
  · intro z hzz
    rcases List.mem_or_eq_of_mem_set hzz with hzz | rfl
    · exact g3 z hzz
    · exact .inr (.inl rfl)
  · simp only [acc_set (bs := bs) (zs := x.st) (k := k) 1 hk hs (by rw [hz]; decide)]
    rw [g9]; simp
  · refine XA.turn h h0 hk hr rfl (by simp [g2]) (by simp only [c2, g4]) (.inl ⟨rfl, ?_, ?_⟩)
    · rintro j hj ⟨z, e1, e2⟩
      exact ⟨⟨z, by simp only [get_set_ne hj, e1], e2⟩, by simp only [XA.lag, get_set_ne hj]; exact Nat.le_refl _⟩
    · intro _
      exact ⟨⟨1, by simp [hs], by decide⟩, by simp [XA.lag, hs, hz, show k < x.seen.length by omega]⟩
theorem XA.hit (hs : k < x.st.length) (hz : x.st[k] = 1) {b : Int} (hb : bs[k]? = some b) : (⟨x.i + 1, x.left - 1, x.seen, x.st.set k 2, IntKind.i64.wrap (x.v + b), x.l, x.sw + 1, x.m⟩ : XA).ok first bs P := by
  have hk : k < bs.length := by rw [← h.la]; exact hs
  have c2 := List.count_set (l := x.st) (i := k) (a := (2 : Int)) (b := 2) hs
  have c1 := List.count_set (l := x.st) (i := k) (a := (2 : Int)) (b := 1) hs
  simp only [hz] at c1 c2
  simp at c1 c2
  have p1 : 0 < x.st.count 1 := List.count_pos_iff.2 (by rw [← hz]; exact List.getElem_mem hs)
  have hib := XA.le h h0
  obtain ⟨g1, g2, g3, g4, g5, g6, g7, g8, gi, g9, g10⟩ := id h
  refine ⟨g1, by simp [g2], ?_, by simp only [c2]; omega, by simp only [c2, g5]; omega, by simp only [c1, g6]; omega, g7, by simp only; omega, by simp only; omega, ?_, ?_⟩
  · intro z hzz
    rcases List.mem_or_eq_of_mem_set hzz with hzz | rfl
    · exact g3 z hzz
    · exact .inr (.inr rfl)
  · simp only [acc_set (bs := bs) (zs := x.st) (k := k) 2 hk hs (by rw [hz]; decide)]
    rw [g9, wrap_add, if_pos True.intro]
    have : bs[k] = b := by rw [List.getElem?_eq_getElem hk] at hb; exact Option.some.inj hb
    rw [this, Int.add_assoc]
  · exact XA.turn h h0 hk hr rfl (by simp [g2]) (by simp only [c2]; omega) (.inr (by simp only; omega))
theorem XA.miss (hs : k < x.st.length) (hz : x.st[k] = 1) (hv : ¬ x.seen[k]? = some x.v) : (⟨x.i + 1, x.left, x.seen, x.st.set k 0, x.v, x.l, x.sw, x.m + 1⟩ : XA).ok first bs P := by
  have hk : k < bs.length := by rw [← h.la]; exact hs
  have c2 := List.count_set (l := x.st) (i := k) (a := (0 : Int)) (b := 2) hs
  have c1 := List.count_set (l := x.st) (i := k) (a := (0 : Int)) (b := 1) hs
  simp only [hz] at c1 c2
  simp at c1 c2
  have p1 : 0 < x.st.count 1 := List.count_pos_iff.2 (by rw [← hz]; exact List.getElem_mem hs)
  have hib := XA.le h h0
  obtain ⟨g1, g2, g3, g4, g5, g6, g7, g8, gi, g9, g10⟩ := id h
  refine ⟨g1, by simp [g2], ?_, by simp only [c2]; omega, by simp only [c2, g5], by simp only [c1, g6]; omega, by simp only; omega, by simp only; omega, by simp only; omega, ?_, ?_⟩
  · intro z hzz
    rcases List.mem_or_eq_of_mem_set hzz with hzz | rfl
    · exact g3 z hzz
    · exact .inl rfl
  · simp only [acc_set (bs := bs) (zs := x.st) (k := k) 0 hk hs (by rw [hz]; decide)]
    rw [g9]; simp
  · refine XA.turn h h0 hk hr rfl (by simp [g2]) (by simp only [c2]; omega) (.inl ⟨rfl, ?_, ?_⟩)
    · rintro j hj ⟨z, e1, e2⟩
      exact ⟨⟨z, by simp only [get_set_ne hj, e1], e2⟩, by simp only [XA.lag, get_set_ne hj]; exact Nat.le_refl _⟩
    · intro _
      exact ⟨⟨0, by simp [hs], by decide⟩, by simp [XA.lag, hs, hz, hv]⟩
theorem XA.rest (hs : k < x.st.length) (hz : x.st[k] = 2) : (⟨x.i + 1, x.left, x.seen, x.st, x.v, x.l, x.sw, x.m⟩ : XA).ok first bs P := by
  have hk : k < bs.length := by rw [← h.la]; exact hs
  have hib := XA.le h h0
  obtain ⟨g1, g2, g3, g4, g5, g6, g7, g8, gi, g9, g10⟩ := id h
  refine ⟨g1, g2, g3, g4, g5, g6, g7, by simp only; omega, by simp only; omega, g9, ?_⟩
  refine XA.turn h h0 hk hr rfl g2 g4 (.inl ⟨rfl, fun j _ hl => ⟨hl, Nat.le_refl _⟩, ?_⟩)
  rintro ⟨z, e1, e2⟩
  rw [List.getElem?_eq_getElem hs, hz] at e1
  exact absurd (Option.some.inj e1).symm e2
end
theorem XA.done {first : Int} {bs : List Int} {P : Nat} {x : XA} (h : x.ok first bs P) (h0 : x.left = 0) : x.v = IntKind.i64.wrap (first + bs.sum) ∧ x.sw = bs.length ∧ x.l = x.sw + x.m := by
  have h1 := h.left
  have h2 : x.st.count 2 = x.st.length := by rw [h.la]; omega
  have h3 := List.count_eq_length.1 h2
  have h4 : x.st.count 1 = 0 := List.count_eq_zero.2 (fun hm => by have := h3 1 hm; omega)
  refine ⟨by rw [h.v, acc_all h.la (fun z hz => (h3 z hz).symm)], by rw [h.sw, h2, h.la], by rw [h.l, h4]; simp⟩

end Go.Hp
