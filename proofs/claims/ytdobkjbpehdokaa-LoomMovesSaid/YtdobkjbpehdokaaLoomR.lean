import Derived.Test.YtdobkjbpehdokaaLoomQ
set_option linter.unusedVariables false
set_option linter.unusedSimpArgs false
namespace Go.Hp
open Go Go.Proofs

def Cong (a b : Int) : Prop := ∃ q : Int, a = b + 18446744073709551616 * q
theorem Cong.refl (a : Int) : Cong a a := ⟨0, by omega⟩
theorem Cong.trans {a b c : Int} (h : Cong a b) (k : Cong b c) : Cong a c := by
  obtain ⟨q, rfl⟩ := h; obtain ⟨r, rfl⟩ := k; exact ⟨q + r, by omega⟩
theorem Cong.symm {a b : Int} (h : Cong a b) : Cong b a := by obtain ⟨q, rfl⟩ := h; exact ⟨-q, by omega⟩
theorem Cong.add {a b : Int} (h : Cong a b) (c : Int) : Cong (a + c) (b + c) := by obtain ⟨q, rfl⟩ := h; exact ⟨q, by omega⟩
theorem wrap_cong (a : Int) : Cong (IntKind.i64.wrap a) a ∧ -9223372036854775808 ≤ IntKind.i64.wrap a ∧ IntKind.i64.wrap a ≤ 9223372036854775807 := by
  simp only [IntKind.wrap, IntKind.bits, IntKind.signed, Bool.true_and]
  split <;> rename_i hh <;> simp only [ge_iff_le, decide_eq_true_eq] at hh
  · refine ⟨⟨-(a / 18446744073709551616) - 1, ?_⟩, ?_, ?_⟩ <;> omega
  · refine ⟨⟨-(a / 18446744073709551616), ?_⟩, ?_, ?_⟩ <;> omega
theorem Cong.eq {a b : Int} (h : Cong a b) (ha : -9223372036854775808 ≤ a ∧ a ≤ 9223372036854775807) (hb : -9223372036854775808 ≤ b ∧ b ≤ 9223372036854775807) : a = b := by
  obtain ⟨q, rfl⟩ := h; omega
def rem (a : Ad) : Int := if a.left < 1 then 0 else a.left
def remBy (a : Ad) : Int := rem a * a.by_
def ev (a : Ad) : Int := if a.done = true then 0 else if a.left < 1 then 1 else a.left
def slk (v : Int) (a : Ad) : Int := if a.done = true ∨ a.left < 1 then 0 else if a.loaded = false then 1 else if a.seen = v then 0 else 2
def nd (a : Ad) : Int := if a.done = true then 0 else 1
theorem slk_le (v : Int) (a : Ad) : 0 ≤ slk v a ∧ slk v a ≤ 2 := by unfold slk; (repeat' split) <;> omega
theorem rem_nonneg (a : Ad) : 0 ≤ rem a := by unfold rem; split <;> omega
theorem ev_nonneg (a : Ad) : 0 ≤ ev a := by unfold ev; (repeat' split) <;> omega
structure Good (a : Ad) : Prop where
  safe : a.safe = true
  le : a.left ≤ 49
  dn : a.done = true → a.left < 1
/-- A step of a safe adder that has not ended. -/
theorem safe_step {a : Ad} {s : CS} (h : Good a) (hd : a.done = false) :
    (a.left < 1 ∧ tStep a s = ({ a with steps := inc a.steps, done := true }, s)) ∨
    (1 ≤ a.left ∧ a.loaded = false ∧ tStep a s = ({ a with steps := inc a.steps, seen := s.v, loaded := true, done := false }, { s with l := inc s.l })) ∨
    (1 ≤ a.left ∧ a.loaded = true ∧ a.seen = s.v ∧ tStep a s = ({ a with steps := inc a.steps, loaded := false, left := a.left - 1, done := decide (a.left - 1 < 1) }, { s with v := IntKind.i64.wrap (a.seen + a.by_), sw := inc s.sw })) ∨
    (1 ≤ a.left ∧ a.loaded = true ∧ ¬ a.seen = s.v ∧ tStep a s = ({ a with steps := inc a.steps, loaded := false, done := false }, { s with m := inc s.m })) := by
  have hle := h.le
  unfold tStep aStep
  by_cases h1 : a.left < 1
  · left; refine ⟨h1, ?_⟩; simp [h1]
  right
  rw [if_neg h1]
  cases hl : a.loaded with
  | false => left; refine ⟨by omega, rfl, ?_⟩; simp [h1]
  | true =>
    right
    unfold putSt
    rw [h.safe]
    by_cases he : a.seen = s.v
    · left; refine ⟨by omega, rfl, he, ?_⟩; simp [he, wrap64_id (a := a.left - 1) (by omega)]
    · right; refine ⟨by omega, rfl, he, ?_⟩; simp [Ne.symm he, h1]
structure Keep (adds tot : Int) (xs : List Ad) (s : CS) : Prop where
  good : ∀ a ∈ xs, Good a
  len : xs.length ≤ 30
  s0 : s.s = 0
  sw0 : 0 ≤ s.sw
  sw : s.sw + sumI rem xs = adds
  cong : Cong (s.v + sumI remBy xs) tot
  vr : -9223372036854775808 ≤ s.v ∧ s.v ≤ 9223372036854775807
def meas (xs : List Ad) (s : CS) : Int := 61 * sumI ev xs + sumI (slk s.v) xs
theorem meas_nonneg (xs : List Ad) (s : CS) : 0 ≤ meas xs s := by
  have h1 := sumI_nonneg ev xs (fun a _ => ev_nonneg a)
  have h2 := sumI_nonneg (slk s.v) xs (fun a _ => (slk_le s.v a).1)
  unfold meas; omega
/-- What a step does. -/
structure Stepped (adds tot : Int) (xs : List Ad) (s : CS) (xs' : List Ad) (s' : CS) : Prop where
  keep : Keep adds tot xs' s'
  meas : meas xs' s' + 1 ≤ meas xs s
  slack : (s'.sw = s.sw ∧ sumI nd xs' = sumI nd xs ∧ sumI (slk s'.v) xs' + 1 = sumI (slk s.v) xs) ∨ (s'.sw = s.sw + 1 ∧ sumI nd xs' ≤ sumI nd xs) ∨ (s'.sw = s.sw ∧ sumI nd xs' = sumI nd xs - 1)
theorem keep_step {adds tot : Int} {xs : List Ad} {s : CS} (h : Keep adds tot xs s) (ha : adds ≤ 1470) {i : Nat} (hi : i < xs.length) (hd : xs[i].done = false) : Stepped adds tot xs s (stepAt xs s i).1 (stepAt xs s i).2 := by
  obtain ⟨a, hxa⟩ : ∃ a, xs[i] = a := ⟨_, rfl⟩
  have hg : Good a := hxa ▸ h.good _ (List.getElem_mem hi)
  rw [hxa] at hd
  have sset : ∀ (f : Ad → Int) (a' : Ad), sumI f (xs.set i a') = sumI f xs - f a + f a' := fun f a' => by rw [sumI_set _ _ _ hi, hxa]
  have hr0 := sumI_nonneg rem xs (fun a _ => rem_nonneg a)
  have hsw := h.sw
  have hsw0 := h.sw0
  have hinc : inc s.sw = s.sw + 1 := wrap64_id (by omega)
  have hlen := h.len
  have good' : ∀ a', Good a' → ∀ a ∈ xs.set i a', Good a := fun a' h' a hm => by
    rcases List.mem_or_eq_of_mem_set hm with hm | rfl
    · exact h.good a hm
    · exact h'
  rw [stepAt_lt hi, hxa]
  rcases safe_step (s := s) hg hd with ⟨h1, e⟩ | ⟨h1, h2, e⟩ | ⟨h1, h2, h3, e⟩ | ⟨h1, h2, h3, e⟩ <;> rw [e]
  · have r1 : rem a = rem { a with steps := inc a.steps, done := true } := rfl
    have e1 : ev a = 1 := by simp [ev, hd, h1]
    have e2 : ev { a with steps := inc a.steps, done := true } = 0 := by simp [ev]
    have k1 : slk s.v a = 0 := by simp [slk, h1]
    have k2 : slk s.v { a with steps := inc a.steps, done := true } = 0 := by simp [slk]
    have n1 : nd a = 1 := by simp [nd, hd]
    have n2 : nd { a with steps := inc a.steps, done := true } = 0 := by simp [nd]
    refine ⟨⟨good' _ ⟨hg.safe, hg.le, fun _ => h1⟩, by simpa using hlen, h.s0, hsw0, ?_, ?_, h.vr⟩, ?_, .inr (.inr ⟨rfl, ?_⟩)⟩
    · simp only [sset]; rw [← r1]; omega
    · have : sumI remBy (xs.set i { a with steps := inc a.steps, done := true }) = sumI remBy xs := by
        rw [sset, show remBy { a with steps := inc a.steps, done := true } = remBy a from rfl]; omega
      rw [this]; exact h.cong
    · unfold Hp.meas; dsimp only; rw [sset, sset, e1, e2, k1, k2]; omega
    · rw [sset, n1, n2]; omega
  · have r1 : rem a = rem { a with steps := inc a.steps, seen := s.v, loaded := true, done := false } := rfl
    have e1 : ev a = a.left := by simp [ev, hd, show ¬ a.left < 1 by omega]
    have e2 : ev { a with steps := inc a.steps, seen := s.v, loaded := true, done := false } = a.left := by simp [ev, show ¬ a.left < 1 by omega]
    have k1 : slk s.v a = 1 := by simp [slk, hd, h2, show ¬ a.left < 1 by omega]
    have k2 : slk s.v { a with steps := inc a.steps, seen := s.v, loaded := true, done := false } = 0 := by simp [slk]
    have n1 : nd a = 1 := by simp [nd, hd]
    have n2 : nd { a with steps := inc a.steps, seen := s.v, loaded := true, done := false } = 1 := by simp [nd]
    refine ⟨⟨good' _ ⟨hg.safe, hg.le, fun h => by cases h⟩, by simpa using hlen, h.s0, hsw0, ?_, ?_, h.vr⟩, ?_, .inl ⟨rfl, ?_, ?_⟩⟩
    · simp only [sset]; rw [← r1]; omega
    · have : sumI remBy (xs.set i { a with steps := inc a.steps, seen := s.v, loaded := true, done := false }) = sumI remBy xs := by
        rw [sset, show remBy { a with steps := inc a.steps, seen := s.v, loaded := true, done := false } = remBy a from rfl]; omega
      rw [this]; exact h.cong
    · unfold Hp.meas; dsimp only; rw [sset, sset, e1, e2, k1, k2]; omega
    · rw [sset, n1, n2]; omega
    · dsimp only; rw [sset, k1, k2]; omega
  · have r1 : rem a = a.left := by simp [rem, show ¬ a.left < 1 by omega]
    have r2 : rem { a with steps := inc a.steps, loaded := false, left := a.left - 1, done := decide (a.left - 1 < 1) } = a.left - 1 := by
      unfold rem; simp only; split <;> omega
    have e1 : ev a = a.left := by simp [ev, hd, show ¬ a.left < 1 by omega]
    have e2 : ev { a with steps := inc a.steps, loaded := false, left := a.left - 1, done := decide (a.left - 1 < 1) } = a.left - 1 := by
      unfold ev; simp only [decide_eq_true_eq]; split <;> omega
    have b1 : remBy { a with steps := inc a.steps, loaded := false, left := a.left - 1, done := decide (a.left - 1 < 1) } = remBy a - a.by_ := by
      unfold remBy; rw [r1, r2, Int.sub_mul, Int.one_mul]
    have n1 : nd a = 1 := by simp [nd, hd]
    have n2 : nd { a with steps := inc a.steps, loaded := false, left := a.left - 1, done := decide (a.left - 1 < 1) } ≤ 1 := by unfold nd; split <;> omega
    have hw := wrap_cong (a.seen + a.by_)
    refine ⟨⟨good' _ ⟨hg.safe, by show a.left - 1 ≤ 49; have := hg.le; omega, fun h => by simpa using h⟩, by simpa using hlen, h.s0, by show 0 ≤ inc s.sw; omega, ?_, ?_, hw.2⟩, ?_, .inr (.inl ⟨hinc, ?_⟩)⟩
    · show inc s.sw + _ = _
      rw [sset, r1, r2, hinc]; omega
    · show Cong (IntKind.i64.wrap _ + _) _
      rw [sset, b1]
      refine (hw.1.add _).trans ?_
      rw [h3, show s.v + a.by_ + (sumI remBy xs - remBy a + (remBy a - a.by_)) = s.v + sumI remBy xs by omega]
      exact h.cong
    · have hs2 := sumI_le (slk (IntKind.i64.wrap (a.seen + a.by_))) 2 (xs.set i { a with steps := inc a.steps, loaded := false, left := a.left - 1, done := decide (a.left - 1 < 1) }) (fun b _ => (slk_le _ b).2)
      have hs0 := sumI_nonneg (slk s.v) xs (fun b _ => (slk_le s.v b).1)
      rw [List.length_set] at hs2
      unfold Hp.meas; dsimp only; rw [sset, e1, e2]; omega
    · dsimp only; rw [sset, n1]; omega
  · have r1 : rem a = rem { a with steps := inc a.steps, loaded := false, done := false } := rfl
    have e1 : ev a = a.left := by simp [ev, hd, show ¬ a.left < 1 by omega]
    have e2 : ev { a with steps := inc a.steps, loaded := false, done := false } = a.left := by simp [ev, show ¬ a.left < 1 by omega]
    have k1 : slk s.v a = 2 := by simp [slk, hd, h2, h3, show ¬ a.left < 1 by omega]
    have k2 : slk s.v { a with steps := inc a.steps, loaded := false, done := false } = 1 := by simp [slk, show ¬ a.left < 1 by omega]
    have n1 : nd a = 1 := by simp [nd, hd]
    have n2 : nd { a with steps := inc a.steps, loaded := false, done := false } = 1 := by simp [nd]
    refine ⟨⟨good' _ ⟨hg.safe, hg.le, fun h => by cases h⟩, by simpa using hlen, h.s0, hsw0, ?_, ?_, h.vr⟩, ?_, .inl ⟨rfl, ?_, ?_⟩⟩
    · simp only [sset]; rw [← r1]; omega
    · have : sumI remBy (xs.set i { a with steps := inc a.steps, loaded := false, done := false }) = sumI remBy xs := by
        rw [sset, show remBy { a with steps := inc a.steps, loaded := false, done := false } = remBy a from rfl]; omega
      rw [this]; exact h.cong
    · unfold Hp.meas; dsimp only; rw [sset, sset, e1, e2, k1, k2]; omega
    · rw [sset, n1, n2]; omega
    · dsimp only; rw [sset, k1, k2]; omega

end Go.Hp
