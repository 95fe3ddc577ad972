import Derived.Test.YtoplcafnmghifaaCellC
set_option linter.unusedVariables false
set_option linter.unusedSimpArgs false
namespace Go.Hp
open Go Go.Proofs

structure XC where
  b : Nat
  v : Int
structure YC where
  b : Nat
  cb : Nat
  s : CS
def fX (c : Nat) (e : XC) : Chunks := [(e.b, row 83 [.int .i64 e.v, .pointer (some ⟨c, 0, none⟩)])]
def fY (e : YC) : Chunks := [(e.b, row 83 [.int .i64 e.s.v, .pointer (some ⟨e.cb, 0, none⟩)]), (e.cb, row 81 [.int .i64 e.s.l, .int .i64 e.s.s, .int .i64 e.s.sw, .int .i64 e.s.m, .int .i64 e.s.a])]
def xp (e : XC) : Value := .pointer (some ⟨e.b, 0, none⟩)
def yp (e : YC) : Value := .pointer (some ⟨e.b, 0, none⟩)
structure D0 where
  v7 : Value
  L7 : Chunks
  v8 : Value
  L8 : Chunks
  ex : List XC
  ey : List YC
structure D0.ok (first : List Int) (x : D0) : Prop where
  le : x.ex.length ≤ first.length
  ly : x.ey.length = x.ex.length
  vx : x.ex.map (·.v) = first.take x.ex.length
  vy : x.ey.map (·.s.v) = first.take x.ex.length
  o7 : Own 26 1 x.v7 (x.ex.map xp) x.ex.length x.L7
  o8 : Own 26 1 x.v8 (x.ey.map yp) x.ex.length x.L8
theorem D0.next {first : List Int} {x : D0} (h : x.ok first) (hi : x.ex.length < first.length) {b b' cb : Nat} {v7 v8 : Value} {L7 L8 : Chunks}
    (h7 : Own 26 1 v7 (x.ex.map xp ++ [.pointer (some ⟨b, 0, none⟩)]) (x.ex.length + 1) L7) (h8 : Own 26 1 v8 (x.ey.map yp ++ [.pointer (some ⟨b', 0, none⟩)]) (x.ex.length + 1) L8) :
    (⟨v7, L7, v8, L8, x.ex ++ [⟨b, first[x.ex.length]⟩], x.ey ++ [⟨b', cb, ⟨first[x.ex.length], 0, 0, 0, 0, 0⟩⟩]⟩ : D0).ok first where
  le := by simp; omega
  ly := by simp [h.ly]
  vx := by simp only [List.map_append, h.vx, List.length_append, List.map_cons, List.map_nil, List.length_cons, List.length_nil, Nat.zero_add]; rw [List.take_succ_eq_append_getElem hi]
  vy := by simp only [List.map_append, h.vy, List.length_append, List.map_cons, List.map_nil, List.length_cons, List.length_nil, Nat.zero_add]; rw [List.take_succ_eq_append_getElem hi]
  o7 := by simp only [List.map_append, List.length_append]; exact h7
  o8 := by simp only [List.map_append, List.length_append]; exact h8
/-- The second loop. -/
structure D2 where
  i : Nat
  v12 : Value
  L12 : Chunks
  t : CS
  ex : List XC
  ey : List YC
structure D2.ok (n : Nat) (px : List Value) (py : List Value) (x : D2) : Prop where
  le : x.i ≤ n
  px : x.ex.map xp = px
  py : x.ey.map yp = py
  ly : x.ey.length = x.ex.length
  vy : x.ey.map (·.s.v) = x.ex.map (·.v)
  o12 : Own 3 1 x.v12 ((x.ex.map (·.v)).map (Value.int .i64)) x.ex.length x.L12
theorem D2.vy' {n : Nat} {px py : List Value} {x : D2} (h : x.ok n px py) (j : Nat) (hj : j < x.ex.length) : (x.ey[j]'(by rw [h.ly]; exact hj)).s.v = x.ex[j].v := by
  have h1 : (x.ey.map (·.s.v))[j]? = (x.ex.map (·.v))[j]? := by rw [h.vy]
  have h2 : j < x.ey.length := by rw [h.ly]; exact hj
  rw [List.getElem?_map, List.getElem?_map, List.getElem?_eq_getElem h2, List.getElem?_eq_getElem hj] at h1
  simpa using h1
/-- An access of a cell does to its value and its answer what it does to those of another one with this value. -/
theorem actSt_v (k A B : Int) (s t : CS) (h : s.v = t.v) : (actSt k A B s).1.v = (actSt k A B t).1.v ∧ (actSt k A B s).2 = (actSt k A B t).2 := by
  unfold actSt
  split
  · exact ⟨h, h⟩
  split
  · exact ⟨rfl, rfl⟩
  split
  · rw [h]; split <;> exact ⟨by simp [h], rfl⟩
  split
  · exact ⟨by simp [h], by simp [h]⟩
  · exact ⟨h, rfl⟩
theorem D2.next {n : Nat} {px py : List Value} {x : D2} (h : x.ok n px py) (hi : x.i < n) {ce : Int} (h0 : 0 ≤ ce) (h1 : ce < x.ex.length) {r : CS} {s' : CS} (hv : s'.v = r.v) {v12 : Value} {L12 : Chunks}
    (ho : Own 3 1 v12 (((x.ex.map (·.v)).set ce.toNat r.v).map (Value.int .i64)) x.ex.length L12) (hl : ce.toNat < x.ex.length) :
    (⟨x.i + 1, v12, L12, r, x.ex.set ce.toNat ⟨x.ex[ce.toNat].b, r.v⟩, x.ey.set ce.toNat ⟨(x.ey[ce.toNat]'(by rw [h.ly]; exact hl)).b, (x.ey[ce.toNat]'(by rw [h.ly]; exact hl)).cb, s'⟩⟩ : D2).ok n px py where
  le := by simp only; omega
  px := by
    refine Eq.trans ?_ h.px
    simp only [List.map_set]
    apply List.ext_getElem?
    intro j
    by_cases hj : j = ce.toNat
    · subst hj; simp [hl, xp]
    · rw [List.getElem?_set_ne (Ne.symm hj)]
  py := by
    refine Eq.trans ?_ h.py
    simp only [List.map_set]
    have hl' : ce.toNat < x.ey.length := by rw [h.ly]; exact hl
    apply List.ext_getElem?
    intro j
    by_cases hj : j = ce.toNat
    · subst hj; simp [hl', yp]
    · rw [List.getElem?_set_ne (Ne.symm hj)]
  ly := by simp [h.ly]
  vy := by simp only [List.map_set, h.vy, hv]
  o12 := by
    have : (x.ex.set ce.toNat ⟨x.ex[ce.toNat].b, r.v⟩).map (·.v) = (x.ex.map (·.v)).set ce.toNat r.v := by rw [List.map_set]
    simpa [this] using ho
theorem D2.getx {n : Nat} {px py : List Value} {x : D2} (h : x.ok n px py) {j : Nat} (hj : j < x.ex.length) (sp : List Value) : (px ++ sp)[0 + j * 1]? = some (.pointer (some ⟨x.ex[j].b, 0, none⟩)) := by
  rw [← h.px, Nat.zero_add, Nat.mul_one, List.getElem?_append_left (by simpa using hj)]; simp [xp, hj]
theorem D2.gety {n : Nat} {px py : List Value} {x : D2} (h : x.ok n px py) {j : Nat} (hj : j < x.ey.length) (sp : List Value) : (py ++ sp)[0 + j * 1]? = some (.pointer (some ⟨x.ey[j].b, 0, none⟩)) := by
  rw [← h.py, Nat.zero_add, Nat.mul_one, List.getElem?_append_left (by simpa using hj)]; simp [yp, hj]
/-- The third one: only counts turn. -/
structure D4 where
  j : Nat
  t : CS
  ey : List YC

end Go.Hp
