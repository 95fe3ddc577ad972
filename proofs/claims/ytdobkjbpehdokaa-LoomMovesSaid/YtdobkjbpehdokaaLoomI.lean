import Derived.Test.YtdobkjbpehdokaaLoomH
set_option linter.unusedVariables false
set_option linter.unusedSimpArgs false
namespace Go.Hp
open Go Go.Proofs

structure Job where
  times : Int
  by_ : Int
  safe : Bool
def RJob (j : Job) (cs : List Value) : Prop := cs = [.int .i64 j.times, .int .i64 j.by_, .bool j.safe]
set_option maxRecDepth 100000 in
theorem elem_job {H : Type} {enc : TypeId × Value → H} {W : World} {sp : Nat → Bool} {held : Bool} (n : Nat) (cs : List Value) (x : DataW H × List MemPlace) (h : DataW.trod enc Try.prog W 0 sp held n 36 cs = some x) (hl : cs.length = 3) : ∃ j : Job, RJob j cs ∧ True := by
  obtain ⟨fs, hu, g0, g1, g2⟩ : ∃ fs, Try.prog.underlying 36 = some (.struct fs) ∧ (fs[0]?.map fun f => (f.type, f.offset)) = some (3, 0) ∧ (fs[1]?.map fun f => (f.type, f.offset)) = some (3, 1) ∧ (fs[2]?.map fun f => (f.type, f.offset)) = some (4, 2) := ⟨_, rfl, rfl, rfl, rfl⟩
  obtain ⟨xs, n', rfl, rfl, _, hxl, hel⟩ := DataW.trod_struct hu h
  match cs, hl with
  | [c0, c1, c2], _ =>
  have hget : ∀ (i ft off : Nat), (fs[i]?.map fun (f : Field) => (f.type, f.offset)) = some (ft, off) → ∃ y, xs[i]? = some y := by
    intro i ft off hf
    obtain ⟨f, h1, _⟩ := Option.map_eq_some_iff.1 hf
    have : i < fs.size := (Array.getElem?_eq_some_iff.1 h1).1
    exact ⟨_, List.getElem?_eq_getElem (by omega)⟩
  have k0 := part_trod hel 0 3 0 1 g0 (by kernel_rfl)
  have k1 := part_trod hel 1 3 1 1 g1 (by kernel_rfl)
  have k2 := part_trod hel 2 4 2 1 g2 (by kernel_rfl)
  obtain ⟨y0, e0⟩ := hget _ _ _ g0
  obtain ⟨y1, e1⟩ := hget _ _ _ g1
  obtain ⟨y2, e2⟩ := hget _ _ _ g2
  rw [e0] at k0; rw [e1] at k1; rw [e2] at k2
  obtain ⟨a0, j0, _, w0⟩ := DataW.trod_int Try.underlying3 k0
  obtain ⟨a1, j1, _, w1⟩ := DataW.trod_int Try.underlying3 k1
  obtain ⟨a2, j2, _⟩ := DataW.trod_bool Try.underlying4 k2
  simp only [List.drop_zero, List.drop_succ_cons, List.take_succ_cons, List.take_zero, List.cons.injEq, and_true] at j0 j1 j2
  exact ⟨⟨a0, a1, a2⟩, by rw [RJob, j0, j1, j2], trivial⟩
def tm (t : Int) : Int := t.tmod 50
theorem tm_le (t : Int) : -50 < tm t ∧ tm t < 50 := by
  unfold tm
  exact ⟨Int.lt_tmod_of_pos t (by decide), Int.tmod_lt_of_pos t (by decide)⟩
def mkAd (j : Job) : Ad := ⟨tm j.times, j.by_, 0, false, j.safe, false, 0⟩
def mks (l : List Job) (i : Nat) : List Ad := (l.take i).map mkAd
theorem mks_succ {l : List Job} {i : Nat} (h : i < l.length) : mks l (i + 1) = mks l i ++ [mkAd l[i]] := by
  unfold mks
  rw [List.take_succ_eq_append_getElem h, List.map_append]; rfl
theorem mks_len (l : List Job) (i : Nat) (h : i ≤ l.length) : (mks l i).length = i := by simp [mks]; omega
theorem mks_all (l : List Job) : mks l l.length = l.map mkAd := by simp [mks]
theorem pick_len (xs : List Ad) (s : CS) (k : Int) : (pick xs s k).1.length = xs.length := by
  unfold pick; split
  · rfl
  · split
    · rfl
    · exact stepAt_len _ _ _

end Go.Hp
