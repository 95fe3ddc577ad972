import Derived.Test.YtgcbhbcmohcdpaaGreatChkL
set_option linter.unusedVariables false
set_option linter.unusedSimpArgs false
namespace Go.Hp
open Go Go.Proofs

theorem Slc.flatw {α : Type} {I : Imm} {v : Value} {xs : List α} {sz : Nat} {R : α → List Value → Prop} (f : α → List Value) (hf : ∀ a, (f a).length = sz) (hR : ∀ x cs, R x cs → cs = f x) (h : Slc I sz R v xs) : SlRd (Imv I) v xs.length sz (xs.flatMap f) := by
 obtain ⟨A, cap, rfl, hc, h3⟩ := h
 refine ⟨A, cap, rfl, hc, flat_len hf xs, ?_⟩
 rcases h3 with rfl | ⟨b, kk, arr, T, fr, rfl, hb, hel⟩
 ·exact .inl rfl
 ·refine .inr ⟨b, kk, T, fr, arr, rfl, hb, ?_⟩
  rw [flat_len hf]
  have key : ∀ (l : List α) (k : Nat), (∀ i x, l[i]? = some x → (arr.toList.drop (k + i * sz)).take sz = f x) → (arr.toList.drop k).take (l.length * sz) = l.flatMap f := by
   intro l
   induction l with
   | nil => intro k _; simp
   | cons a l ih =>
    intro k hk
    have h0 := hk 0 a rfl
    have h1 := ih (k + sz) fun i x hx => by
     have := hk (i + 1) x (by simpa using hx)
     rw [Nat.add_mul, Nat.one_mul] at this
     rw [← this]; congr 2; omega
    rw [Nat.zero_mul, Nat.add_zero] at h0
    rw [List.flatMap_cons, ← h0, ← h1, List.length_cons, Nat.add_mul, Nat.one_mul, Nat.add_comm, List.take_add, List.drop_drop]
  exact key xs kk fun i x hx => hR _ _ (hel i x hx).2


def RMp (p : Mp) (cs : List Value) : Prop := cs = mpV p
def RCk (I : Imm) (c : Ck) (cs : List Value) : Prop := ∃ v, cs = kV c v ∧ SlRd (Im I) v c.ps.length 4 (c.ps.flatMap mpV)
set_option maxRecDepth 100000 in
theorem elem_ck {H : Type} {enc : TypeId × Value → H} {W : World} {sp : Nat → Bool} {held : Bool} (n : Nat) (cs : List Value) (x : DataW H × List MemPlace) (h : DataW.trod enc Tryz.prog W 0 sp held n 24 cs = some x) (hl : cs.length = 5) : ∃ p, RCk (immOf W) p cs ∧ (fun (_ : Ck) (_ : DataW H) => True) p x.1 := by
 obtain ⟨fs, hu, g0, g1, g2, g3, g4⟩ : ∃ fs, Tryz.prog.underlying 24 = some (.struct fs) ∧ (fs[0]?.map fun f => (f.type, f.offset)) = some (3, 0) ∧ (fs[1]?.map fun f => (f.type, f.offset)) = some (3, 1) ∧ (fs[2]?.map fun f => (f.type, f.offset)) = some (3, 2) ∧ (fs[3]?.map fun f => (f.type, f.offset)) = some (3, 3) ∧ (fs[4]?.map fun f => (f.type, f.offset)) = some (22, 4) := ⟨_, rfl, rfl, rfl, rfl, rfl, rfl⟩
 obtain ⟨xs, n', rfl, rfl, _, hxl, hel⟩ := DataW.trod_struct hu h
 have hget : ∀ (i ft off : Nat), (fs[i]?.map fun (f : Field) => (f.type, f.offset)) = some (ft, off) → ∃ y, xs[i]? = some y := by
  intro i ft off hf
  obtain ⟨f, h1, _⟩ := Option.map_eq_some_iff.1 hf
  have : i < fs.size := (Array.getElem?_eq_some_iff.1 h1).1
  exact ⟨_, List.getElem?_eq_getElem (by omega)⟩
 have k0 := part_trod hel 0 3 0 1 g0 zK
 obtain ⟨y0, e0⟩ := hget _ _ _ g0
 rw [e0] at k0
 have k1 := part_trod hel 1 3 1 1 g1 zK
 obtain ⟨y1, e1⟩ := hget _ _ _ g1
 rw [e1] at k1
 have k2 := part_trod hel 2 3 2 1 g2 zK
 obtain ⟨y2, e2⟩ := hget _ _ _ g2
 rw [e2] at k2
 have k3 := part_trod hel 3 3 3 1 g3 zK
 obtain ⟨y3, e3⟩ := hget _ _ _ g3
 rw [e3] at k3
 have k4 := part_trod hel 4 22 4 1 g4 zK
 obtain ⟨y4, e4⟩ := hget _ _ _ g4
 rw [e4] at k4
 match cs, hl with
 | [c0, c1, c2, c3, c4], _ =>
 obtain ⟨a0, j0, _, w0⟩ := DataW.trod_int Tryz.underlying3 k0
 obtain ⟨a1, j1, _, w1⟩ := DataW.trod_int Tryz.underlying3 k1
 obtain ⟨a2, j2, _, w2⟩ := DataW.trod_int Tryz.underlying3 k2
 obtain ⟨a3, j3, _, w3⟩ := DataW.trod_int Tryz.underlying3 k3
 obtain ⟨v4, z4, j4, S4, D4⟩ := open_slc RMp (fun _ _ => True) Tryz.underlying22 (sz := 4) zK (by decide) (fun n cs x h hl => by obtain ⟨zs, h1, h2, _⟩ := elem_i64s (m := 4) zK n cs x h hl; match zs, h1, h2 with | [p, q, r, s], _, h2 => exact ⟨⟨p, q, r, s⟩, h2, trivial⟩) k4
 simp only [List.drop_zero, List.drop_succ_cons, List.take_succ_cons, List.take_zero, List.cons.injEq, and_true] at j0 j1 j2 j3 j4
 exact ⟨⟨a0, a1, a2, a3, z4⟩, ⟨v4, by rw [j0, j1, j2, j3, j4]; rfl, Slc.flatw mpV mpV_len (fun _ _ h => h) S4⟩, trivial⟩

end Go.Hp
