import Derived.Test.YtilgaelpbgfnnaaGreatRdF
import Derived.Test.YtilgaelpbgfnnaaGreatBulk
set_option linter.unusedVariables false
set_option linter.unusedSimpArgs false
namespace Go.Hp
open Go Go.Proofs

theorem Slc.flatw {α : Type} {I : Imm} {v : Value} {xs : List α} {sz : Nat} {R : α → List Value → Prop} (f : α → List Value) (hf : ∀ a, (f a).length = sz) (hR : ∀ x cs, R x cs → cs = f x) (h : Slc I sz R v xs) : SlRd (Imv I) v xs.length sz (xs.flatMap f) := by
 obtain ⟨A, cap, rfl, hc, h3⟩ := h
 refine ⟨A, cap, rfl, hc, flat_len hf xs, ?_⟩
 rcases h3 with rfl | ⟨b, kk, arr, T, fr, rfl, hb, hel⟩
 ·exact .inl rfl
 ·refine .inr ⟨b, kk, T, fr, arr, rfl, hb, ?_⟩
  rw [flat_len hf]
  have key : ∀ (l : List α) (k : Nat), (∀ i x, l[i]? = some x → (arr.toList.drop (k + i * sz)).take sz = f x) → (arr.toList.drop k).take (l.length * sz) = l.flatMap f := by
   intro l
   induction l with
   | nil => intro k _; simp
   | cons a l ih =>
    intro k hk
    have h0 := hk 0 a rfl
    have h1 := ih (k + sz) fun i x hx => by
     have := hk (i + 1) x (by simpa using hx)
     rw [Nat.add_mul, Nat.one_mul] at this
     rw [← this]; congr 2; omega
    rw [Nat.zero_mul, Nat.add_zero] at h0
    rw [List.flatMap_cons, ← h0, ← h1, List.length_cons, Nat.add_mul, Nat.one_mul, Nat.add_comm, List.take_add, List.drop_drop]
  exact key xs kk fun i x hx => hR _ _ (hel i x hx).2


theorem slc_bulk {H α : Type} {d : DataW H} {xs : List α} {D : α → DataW H → Prop} (h : (d = .nil ∧ xs = []) ∨ ∃ ds rest, d = .slice ds rest ∧ ds.length = xs.length ∧ ∀ (i : Nat) (a : α), xs[i]? = some a → ∃ e, ds[i]? = some e ∧ D a e) : xs.length ≤ YtilgaelpbgfnnaaGreat.Rows.uptoBulk d ∧ ∀ a ∈ xs, ∃ e, D a e ∧ YtilgaelpbgfnnaaGreat.Rows.uptoBulk e ≤ YtilgaelpbgfnnaaGreat.Rows.uptoBulk d := by
 rcases h with ⟨_, rfl⟩ | ⟨ds, rest, rfl, hl, hel⟩
 ·exact ⟨by simp, fun a ha => by cases ha⟩
 ·have h1 := YtilgaelpbgfnnaaGreat.bulks.slice_le ds rest
  have h2 := YtilgaelpbgfnnaaGreat.bulks.slice_elems ds rest
  refine ⟨by omega, fun a ha => ?_⟩
  obtain ⟨i, hi, rfl⟩ := List.getElem_of_mem ha
  obtain ⟨e, h3, h4⟩ := hel i _ (List.getElem?_eq_getElem hi)
  have h5 := YtilgaelpbgfnnaaGreat.bulks.part_le (List.mem_of_getElem? h3)
  exact ⟨e, h4, by omega⟩
def RNodeI (I : Imm) (a : (Bool × Value) × List UInt8) (cs : List Value) : Prop := cs = ndV a.1 ∧ SlRd (Imv I) a.1.2 a.2.length 1 (bytesV a.2)
def DNodeB {H : Type} (a : (Bool × Value) × List UInt8) (d : DataW H) : Prop := a.2.length ≤ YtilgaelpbgfnnaaGreat.Rows.uptoBulk d
set_option maxRecDepth 100000 in
theorem elem_nodeB {H : Type} {enc : TypeId × Value → H} {W : World} {sp : Nat → Bool} {held : Bool} (n : Nat) (cs : List Value) (x : DataW H × List MemPlace) (h : DataW.trod enc Tryz.prog W 0 sp held n 63 cs = some x) (hl : cs.length = 2) : ∃ a, RNodeI (immOf W) a cs ∧ DNodeB a x.1 := by
 obtain ⟨fs, hu, g0, g1⟩ : ∃ fs, Tryz.prog.underlying 63 = some (.struct fs) ∧ (fs[0]?.map fun f => (f.type, f.offset)) = some (4, 0) ∧ (fs[1]?.map fun f => (f.type, f.offset)) = some (49, 1) := ⟨_, rfl, rfl, rfl⟩
 obtain ⟨xs, n', rfl, rfl, _, hxl, hel⟩ := DataW.trod_struct hu h
 have hget : ∀ (i ft off : Nat), (fs[i]?.map fun (f : Field) => (f.type, f.offset)) = some (ft, off) → ∃ y, xs[i]? = some y := by
  intro i ft off hf
  obtain ⟨f, h1, _⟩ := Option.map_eq_some_iff.1 hf
  have : i < fs.size := (Array.getElem?_eq_some_iff.1 h1).1
  exact ⟨_, List.getElem?_eq_getElem (by omega)⟩
 have k0 := part_trod hel 0 4 0 1 g0 (by kernel_rfl)
 obtain ⟨y0, e0⟩ := hget _ _ _ g0
 rw [e0] at k0
 have k1 := part_trod hel 1 49 1 1 g1 (by kernel_rfl)
 obtain ⟨y1, e1⟩ := hget _ _ _ g1
 rw [e1] at k1
 match cs, hl with
 | [c0, c1], _ =>
 obtain ⟨a0, j0, _⟩ := DataW.trod_bool Tryz.underlying4 k0
 obtain ⟨v1, z1, j1, S1, D1⟩ := open_slc RB (fun _ _ => True) Tryz.underlying49 (sz := 1) (by kernel_rfl) (by decide) (elem_byte (by kernel_rfl)) k1
 simp only [List.drop_zero, List.drop_succ_cons, List.take_succ_cons, List.take_zero, List.cons.injEq, and_true] at j0 j1
 refine ⟨((a0, v1), z1), ⟨by rw [j0, j1]; rfl, Slc.bytes S1⟩, ?_⟩
 have q1 := (slc_bulk D1).1
 have q2 := YtilgaelpbgfnnaaGreat.bulks.part_le (List.mem_map_of_mem (f := (·.1)) (List.mem_of_getElem? e1))
 simp only [DNodeB, YtilgaelpbgfnnaaGreat.Rows.uptoBulk]; omega
def RPrI (I : Imm) (o : Pr × Value) (cs : List Value) : Prop := cs = prV o.1 o.2 ∧ RNodes I o.2 o.1.nodes
def DPrB {H : Type} (o : Pr × Value) (d : DataW H) : Prop := o.1.nodes.length ≤ YtilgaelpbgfnnaaGreat.Rows.uptoBulk d ∧ ∀ y ∈ o.1.nodes, y.2.length ≤ YtilgaelpbgfnnaaGreat.Rows.uptoBulk d
theorem RNodes.of_slc {I : Imm} {v : Value} {z : List ((Bool × Value) × List UInt8)} (h : Slc I 2 (RNodeI I) v z) : RNodes I v (z.map fun a => (a.1.1, a.2)) := by
 refine ⟨z.map (·.1), ?_, ⟨by simp, fun i y hy => ?_⟩⟩
 ·have := Slc.flatw (fun a => ndV a.1) (fun a => rfl) (fun _ _ h => h.1) h
  rw [List.flatMap_map]; simpa using this
 ·rw [List.getElem?_map] at hy
  obtain ⟨a, ha, rfl⟩ := Option.map_eq_some_iff.1 hy
  refine ⟨a.2, by rw [List.getElem?_map, ha]; rfl, ?_⟩
  obtain ⟨A', cap', _, _, h3⟩ := h
  rcases h3 with rfl | ⟨b, kk, arr, T, fr, _, _, hel'⟩
  ·cases ha
  ·exact (hel' i a ha).2.2
set_option maxRecDepth 100000 in
theorem elem_prB {H : Type} {enc : TypeId × Value → H} {W : World} {sp : Nat → Bool} {held : Bool} (n : Nat) (cs : List Value) (x : DataW H × List MemPlace) (h : DataW.trod enc Tryz.prog W 0 sp held n 51 cs = some x) (hl : cs.length = 3) : ∃ a, RPrI (immOf W) a cs ∧ DPrB a x.1 := by
 obtain ⟨fs, hu, g0, g1, g2⟩ : ∃ fs, Tryz.prog.underlying 51 = some (.struct fs) ∧ (fs[0]?.map fun f => (f.type, f.offset)) = some (3, 0) ∧ (fs[1]?.map fun f => (f.type, f.offset)) = some (3, 1) ∧ (fs[2]?.map fun f => (f.type, f.offset)) = some (41, 2) := ⟨_, rfl, rfl, rfl, rfl⟩
 obtain ⟨xs, n', rfl, rfl, _, hxl, hel⟩ := DataW.trod_struct hu h
 have hget : ∀ (i ft off : Nat), (fs[i]?.map fun (f : Field) => (f.type, f.offset)) = some (ft, off) → ∃ y, xs[i]? = some y := by
  intro i ft off hf
  obtain ⟨f, h1, _⟩ := Option.map_eq_some_iff.1 hf
  have : i < fs.size := (Array.getElem?_eq_some_iff.1 h1).1
  exact ⟨_, List.getElem?_eq_getElem (by omega)⟩
 have k0 := part_trod hel 0 3 0 1 g0 (by kernel_rfl)
 obtain ⟨y0, e0⟩ := hget _ _ _ g0
 rw [e0] at k0
 have k1 := part_trod hel 1 3 1 1 g1 (by kernel_rfl)
 obtain ⟨y1, e1⟩ := hget _ _ _ g1
 rw [e1] at k1
 have k2 := part_trod hel 2 41 2 1 g2 (by kernel_rfl)
 obtain ⟨y2, e2⟩ := hget _ _ _ g2
 rw [e2] at k2
 match cs, hl with
 | [c0, c1, c2], _ =>
 obtain ⟨a0, j0, _, w0⟩ := DataW.trod_int Tryz.underlying3 k0
 obtain ⟨a1, j1, _, w1⟩ := DataW.trod_int Tryz.underlying3 k1
 obtain ⟨v2, z2, j2, S2, D2⟩ := open_slc (RNodeI (immOf W)) DNodeB Tryz.underlying41 (sz := 2) (by kernel_rfl) (by decide) elem_nodeB k2
 simp only [List.drop_zero, List.drop_succ_cons, List.take_succ_cons, List.take_zero, List.cons.injEq, and_true] at j0 j1 j2
 have q1 := slc_bulk D2
 have q2 := YtilgaelpbgfnnaaGreat.bulks.part_le (List.mem_map_of_mem (f := (·.1)) (List.mem_of_getElem? e2))
 refine ⟨(⟨a0, a1, z2.map fun a => (a.1.1, a.2)⟩, v2), ⟨by rw [j0, j1, j2]; rfl, RNodes.of_slc S2⟩, ?_, fun y hy => ?_⟩
 ·have q3 := q1.1; show (z2.map _).length ≤ _; rw [List.length_map]; simp only [YtilgaelpbgfnnaaGreat.Rows.uptoBulk]; omega
 ·obtain ⟨a, ha, rfl⟩ := List.mem_map.1 hy
  obtain ⟨e, h4, h5⟩ := q1.2 a ha
  have h6 : a.2.length ≤ _ := h4
  simp only [YtilgaelpbgfnnaaGreat.Rows.uptoBulk]; show a.2.length ≤ _; omega
theorem RPrs.of_slc {I : Imm} {v : Value} {z : List (Pr × Value)} (h : Slc I 3 (RPrI I) v z) : RPrs I v z := by
 refine ⟨Slc.flatw (fun a : Pr × Value => prV a.1 a.2) (fun a => rfl) (fun _ _ h => h.1) h, fun x hx => ?_⟩
 obtain ⟨i, hi, rfl⟩ := List.getElem_of_mem hx
 obtain ⟨A', cap', _, _, h3⟩ := h
 rcases h3 with rfl | ⟨b, kk, arr, T, fr, _, _, hel'⟩
 ·cases hi
 ·exact (hel' i _ (List.getElem?_eq_getElem hi)).2.2
theorem sizedP.of {H : Type} {o : Pr × Value} {d : DataW H} (h : DPrB o d) (hb : YtilgaelpbgfnnaaGreat.Rows.uptoBulk d ≤ 1048576) : sizedP o.1 := ⟨Nat.le_trans h.1 hb, fun y hy => Nat.le_trans (h.2 y hy) hb⟩

end Go.Hp
