import Derived.Test.YtdobkjbpehdokaaTabL
set_option linter.unusedVariables false
set_option linter.unusedSimpArgs false
namespace Go.Hp
open Go Go.Proofs

theorem Slc.flatw {α : Type} {I : Imm} {v : Value} {xs : List α} {sz : Nat} {R : α → List Value → Prop} (f : α → List Value) (hf : ∀ a, (f a).length = sz) (hR : ∀ x cs, R x cs → cs = f x) (h : Slc I sz R v xs) : SlRd (Imv I) v xs.length sz (xs.flatMap f) := by
  obtain ⟨A, cap, rfl, hc, h3⟩ := h
  refine ⟨A, cap, rfl, hc, flat_len hf xs, ?_⟩
  rcases h3 with rfl | ⟨b, kk, arr, T, fr, rfl, hb, hel⟩
  · exact .inl rfl
  · refine .inr ⟨b, kk, T, fr, arr, rfl, hb, ?_⟩
    rw [flat_len hf]
    have key : ∀ (l : List α) (k : Nat), (∀ i x, l[i]? = some x → (arr.toList.drop (k + i * sz)).take sz = f x) → (arr.toList.drop k).take (l.length * sz) = l.flatMap f := by
      intro l
      induction l with
      | nil => intro k _; simp
      | cons a l ih =>
        intro k hk
        have h0 := hk 0 a rfl
        have h1 := ih (k + sz) fun i x hx => by
          have := hk (i + 1) x (by simpa using hx)
          rw [Nat.add_mul, Nat.one_mul] at this
          rw [← this]; congr 2; omega
        rw [Nat.zero_mul, Nat.add_zero] at h0
        rw [List.flatMap_cons, ← h0, ← h1, List.length_cons, Nat.add_mul, Nat.one_mul, Nat.add_comm, List.take_add, List.drop_drop]
    exact key xs kk fun i x hx => hR _ _ (hel i x hx).2
theorem weights_all {H : Type} {P : Program} {e : TypeId} {d : DataW H} : ∀ {ds : List (DataW H)}, d ∈ ds → ∀ m ∈ d.weights P e, m ∈ DataW.weightsAll P e ds
  | a :: ds, hd, m, hm => by
    simp only [DataW.weightsAll, List.mem_append]
    rcases List.mem_cons.1 hd with rfl | hd
    · exact .inl hm
    · exact .inr (weights_all hd m hm)
abbrev Wts {H : Type} (t : Nat) (d : DataW H) : Prop := ∀ m ∈ d.weights Try.prog t, m ≤ reachBytes
/-- Of a slice of what has its bound. -/
theorem slc_wts {H α : Type} {t e : Nat} {d : DataW H} {xs : List α} {Q : α → Prop} (ht : Try.prog.underlying t = some (.slice e)) (h : (d = .nil ∧ xs = []) ∨ ∃ ds rest, d = .slice ds rest ∧ ds.length = xs.length ∧ ∀ (i : Nat) (a : α), xs[i]? = some a → ∃ x, ds[i]? = some x ∧ (Wts e x → Q a)) (hw : Wts t d) : xs.length * Try.prog.bytesOf e ≤ reachBytes ∧ ∀ a ∈ xs, Q a := by
  rcases h with ⟨_, rfl⟩ | ⟨ds, rest, rfl, hl, hel⟩
  · exact ⟨by simp, fun a ha => (by cases ha)⟩
  · refine ⟨?_, fun a ha => ?_⟩
    · have := hw ((ds.length + rest.length) * Try.prog.bytesOf e) (by simp [DataW.weights, ht])
      exact Nat.le_trans (Nat.mul_le_mul_right _ (by omega)) this
    · obtain ⟨i, hi, rfl⟩ := List.getElem_of_mem ha
      obtain ⟨x, hx, hq⟩ := hel i _ (List.getElem?_eq_getElem hi)
      exact hq fun m hm => hw m (by simp only [DataW.weights, ht, List.mem_cons, List.mem_append]; exact .inr (.inl (weights_all (List.mem_of_getElem? hx) m hm)))
def RNode (I : Imm) (a : (Bool × Value) × List UInt8) (cs : List Value) : Prop := cs = ndV a.1 ∧ SlRd (Imv I) a.1.2 a.2.length 1 (bytesV a.2)
def DNode {H : Type} (a : (Bool × Value) × List UInt8) (d : DataW H) : Prop := Wts 69 d → a.2.length ≤ 140737488351232
set_option maxRecDepth 100000 in
theorem elem_node {H : Type} {enc : TypeId × Value → H} {W : World} {sp : Nat → Bool} {held : Bool} (n : Nat) (cs : List Value) (x : DataW H × List MemPlace) (h : DataW.trod enc Try.prog W 0 sp held n 69 cs = some x) (hl : cs.length = 2) : ∃ a, RNode (immOf W) a cs ∧ DNode a x.1 := by
  obtain ⟨fs, hu, g0, g1⟩ : ∃ fs, Try.prog.underlying 69 = some (.struct fs) ∧ (fs[0]?.map fun f => (f.type, f.offset)) = some (4, 0) ∧ (fs[1]?.map fun f => (f.type, f.offset)) = some (67, 1) := ⟨_, rfl, rfl, rfl⟩
  obtain ⟨xs, n', rfl, rfl, _, hxl, hel⟩ := DataW.trod_struct hu h
  have hget : ∀ (i ft off : Nat), (fs[i]?.map fun (f : Field) => (f.type, f.offset)) = some (ft, off) → ∃ y, xs[i]? = some y := by
    intro i ft off hf
    obtain ⟨f, h1, _⟩ := Option.map_eq_some_iff.1 hf
    have : i < fs.size := (Array.getElem?_eq_some_iff.1 h1).1
    exact ⟨_, List.getElem?_eq_getElem (by omega)⟩
  have hwt : ∀ (i ft off : Nat) (y : DataW H × List MemPlace), (fs[i]?.map fun (f : Field) => (f.type, f.offset)) = some (ft, off) → xs[i]? = some y → ∀ m ∈ y.1.weights Try.prog ft, m ∈ (DataW.agg (xs.map (·.1))).weights Try.prog 69 := by
    intro i ft off y hf hy m hm
    obtain ⟨f, h1, h2⟩ := Option.map_eq_some_iff.1 hf
    simp only [Prod.mk.injEq] at h2
    simp only [DataW.weights, hu]
    refine DataW.weights_mem_each (j := i) (t := ft) (d := y.1) ?_ ?_ m hm
    · rw [List.getElem?_map, Array.getElem?_toList, h1, ← h2.1]; rfl
    · rw [List.getElem?_map, hy]; rfl
  have k0 := part_trod hel 0 4 0 1 g0 (by kernel_rfl)
  obtain ⟨y0, e0⟩ := hget _ _ _ g0
  rw [e0] at k0
  have k1 := part_trod hel 1 67 1 1 g1 (by kernel_rfl)
  obtain ⟨y1, e1⟩ := hget _ _ _ g1
  rw [e1] at k1
  match cs, hl with
  | [c0, c1], _ =>
  obtain ⟨a0, j0, _⟩ := DataW.trod_bool Try.underlying4 k0
  obtain ⟨v1, z1, j1, S1, D1⟩ := open_slc RB (fun _ _ => True) Try.underlying67 (sz := 1) (by kernel_rfl) (by decide) (elem_byte (by kernel_rfl)) k1
  simp only [List.drop_zero, List.drop_succ_cons, List.take_succ_cons, List.take_zero, List.cons.injEq, and_true] at j0 j1
  refine ⟨((a0, v1), z1), ⟨by rw [j0, j1]; rfl, Slc.bytes S1⟩, fun hw => ?_⟩
  have q := (slc_wts (Q := fun (_ : UInt8) => True) Try.underlying67 (by rcases D1 with D1 | ⟨ds, rest, h1, h2, h3⟩; exact .inl D1; exact .inr ⟨ds, rest, h1, h2, fun i a ha => by obtain ⟨d, hd, _⟩ := h3 i a ha; exact ⟨d, hd, fun _ => trivial⟩⟩) (fun m hm => hw m (hwt 1 _ _ _ g1 e1 m hm))).1
  rw [show Try.prog.bytesOf 5 = 1 by kernel_rfl, Nat.mul_one] at q
  exact q
def DEnt {H : Type} (e : Ent) (d : DataW H) : Prop := Wts 63 d → e.sized
set_option maxRecDepth 100000 in
theorem elem_ent {H : Type} {enc : TypeId × Value → H} {W : World} {sp : Nat → Bool} {held : Bool} (n : Nat) (cs : List Value) (x : DataW H × List MemPlace) (h : DataW.trod enc Try.prog W 0 sp held n 63 cs = some x) (hl : cs.length = 9) : ∃ e, REnt (immOf W) e cs ∧ DEnt e x.1 := by
  obtain ⟨fs, hu, g0, g1, g2, g3, g4, g5, g6, g7, g8⟩ : ∃ fs, Try.prog.underlying 63 = some (.struct fs) ∧ (fs[0]?.map fun f => (f.type, f.offset)) = some (60, 0) ∧ (fs[1]?.map fun f => (f.type, f.offset)) = some (61, 1) ∧ (fs[2]?.map fun f => (f.type, f.offset)) = some (3, 2) ∧ (fs[3]?.map fun f => (f.type, f.offset)) = some (3, 3) ∧ (fs[4]?.map fun f => (f.type, f.offset)) = some (3, 4) ∧ (fs[5]?.map fun f => (f.type, f.offset)) = some (3, 5) ∧ (fs[6]?.map fun f => (f.type, f.offset)) = some (3, 6) ∧ (fs[7]?.map fun f => (f.type, f.offset)) = some (3, 7) ∧ (fs[8]?.map fun f => (f.type, f.offset)) = some (23, 8) := ⟨_, rfl, rfl, rfl, rfl, rfl, rfl, rfl, rfl, rfl, rfl⟩
  obtain ⟨xs, n', rfl, rfl, _, hxl, hel⟩ := DataW.trod_struct hu h
  have hget : ∀ (i ft off : Nat), (fs[i]?.map fun (f : Field) => (f.type, f.offset)) = some (ft, off) → ∃ y, xs[i]? = some y := by
    intro i ft off hf
    obtain ⟨f, h1, _⟩ := Option.map_eq_some_iff.1 hf
    have : i < fs.size := (Array.getElem?_eq_some_iff.1 h1).1
    exact ⟨_, List.getElem?_eq_getElem (by omega)⟩
  have hwt : ∀ (i ft off : Nat) (y : DataW H × List MemPlace), (fs[i]?.map fun (f : Field) => (f.type, f.offset)) = some (ft, off) → xs[i]? = some y → ∀ m ∈ y.1.weights Try.prog ft, m ∈ (DataW.agg (xs.map (·.1))).weights Try.prog 63 := by
    intro i ft off y hf hy m hm
    obtain ⟨f, h1, h2⟩ := Option.map_eq_some_iff.1 hf
    simp only [Prod.mk.injEq] at h2
    simp only [DataW.weights, hu]
    refine DataW.weights_mem_each (j := i) (t := ft) (d := y.1) ?_ ?_ m hm
    · rw [List.getElem?_map, Array.getElem?_toList, h1, ← h2.1]; rfl
    · rw [List.getElem?_map, hy]; rfl
  have k0 := part_trod hel 0 60 0 1 g0 (by kernel_rfl)
  obtain ⟨y0, e0⟩ := hget _ _ _ g0
  rw [e0] at k0
  have k1 := part_trod hel 1 61 1 1 g1 (by kernel_rfl)
  obtain ⟨y1, e1⟩ := hget _ _ _ g1
  rw [e1] at k1
  have k2 := part_trod hel 2 3 2 1 g2 (by kernel_rfl)
  obtain ⟨y2, e2⟩ := hget _ _ _ g2
  rw [e2] at k2
  have k3 := part_trod hel 3 3 3 1 g3 (by kernel_rfl)
  obtain ⟨y3, e3⟩ := hget _ _ _ g3
  rw [e3] at k3
  have k4 := part_trod hel 4 3 4 1 g4 (by kernel_rfl)
  obtain ⟨y4, e4⟩ := hget _ _ _ g4
  rw [e4] at k4
  have k5 := part_trod hel 5 3 5 1 g5 (by kernel_rfl)
  obtain ⟨y5, e5⟩ := hget _ _ _ g5
  rw [e5] at k5
  have k6 := part_trod hel 6 3 6 1 g6 (by kernel_rfl)
  obtain ⟨y6, e6⟩ := hget _ _ _ g6
  rw [e6] at k6
  have k7 := part_trod hel 7 3 7 1 g7 (by kernel_rfl)
  obtain ⟨y7, e7⟩ := hget _ _ _ g7
  rw [e7] at k7
  have k8 := part_trod hel 8 23 8 1 g8 (by kernel_rfl)
  obtain ⟨y8, e8⟩ := hget _ _ _ g8
  rw [e8] at k8
  match cs, hl with
  | [c0, c1, c2, c3, c4, c5, c6, c7, c8], _ =>
  obtain ⟨a0, j0, _, w0⟩ := DataW.trod_int Try.underlying60 k0
  obtain ⟨v1, z1, j1, S1, D1⟩ := open_slc (RNode (immOf W)) DNode Try.underlying61 (sz := 2) (by kernel_rfl) (by decide) elem_node k1
  obtain ⟨a2, j2, _, w2⟩ := DataW.trod_int Try.underlying3 k2
  obtain ⟨a3, j3, _, w3⟩ := DataW.trod_int Try.underlying3 k3
  obtain ⟨a4, j4, _, w4⟩ := DataW.trod_int Try.underlying3 k4
  obtain ⟨a5, j5, _, w5⟩ := DataW.trod_int Try.underlying3 k5
  obtain ⟨a6, j6, _, w6⟩ := DataW.trod_int Try.underlying3 k6
  obtain ⟨a7, j7, _, w7⟩ := DataW.trod_int Try.underlying3 k7
  obtain ⟨v8, z8, j8, S8, D8⟩ := open_slc (fun (a : Int) cs => cs = [.int .i64 a] ∧ (Lit.int .i64 a).wf = true) (fun _ _ => True) Try.underlying23 (sz := 1) (by kernel_rfl) (by decide) (elem_int (by kernel_rfl)) k8
  simp only [List.drop_zero, List.drop_succ_cons, List.take_succ_cons, List.take_zero, List.cons.injEq, and_true] at j0 j1 j2 j3 j4 j5 j6 j7 j8
  have h0 : 0 ≤ a0 := by simp [Lit.wf, IntKind.min, IntKind.max, IntKind.bits, IntKind.signed] at w0; omega
  refine ⟨⟨a0.toNat, z1.map (fun a => (a.1.1, a.2)), a2, a3, a4, a5, a6, a7, z8⟩, ⟨v1, v8, z1.map (·.1), ?_, ?_, ⟨?_, ?_⟩, Slc.flat (Value.int .i64) (fun _ _ h => h.1) S8⟩, fun hw => ⟨?_, ?_, ?_⟩⟩
  · simp only [entV, Int.toNat_of_nonneg h0]; rw [j0, j1, j2, j3, j4, j5, j6, j7, j8]
  · have := Slc.flatw (fun a => ndV a.1) (fun a => rfl) (fun _ _ h => h.1) S1
    rw [List.flatMap_map]; simpa using this
  · simp
  · intro i y hy
    rw [List.getElem?_map] at hy
    obtain ⟨a, ha, rfl⟩ := Option.map_eq_some_iff.1 hy
    refine ⟨a.2, by rw [List.getElem?_map, ha]; rfl, ?_⟩
    obtain ⟨A', cap', _, _, h3⟩ := S1
    rcases h3 with rfl | ⟨b, kk, arr, T, fr, _, _, hel'⟩
    · cases ha
    · exact (hel' i a ha).2.2
  · have q := (slc_wts (Q := fun (a : (Bool × Value) × List UInt8) => a.2.length ≤ 140737488351232) Try.underlying61 D1 (fun m hm => hw m (hwt 1 _ _ _ g1 e1 m hm))).1
    rw [show Try.prog.bytesOf 69 = 32 by kernel_rfl] at q
    show (z1.map _).length ≤ _
    rw [List.length_map]; simp only [reachBytes] at q; omega
  · have q := (slc_wts (Q := fun (a : (Bool × Value) × List UInt8) => a.2.length ≤ 140737488351232) Try.underlying61 D1 (fun m hm => hw m (hwt 1 _ _ _ g1 e1 m hm))).2
    intro y hy
    obtain ⟨a, ha, rfl⟩ := List.mem_map.1 hy
    exact q a ha
  · have q := (slc_wts (Q := fun (_ : Int) => True) Try.underlying23 (by rcases D8 with D8 | ⟨ds, rest, h1, h2, h3⟩; exact .inl D8; exact .inr ⟨ds, rest, h1, h2, fun i a ha => by obtain ⟨d, hd, _⟩ := h3 i a ha; exact ⟨d, hd, fun _ => trivial⟩⟩) (fun m hm => hw m (hwt 8 _ _ _ g8 e8 m hm))).1
    rw [show Try.prog.bytesOf 3 = 8 by kernel_rfl] at q
    show z8.length ≤ _
    simp only [reachBytes] at q; omega
structure TOp where
  kind : Int
  page : Int
  token : Int
  e : Ent
def RTOp (I : Imm) (o : TOp) (cs : List Value) : Prop := ∃ cs', cs = .int .i64 o.kind :: .int .i64 o.page :: .int .u64 o.token :: cs' ∧ REnt I o.e cs'
def DTOp {H : Type} (o : TOp) (d : DataW H) : Prop := Wts 73 d → o.e.sized
set_option maxRecDepth 100000 in
theorem elem_top {H : Type} {enc : TypeId × Value → H} {W : World} {sp : Nat → Bool} {held : Bool} (n : Nat) (cs : List Value) (x : DataW H × List MemPlace) (h : DataW.trod enc Try.prog W 0 sp held n 73 cs = some x) (hl : cs.length = 12) : ∃ o, RTOp (immOf W) o cs ∧ DTOp o x.1 := by
  obtain ⟨fs, hu, g0, g1, g2, g3⟩ : ∃ fs, Try.prog.underlying 73 = some (.struct fs) ∧ (fs[0]?.map fun f => (f.type, f.offset)) = some (3, 0) ∧ (fs[1]?.map fun f => (f.type, f.offset)) = some (3, 1) ∧ (fs[2]?.map fun f => (f.type, f.offset)) = some (60, 2) ∧ (fs[3]?.map fun f => (f.type, f.offset)) = some (63, 3) := ⟨_, rfl, rfl, rfl, rfl, rfl⟩
  obtain ⟨xs, n', rfl, rfl, _, hxl, hel⟩ := DataW.trod_struct hu h
  have hget : ∀ (i ft off : Nat), (fs[i]?.map fun (f : Field) => (f.type, f.offset)) = some (ft, off) → ∃ y, xs[i]? = some y := by
    intro i ft off hf
    obtain ⟨f, h1, _⟩ := Option.map_eq_some_iff.1 hf
    have : i < fs.size := (Array.getElem?_eq_some_iff.1 h1).1
    exact ⟨_, List.getElem?_eq_getElem (by omega)⟩
  have hwt : ∀ (i ft off : Nat) (y : DataW H × List MemPlace), (fs[i]?.map fun (f : Field) => (f.type, f.offset)) = some (ft, off) → xs[i]? = some y → ∀ m ∈ y.1.weights Try.prog ft, m ∈ (DataW.agg (xs.map (·.1))).weights Try.prog 73 := by
    intro i ft off y hf hy m hm
    obtain ⟨f, h1, h2⟩ := Option.map_eq_some_iff.1 hf
    simp only [Prod.mk.injEq] at h2
    simp only [DataW.weights, hu]
    refine DataW.weights_mem_each (j := i) (t := ft) (d := y.1) ?_ ?_ m hm
    · rw [List.getElem?_map, Array.getElem?_toList, h1, ← h2.1]; rfl
    · rw [List.getElem?_map, hy]; rfl
  have k0 := part_trod hel 0 3 0 1 g0 (by kernel_rfl)
  obtain ⟨y0, e0⟩ := hget _ _ _ g0
  rw [e0] at k0
  have k1 := part_trod hel 1 3 1 1 g1 (by kernel_rfl)
  obtain ⟨y1, e1⟩ := hget _ _ _ g1
  rw [e1] at k1
  have k2 := part_trod hel 2 60 2 1 g2 (by kernel_rfl)
  obtain ⟨y2, e2⟩ := hget _ _ _ g2
  rw [e2] at k2
  have k3 := part_trod hel 3 63 3 9 g3 (by kernel_rfl)
  obtain ⟨y3, e3⟩ := hget _ _ _ g3
  rw [e3] at k3
  match cs, hl with
  | [c0, c1, c2, c3, c4, c5, c6, c7, c8, c9, c10, c11], _ =>
  obtain ⟨a0, j0, _, w0⟩ := DataW.trod_int Try.underlying3 k0
  obtain ⟨a1, j1, _, w1⟩ := DataW.trod_int Try.underlying3 k1
  obtain ⟨a2, j2, _, w2⟩ := DataW.trod_int Try.underlying60 k2
  obtain ⟨e, he, hd⟩ := elem_ent _ _ _ k3 rfl
  simp only [List.drop_zero, List.drop_succ_cons, List.take_succ_cons, List.take_zero, List.cons.injEq, and_true] at j0 j1 j2 he
  exact ⟨⟨a0, a1, a2, e⟩, ⟨_, by rw [j0, j1, j2], he⟩, fun hw => hd fun m hm => hw m (hwt 3 _ _ _ g3 e3 m hm)⟩
theorem Slc.top {I : Imm} {A : Option Addr} {m c : Nat} {ops : List TOp} (h : Slc I 12 (RTOp I) (.slice A m c) ops) {i : Nat} (hi : i < ops.length) : ∃ b k T fr arr cs', A = some ⟨b, k, none⟩ ∧ I.blk b = some (.cells arr T fr) ∧ arr[k + i * 12]? = some (.int .i64 ops[i].kind) ∧ arr[k + i * 12 + 1]? = some (.int .i64 ops[i].page) ∧ (arr.toList.drop (k + i * 12 + 3)).take 9 = cs' ∧ cs'.length = 9 ∧ REnt I ops[i].e cs' := by
  obtain ⟨A', cap, e, _, h3⟩ := h
  cases e
  rcases h3 with rfl | ⟨b, k, arr, T, fr, rfl, hb, hel⟩
  · cases hi
  · obtain ⟨_, cs', hcs, hr⟩ := hel i _ (List.getElem?_eq_getElem hi)
    refine ⟨b, k, T, fr, arr, cs', rfl, hb, ?_, ?_, ?_, hr.cells.1, hr⟩
    · have := take_cells hcs 0 _ rfl (by decide); simpa using this
    · have := take_cells hcs 1 _ rfl (by decide); simpa using this
    · have : ((arr.toList.drop (k + i * 12)).take 12).drop 3 = cs' := by rw [hcs]; rfl
      rw [List.drop_take, List.drop_drop] at this
      exact this

end Go.Hp
