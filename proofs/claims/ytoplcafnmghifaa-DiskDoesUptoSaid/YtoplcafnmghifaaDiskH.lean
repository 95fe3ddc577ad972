import Derived.Test.YtoplcafnmghifaaDiskG
import Derived.Test.YtoplcafnmghifaaBulk
set_option linter.unusedVariables false
set_option linter.unusedSimpArgs false
namespace Go.Hp
open Go Go.Proofs

structure DOp where
  kind : Int
  at_ : Int
  many : Int
  b : List UInt8
  stay : List Int
def RDop (I : Imm) (o : DOp) (cs : List Value) : Prop := ∃ vb vs, cs = [.int .i64 o.kind, .int .i64 o.at_, .int .i64 o.many, vb, vs] ∧ SlRd (Im I) vb o.b.length 1 (bytesV o.b) ∧ SlRd (Im I) vs o.stay.length 1 (o.stay.map (Value.int .i64)) ∧ (-9223372036854775808 ≤ o.many ∧ o.many ≤ 9223372036854775807)
def DDop {H : Type} (o : DOp) (d : DataW H) : Prop := o.b.length ≤ Ytoplcafnmghifaa.Rows.uptoBulk d ∧ o.stay.length ≤ Ytoplcafnmghifaa.Rows.uptoBulk d
theorem slc_bulk {H α : Type} {d : DataW H} {xs : List α} {D : α → DataW H → Prop} (h : (d = .nil ∧ xs = []) ∨ ∃ ds rest, d = .slice ds rest ∧ ds.length = xs.length ∧ ∀ (i : Nat) (a : α), xs[i]? = some a → ∃ e, ds[i]? = some e ∧ D a e) : xs.length ≤ Ytoplcafnmghifaa.Rows.uptoBulk d := by
  rcases h with ⟨_, rfl⟩ | ⟨ds, rest, rfl, hl, _⟩
  · simp
  · have := Ytoplcafnmghifaa.bulks.slice_le ds rest; omega
theorem elem_dop {H : Type} {enc : TypeId × Value → H} {W : World} {sp : Nat → Bool} {held : Bool} (n : Nat) (cs : List Value) (x : DataW H × List MemPlace) (h : DataW.trod enc Try.prog W 0 sp held n 53 cs = some x) (hl : cs.length = 5) : ∃ o : DOp, RDop (immOf W) o cs ∧ DDop o x.1 := by
  obtain ⟨fs, hu, g0, g1, g2, g3, g4⟩ : ∃ fs, Try.prog.underlying 53 = some (.struct fs) ∧ (fs[0]?.map fun f => (f.type, f.offset)) = some (3, 0) ∧ (fs[1]?.map fun f => (f.type, f.offset)) = some (3, 1) ∧ (fs[2]?.map fun f => (f.type, f.offset)) = some (3, 2) ∧ (fs[3]?.map fun f => (f.type, f.offset)) = some (51, 3) ∧ (fs[4]?.map fun f => (f.type, f.offset)) = some (45, 4) := ⟨_, rfl, rfl, rfl, rfl, rfl, rfl⟩
  obtain ⟨xs, n', rfl, rfl, _, hxl, hel⟩ := DataW.trod_struct hu h
  match cs, hl with
  | [c0, c1, c2, c3, c4], _ =>
  have hget : ∀ (i ft off : Nat), (fs[i]?.map fun (f : Field) => (f.type, f.offset)) = some (ft, off) → ∃ y, xs[i]? = some y := by
    intro i ft off hf
    obtain ⟨f, h1, _⟩ := Option.map_eq_some_iff.1 hf
    have : i < fs.size := (Array.getElem?_eq_some_iff.1 h1).1
    exact ⟨_, List.getElem?_eq_getElem (by omega)⟩
  have k0 := part_trod hel 0 3 0 1 g0 (by kernel_rfl)
  have k1 := part_trod hel 1 3 1 1 g1 (by kernel_rfl)
  have k2 := part_trod hel 2 3 2 1 g2 (by kernel_rfl)
  have k3 := part_trod hel 3 51 3 1 g3 (by kernel_rfl)
  have k4 := part_trod hel 4 45 4 1 g4 (by kernel_rfl)
  obtain ⟨y0, e0⟩ := hget _ _ _ g0
  obtain ⟨y1, e1⟩ := hget _ _ _ g1
  obtain ⟨y2, e2⟩ := hget _ _ _ g2
  obtain ⟨y3, e3⟩ := hget _ _ _ g3
  obtain ⟨y4, e4⟩ := hget _ _ _ g4
  rw [e0] at k0; rw [e1] at k1; rw [e2] at k2; rw [e3] at k3; rw [e4] at k4
  obtain ⟨a0, j0, _, w0⟩ := DataW.trod_int Try.underlying3 k0
  obtain ⟨a1, j1, _, w1⟩ := DataW.trod_int Try.underlying3 k1
  obtain ⟨a2, j2, _, w2⟩ := DataW.trod_int Try.underlying3 k2
  obtain ⟨v3, z3, j3, S3, D3⟩ := open_slc RB (fun _ _ => True) Try.underlying51 (sz := 1) (by kernel_rfl) (by decide) (elem_byte (by kernel_rfl)) k3
  obtain ⟨v4, z4, j4, S4, D4⟩ := open_slc (fun (a : Int) cs => cs = [.int .i64 a] ∧ (Lit.int .i64 a).wf = true) (fun _ _ => True) Try.underlying45 (sz := 1) (by kernel_rfl) (by decide) (elem_int (by kernel_rfl)) k4
  simp only [List.drop_zero, List.drop_succ_cons, List.take_succ_cons, List.take_zero, List.cons.injEq, and_true] at j0 j1 j2 j3 j4
  refine ⟨⟨a0, a1, a2, z3, z4⟩, ⟨v3, v4, by rw [j0, j1, j2, j3, j4], Slc.bytes S3, Slc.flat (Value.int .i64) (fun _ _ h => h.1) S4, ?_⟩, ?_, ?_⟩
  · simp [Lit.wf, IntKind.min, IntKind.max, IntKind.bits, IntKind.signed] at w2; simp only; omega
  · have q1 := slc_bulk D3
    have q2 := Ytoplcafnmghifaa.bulks.part_le (List.mem_map_of_mem (f := (·.1)) (List.mem_of_getElem? e3))
    simp only [Ytoplcafnmghifaa.Rows.uptoBulk]; omega
  · have q1 := slc_bulk D4
    have q2 := Ytoplcafnmghifaa.bulks.part_le (List.mem_map_of_mem (f := (·.1)) (List.mem_of_getElem? e4))
    simp only [Ytoplcafnmghifaa.Rows.uptoBulk]; omega
theorem write_waits_n (x : Dk) (n : Nat) (at_ : Int) (bs : List UInt8) : (x.write n at_ bs).1.waits.length ≤ x.waits.length + n := by
  unfold Dk.write
  split
  · exact Nat.le_add_right _ _
  split
  · exact Nat.le_add_right _ _
  split
  · exact Nat.le_add_right _ _
  · have := puts_waits (bs.length / 64) x at_.toNat bs
    omega
structure AX where
  i : Nat
  x : Dk
  La : Chunks
  Lb : Chunks
structure AX.ok (da db m : Nat) (t : AX) : Prop where
  le : t.i ≤ m
  ha : IsDisk da 8 t.x t.La
  hb : IsDisk db 8 t.x t.Lb
  wl : t.x.waits.length ≤ 8 * t.i
structure AY where
  c : Int
  y : Dk
  La : Chunks
  Lb : Chunks
structure AY.ok (da db m : Nat) (t : AY) : Prop where
  ha : IsDisk da 8 t.y t.La
  hb : IsDisk db 8 t.y t.Lb
  wl : t.y.waits.length ≤ 8 * (m + 1)

end Go.Hp
