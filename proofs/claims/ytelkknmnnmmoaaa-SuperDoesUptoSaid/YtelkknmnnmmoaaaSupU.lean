import Derived.Test.YtelkknmnnmmoaaaSupT
import Derived.Test.YtelkknmnnmmoaaaBulk
set_option linter.unusedVariables false
set_option linter.unusedSimpArgs false
namespace Go.Hp
open Go Go.Proofs

theorem puts_waits : ∀ (k : Nat) (x : Dk) (at_ : Nat) (b : List UInt8), (Dk.puts k x at_ b).1.waits.length ≤ x.waits.length + k
  | 0, x, at_, b => by simp [Dk.puts]
  | k + 1, x, at_, b => by
    rw [Dk.puts]
    split
    · exact Nat.le_add_right _ _
    · have := puts_waits k (x.write1 at_ (b.take 64)) (at_ + 1) (b.drop 64)
      simp only [Dk.write1, List.length_append, List.length_cons, List.length_nil] at this ⊢
      omega

theorem write_waits_n (x : Dk) (n : Nat) (at_ : Int) (bs : List UInt8) : (x.write n at_ bs).1.waits.length ≤ x.waits.length + n := by
  unfold Dk.write
  split
  · exact Nat.le_add_right _ _
  split
  · exact Nat.le_add_right _ _
  split
  · exact Nat.le_add_right _ _
  · have := puts_waits (bs.length / 64) x at_.toNat bs
    omega
theorem slc_bulk {H α : Type} {d : DataW H} {xs : List α} {D : α → DataW H → Prop} (h : (d = .nil ∧ xs = []) ∨ ∃ ds rest, d = .slice ds rest ∧ ds.length = xs.length ∧ ∀ (i : Nat) (a : α), xs[i]? = some a → ∃ e, ds[i]? = some e ∧ D a e) : xs.length ≤ Ytelkknmnnmmoaaa.Rows.uptoBulk d := by
  rcases h with ⟨_, rfl⟩ | ⟨ds, rest, rfl, hl, _⟩
  · simp
  · have := Ytelkknmnnmmoaaa.bulks.slice_le ds rest; omega
def DSop {H : Type} (o : SOp) (d : DataW H) : Prop := o.b.length ≤ Ytelkknmnnmmoaaa.Rows.uptoBulk d ∧ o.stay.length ≤ Ytelkknmnnmmoaaa.Rows.uptoBulk d
set_option maxRecDepth 100000 in
theorem elem_sopB {H : Type} {enc : TypeId × Value → H} {W : World} {sp : Nat → Bool} {held : Bool} (n : Nat) (cs : List Value) (x : DataW H × List MemPlace) (h : DataW.trod enc Try.prog W 0 sp held n 45 cs = some x) (hl : cs.length = 9) : ∃ o, RSOp (immOf W) o cs ∧ DSop o x.1 := by
  obtain ⟨fs, hu, g0, g1, g2, g3, g4⟩ : ∃ fs, Try.prog.underlying 45 = some (.struct fs) ∧ (fs[0]?.map fun f => (f.type, f.offset)) = some (3, 0) ∧ (fs[1]?.map fun f => (f.type, f.offset)) = some (3, 1) ∧ (fs[2]?.map fun f => (f.type, f.offset)) = some (23, 2) ∧ (fs[3]?.map fun f => (f.type, f.offset)) = some (24, 7) ∧ (fs[4]?.map fun f => (f.type, f.offset)) = some (43, 8) := ⟨_, rfl, rfl, rfl, rfl, rfl, rfl⟩
  obtain ⟨xs, n', rfl, rfl, _, hxl, hel⟩ := DataW.trod_struct hu h
  have hget : ∀ (i ft off : Nat), (fs[i]?.map fun (f : Field) => (f.type, f.offset)) = some (ft, off) → ∃ y, xs[i]? = some y := by
    intro i ft off hf
    obtain ⟨f, h1, _⟩ := Option.map_eq_some_iff.1 hf
    have : i < fs.size := (Array.getElem?_eq_some_iff.1 h1).1
    exact ⟨_, List.getElem?_eq_getElem (by omega)⟩
  have hwt : ∀ (i ft off : Nat) (y : DataW H × List MemPlace), (fs[i]?.map fun (f : Field) => (f.type, f.offset)) = some (ft, off) → xs[i]? = some y → ∀ m ∈ y.1.weights Try.prog ft, m ∈ (DataW.agg (xs.map (·.1))).weights Try.prog 45 := by
    intro i ft off y hf hy m hm
    obtain ⟨f, h1, h2⟩ := Option.map_eq_some_iff.1 hf
    simp only [Prod.mk.injEq] at h2
    simp only [DataW.weights, hu]
    refine DataW.weights_mem_each (j := i) (t := ft) (d := y.1) ?_ ?_ m hm
    · rw [List.getElem?_map, Array.getElem?_toList, h1, ← h2.1]; rfl
    · rw [List.getElem?_map, hy]; rfl
  have k0 := part_trod hel 0 3 0 1 g0 (by kernel_rfl)
  obtain ⟨y0, e0⟩ := hget _ _ _ g0
  rw [e0] at k0
  have k1 := part_trod hel 1 3 1 1 g1 (by kernel_rfl)
  obtain ⟨y1, e1⟩ := hget _ _ _ g1
  rw [e1] at k1
  have k2 := part_trod hel 2 23 2 5 g2 (by kernel_rfl)
  obtain ⟨y2, e2⟩ := hget _ _ _ g2
  rw [e2] at k2
  have k3 := part_trod hel 3 24 7 1 g3 (by kernel_rfl)
  obtain ⟨y3, e3⟩ := hget _ _ _ g3
  rw [e3] at k3
  have k4 := part_trod hel 4 43 8 1 g4 (by kernel_rfl)
  obtain ⟨y4, e4⟩ := hget _ _ _ g4
  rw [e4] at k4
  match cs, hl with
  | [c0, c1, c2, c3, c4, c5, c6, c7, c8], _ =>
  obtain ⟨a0, j0, _, w0⟩ := DataW.trod_int Try.underlying3 k0
  obtain ⟨a1, j1, _, w1⟩ := DataW.trod_int Try.underlying3 k1
  obtain ⟨zs, hz1, hz2, _⟩ := elem_i64s (m := 5) (by kernel_rfl) _ _ _ k2 rfl
  obtain ⟨s0, s1, s2, s3, s4, rfl⟩ : ∃ s0 s1 s2 s3 s4, zs = [s0, s1, s2, s3, s4] := by match zs, hz1 with | [r0, r1, r2, r3, r4], _ => exact ⟨_, _, _, _, _, rfl⟩
  obtain ⟨v3, z3, j3, S3, D3⟩ := open_slc RB (fun _ _ => True) Try.underlying24 (sz := 1) (by kernel_rfl) (by decide) (elem_byte (by kernel_rfl)) k3
  obtain ⟨v4, z4, j4, S4, D4⟩ := open_slc (fun (a : Int) cs => cs = [.int .i64 a] ∧ (Lit.int .i64 a).wf = true) (fun _ _ => True) Try.underlying43 (sz := 1) (by kernel_rfl) (by decide) (elem_int (by kernel_rfl)) k4
  simp only [List.drop_zero, List.drop_succ_cons, List.take_succ_cons, List.take_zero, List.cons.injEq, and_true, List.map_cons, List.map_nil] at j0 j1 hz2 j3 j4
  obtain ⟨q0, q1, q2, q3, q4⟩ := hz2
  refine ⟨⟨a0, a1, ⟨s0, s1, s2, s3, s4⟩, z3, z4⟩, ⟨v3, v4, by rw [j0, j1, j3, j4, q0, q1, q2, q3, q4], Slc.bytes S3, Slc.flat (Value.int .i64) (fun _ _ h => h.1) S4, ?_⟩, ?_, ?_⟩
  · simp [Lit.wf, IntKind.min, IntKind.max, IntKind.bits, IntKind.signed] at w1; simp only; omega
  · have q1 := slc_bulk D3
    have q2 := Ytelkknmnnmmoaaa.bulks.part_le (List.mem_map_of_mem (f := (·.1)) (List.mem_of_getElem? e3))
    simp only [Ytelkknmnnmmoaaa.Rows.uptoBulk]; omega
  · have q1 := slc_bulk D4
    have q2 := Ytelkknmnnmmoaaa.bulks.part_le (List.mem_map_of_mem (f := (·.1)) (List.mem_of_getElem? e4))
    simp only [Ytelkknmnnmmoaaa.Rows.uptoBulk]; omega
def opC (o : SOp) (vb vs : Value) : List Value := [.int .i64 o.kind, .int .i64 o.n, .int .i64 o.s.no, .int .i64 o.s.place, .int .i64 o.s.first, .int .i64 o.s.era, .int .i64 o.s.upto, vb, vs]
theorem Slc.sop9 {I : Imm} {A : Option Addr} {m c : Nat} {ops : List SOp} (h : Slc I 9 (RSOp I) (.slice A m c) ops) {i : Nat} (hi : i < ops.length) : ∃ b k T fr arr vb vs, A = some ⟨b, k, none⟩ ∧ I.blk b = some (.cells arr T fr) ∧ (arr.toList.drop (k + i * 9)).take 9 = opC ops[i] vb vs ∧ SlRd (Im I) vb ops[i].b.length 1 (bytesV ops[i].b) ∧ SlRd (Im I) vs ops[i].stay.length 1 (ops[i].stay.map (Value.int .i64)) ∧ (-9223372036854775808 ≤ ops[i].n ∧ ops[i].n ≤ 9223372036854775807) := by
  obtain ⟨A', cap, e, _, h3⟩ := h
  cases e
  rcases h3 with rfl | ⟨b, k, arr, T, fr, rfl, hb, hel⟩
  · cases hi
  · obtain ⟨_, vb, vs, hcs, h1, h2, h3⟩ := hel i _ (List.getElem?_eq_getElem hi)
    exact ⟨b, k, T, fr, arr, vb, vs, rfl, hb, hcs, h1, h2, h3⟩
def swr (x : Dk) (n : Nat) (s : Sp) : Dk × Int := if s.may then x.write n (s.no % 2 * 4) (enc s) else (x, 1)
theorem swr_waits (x : Dk) (n : Nat) (s : Sp) : (swr x n s).1.waits.length ≤ x.waits.length + n := by
  unfold swr; split
  · exact write_waits_n _ _ _ _
  · exact Nat.le_add_right _ _
theorem super_WriteA {I : Imm} {d n : Nat} {x : Dk} {L : Chunks} (hd : IsDisk d n x L) {s : Sp} (hwb : x.waits.length + 8192 ≤ 1954687338000) : Spec Try.prog 17 [.pointer (some ⟨d, 0, none⟩), .agg (spV s).toArray] I L (fun v J L' => v = .int .i64 (swr x n s).2 ∧ IsDisk d n (swr x n s).1 L') := by
  by_cases hm : s.may
  · have e : swr x n s = x.write n (s.no % 2 * 4) (enc s) := if_pos hm
    rw [e]; exact super_Write_ok hd hm hwb
  · have e : swr x n s = (x, 1) := if_neg hm
    rw [e]; exact (super_Write_bad hd hm).mono (by rintro v J L' _ ⟨h1, h2, h3⟩; exact ⟨h1, h3 ▸ hd⟩)
theorem ref_WriteA {I : Imm} {r n : Nat} {x : Dk} {L : Chunks} (hd : IsRef I r n x L) {s : Sp} (hwb : x.waits.length + 8192 ≤ 1954687338000) : Spec Try.prog 23 [.pointer (some ⟨r, 0, none⟩), .agg (spV s).toArray] I L (fun v J L' => v = .int .i64 (swr x n s).2 ∧ IsRef J r n (swr x n s).1 L') := by
  by_cases hm : s.may
  · have e : swr x n s = x.write n (s.no % 2 * 4) (enc s) := if_pos hm
    rw [e]; exact ref_SWrite_ok hd hm hwb
  · have e : swr x n s = (x, 1) := if_neg hm
    rw [e]; exact (ref_SWrite_bad hd hm).mono (by rintro v J L' _ ⟨h1, h2, h3⟩; subst h2; exact ⟨h1, h3 ▸ hd⟩)
structure SDX where
  i : Nat
  x : Dk
  J : Imm
  Ld : Chunks
  Lr : Chunks
structure SDX.ok (I : Imm) (d r n m : Nat) (t : SDX) : Prop where
  le : t.i ≤ m
  hJ : I.le t.J
  hd : IsDisk d n t.x t.Ld
  hr : IsRef t.J r n t.x t.Lr
  wl : t.x.waits.length ≤ 8192 * t.i
structure SDY where
  x : Dk
  J : Imm
  Ld : Chunks
  Lr : Chunks
structure SDY.ok (I : Imm) (d r n i : Nat) (t : SDY) : Prop where
  hJ : I.le t.J
  hd : IsDisk d n t.x t.Ld
  hr : IsRef t.J r n t.x t.Lr
  wl : t.x.waits.length ≤ 8192 * (i + 1)

end Go.Hp
