import Derived.Test.YtelkknmnnmmoaaaSupK
set_option linter.unusedVariables false
set_option linter.unusedSimpArgs false
namespace Go.Hp
open Go Go.Proofs

structure SOp where
  kind : Int
  n : Int
  s : Sp
  b : List UInt8
  stay : List Int
def RSOp (I : Imm) (o : SOp) (cs : List Value) : Prop := ∃ vb vs, cs = [.int .i64 o.kind, .int .i64 o.n, .int .i64 o.s.no, .int .i64 o.s.place, .int .i64 o.s.first, .int .i64 o.s.era, .int .i64 o.s.upto, vb, vs] ∧ SlRd (Im I) vb o.b.length 1 (bytesV o.b) ∧ SlRd (Im I) vs o.stay.length 1 (o.stay.map (Value.int .i64)) ∧ (-9223372036854775808 ≤ o.n ∧ o.n ≤ 9223372036854775807)
set_option maxRecDepth 100000 in
theorem elem_sop {H : Type} {enc : TypeId × Value → H} {W : World} {sp : Nat → Bool} {held : Bool} (n : Nat) (cs : List Value) (x : DataW H × List MemPlace) (h : DataW.trod enc Try.prog W 0 sp held n 45 cs = some x) (hl : cs.length = 9) : ∃ o, RSOp (immOf W) o cs ∧ (fun (_ : SOp) (_ : DataW H) => True) o x.1 := by
  obtain ⟨fs, hu, g0, g1, g2, g3, g4⟩ : ∃ fs, Try.prog.underlying 45 = some (.struct fs) ∧ (fs[0]?.map fun f => (f.type, f.offset)) = some (3, 0) ∧ (fs[1]?.map fun f => (f.type, f.offset)) = some (3, 1) ∧ (fs[2]?.map fun f => (f.type, f.offset)) = some (23, 2) ∧ (fs[3]?.map fun f => (f.type, f.offset)) = some (24, 7) ∧ (fs[4]?.map fun f => (f.type, f.offset)) = some (43, 8) := ⟨_, rfl, rfl, rfl, rfl, rfl, rfl⟩
  obtain ⟨xs, n', rfl, rfl, _, hxl, hel⟩ := DataW.trod_struct hu h
  have hget : ∀ (i ft off : Nat), (fs[i]?.map fun (f : Field) => (f.type, f.offset)) = some (ft, off) → ∃ y, xs[i]? = some y := by
    intro i ft off hf
    obtain ⟨f, h1, _⟩ := Option.map_eq_some_iff.1 hf
    have : i < fs.size := (Array.getElem?_eq_some_iff.1 h1).1
    exact ⟨_, List.getElem?_eq_getElem (by omega)⟩
  have hwt : ∀ (i ft off : Nat) (y : DataW H × List MemPlace), (fs[i]?.map fun (f : Field) => (f.type, f.offset)) = some (ft, off) → xs[i]? = some y → ∀ m ∈ y.1.weights Try.prog ft, m ∈ (DataW.agg (xs.map (·.1))).weights Try.prog 45 := by
    intro i ft off y hf hy m hm
    obtain ⟨f, h1, h2⟩ := Option.map_eq_some_iff.1 hf
    simp only [Prod.mk.injEq] at h2
    simp only [DataW.weights, hu]
    refine DataW.weights_mem_each (j := i) (t := ft) (d := y.1) ?_ ?_ m hm
    · rw [List.getElem?_map, Array.getElem?_toList, h1, ← h2.1]; rfl
    · rw [List.getElem?_map, hy]; rfl
  have k0 := part_trod hel 0 3 0 1 g0 (by kernel_rfl)
  obtain ⟨y0, e0⟩ := hget _ _ _ g0
  rw [e0] at k0
  have k1 := part_trod hel 1 3 1 1 g1 (by kernel_rfl)
  obtain ⟨y1, e1⟩ := hget _ _ _ g1
  rw [e1] at k1
  have k2 := part_trod hel 2 23 2 5 g2 (by kernel_rfl)
  obtain ⟨y2, e2⟩ := hget _ _ _ g2
  rw [e2] at k2
  have k3 := part_trod hel 3 24 7 1 g3 (by kernel_rfl)
  obtain ⟨y3, e3⟩ := hget _ _ _ g3
  rw [e3] at k3
  have k4 := part_trod hel 4 43 8 1 g4 (by kernel_rfl)
  obtain ⟨y4, e4⟩ := hget _ _ _ g4
  rw [e4] at k4
  match cs, hl with
  | [c0, c1, c2, c3, c4, c5, c6, c7, c8], _ =>
  obtain ⟨a0, j0, _, w0⟩ := DataW.trod_int Try.underlying3 k0
  obtain ⟨a1, j1, _, w1⟩ := DataW.trod_int Try.underlying3 k1
  obtain ⟨zs, hz1, hz2, _⟩ := elem_i64s (m := 5) (by kernel_rfl) _ _ _ k2 rfl
  obtain ⟨s0, s1, s2, s3, s4, rfl⟩ : ∃ s0 s1 s2 s3 s4, zs = [s0, s1, s2, s3, s4] := by match zs, hz1 with | [r0, r1, r2, r3, r4], _ => exact ⟨_, _, _, _, _, rfl⟩
  obtain ⟨v3, z3, j3, S3, D3⟩ := open_slc RB (fun _ _ => True) Try.underlying24 (sz := 1) (by kernel_rfl) (by decide) (elem_byte (by kernel_rfl)) k3
  obtain ⟨v4, z4, j4, S4, D4⟩ := open_slc (fun (a : Int) cs => cs = [.int .i64 a] ∧ (Lit.int .i64 a).wf = true) (fun _ _ => True) Try.underlying43 (sz := 1) (by kernel_rfl) (by decide) (elem_int (by kernel_rfl)) k4
  simp only [List.drop_zero, List.drop_succ_cons, List.take_succ_cons, List.take_zero, List.cons.injEq, and_true, List.map_cons, List.map_nil] at j0 j1 hz2 j3 j4
  obtain ⟨q0, q1, q2, q3, q4⟩ := hz2
  refine ⟨⟨a0, a1, ⟨s0, s1, s2, s3, s4⟩, z3, z4⟩, ⟨v3, v4, by rw [j0, j1, j3, j4, q0, q1, q2, q3, q4], Slc.bytes S3, Slc.flat (Value.int .i64) (fun _ _ h => h.1) S4, ?_⟩, trivial⟩
  simp [Lit.wf, IntKind.min, IntKind.max, IntKind.bits, IntKind.signed] at w1; simp only; omega
theorem Slc.sop {I : Imm} {A : Option Addr} {m c : Nat} {ops : List SOp} (h : Slc I 9 (RSOp I) (.slice A m c) ops) {i : Nat} (hi : i < ops.length) : ∃ b k T fr arr vb vs, A = some ⟨b, k, none⟩ ∧ I.blk b = some (.cells arr T fr) ∧ arr[k + i * 9]? = some (.int .i64 ops[i].kind) ∧ arr[k + i * 9 + 1]? = some (.int .i64 ops[i].n) ∧ (arr.toList.drop (k + i * 9 + 2)).take 5 = spV ops[i].s ∧ arr[k + i * 9 + 7]? = some vb ∧ arr[k + i * 9 + 8]? = some vs ∧ SlRd (Im I) vb ops[i].b.length 1 (bytesV ops[i].b) ∧ SlRd (Im I) vs ops[i].stay.length 1 (ops[i].stay.map (Value.int .i64)) ∧ (-9223372036854775808 ≤ ops[i].n ∧ ops[i].n ≤ 9223372036854775807) := by
  obtain ⟨A', cap, e, _, h3⟩ := h
  cases e
  rcases h3 with rfl | ⟨b, k, arr, T, fr, rfl, hb, hel⟩
  · cases hi
  · obtain ⟨_, vb, vs, hcs, h1, h2, h3⟩ := hel i _ (List.getElem?_eq_getElem hi)
    have at_ : ∀ (j : Nat) (v : Value), j < 9 → ([.int .i64 ops[i].kind, .int .i64 ops[i].n, .int .i64 ops[i].s.no, .int .i64 ops[i].s.place, .int .i64 ops[i].s.first, .int .i64 ops[i].s.era, .int .i64 ops[i].s.upto, vb, vs] : List Value)[j]? = some v → arr[k + i * 9 + j]? = some v := fun j v hj hv => by
      have := take_cells hcs j v hv hj; rwa [Array.getElem?_toList] at this
    refine ⟨b, k, T, fr, arr, vb, vs, rfl, hb, at_ 0 _ (by decide) rfl, at_ 1 _ (by decide) rfl, ?_, at_ 7 _ (by decide) rfl, at_ 8 _ (by decide) rfl, h1, h2, h3⟩
    have : (((arr.toList.drop (k + i * 9)).take 9).drop 2).take 5 = spV ops[i].s := by rw [hcs]; rfl
    rw [List.drop_take, List.drop_drop, List.take_take] at this
    exact this
/-- What is read, where one sector has the newest. -/
theorem sup8_top {a b : List UInt8} {s : Sp} (hs : 1 ≤ s.no) (ha : decS a = some s) (hb : ∀ t, decS b = some t → t.no < s.no) : sup8 a b = (s, 0) ∧ sup8 b a = (s, 0) := by
  have hne : s.ints ≠ spZ.ints := fun h => by simp [Sp.ints, spZ] at h; omega
  have e1 : upS (upS spZ (decS a)) (decS b) = s := by
    rw [ha]
    have : upS spZ (some s) = s := by show (if (0 : Int) < s.no then s else spZ) = s; rw [if_pos (by omega)]
    rw [this]
    cases hd : decS b with
    | none => rfl
    | some t => have := hb t hd; show (if s.no < t.no then t else s) = s; rw [if_neg (by omega)]
  have e2 : upS (upS spZ (decS b)) (decS a) = s := by
    rw [ha]
    have h0 : (upS spZ (decS b)).no < s.no := by
      cases hd : decS b with
      | none => show (0 : Int) < s.no; omega
      | some t =>
        have := hb t hd
        show (if (0 : Int) < t.no then t else spZ).no < s.no
        split
        · exact this
        · show (0 : Int) < s.no; omega
    show (if _ < s.no then s else _) = s
    rw [if_pos h0]
  unfold sup8
  rw [e1, e2, if_neg (fun h => hne h.1), if_neg (fun h => hne h.1)]
  exact ⟨rfl, rfl⟩
def lane (k : Int) : Nat := (k % 2 * 4).toNat
/-- A disk whose other sector has nothing as new as k. -/
structure Old (x : Dk) (k : Int) : Prop where
  ok : x.ok 8
  off : x.off = false
  left : x.left = -1
  old : ∀ t, decS (sec x.now (4 - lane k)) = some t → t.no < k
theorem lane_cases (k : Int) : (lane k = 0 ∧ lane (k + 1) = 4 ∧ 4 - lane k = 4 ∧ 4 - lane (k + 1) = 0) ∨ (lane k = 4 ∧ lane (k + 1) = 0 ∧ 4 - lane k = 0 ∧ 4 - lane (k + 1) = 4) := by
  unfold lane
  rcases (show k % 2 = 0 ∨ k % 2 = 1 by omega) with h | h
  · exact .inl (by omega)
  · exact .inr (by omega)
theorem lane_int {s : Sp} : s.no % 2 * 4 = ((lane s.no : Nat) : Int) := by unfold lane; omega
theorem Old.new (k : Int) : Old (Dk.new 8) k := ⟨Dk.new_ok (by decide) (by decide), rfl, rfl, fun t h => by
  rcases lane_cases k with ⟨_, _, e, _⟩ | ⟨_, _, e, _⟩ <;> rw [e, new_sec 8 _ (by decide), zero_dec] at h <;> cases h⟩
theorem Old.write {x : Dk} {s : Sp} (h : Old x s.no) (hs : s.may) : x.write 8 (s.no % 2 * 4) (enc s) = (x.write1 (lane s.no) (enc s), 0) := by
  have hp := hs.no
  rw [write_one (n := 8) (x := x) (at_ := s.no % 2 * 4) (bs := enc s) h.off (by rw [h.left]; decide) (by omega) (by omega) (enc_len s)]
  rfl
theorem Old.secs {x : Dk} {s : Sp} (h : Old x s.no) (hs : s.may) : (x.write1 (lane s.no) (enc s)).ok 8 ∧ sec (x.write1 (lane s.no) (enc s)).now (lane s.no) = enc s ∧ sec (x.write1 (lane s.no) (enc s)).now (4 - lane s.no) = sec x.now (4 - lane s.no) := by
  have hlt : lane s.no ≤ 4 := by rcases lane_cases s.no with h | h <;> omega
  have hl := h.ok.ln
  refine ⟨Dk.write1_ok h.ok (enc_len s) (by omega), sec_same (enc_len s) (by rw [hl]; omega), ?_⟩
  exact sec_ne (enc_len s) (Nat.le_refl _) (by rw [hl]; omega) (by rcases lane_cases s.no with h | h <;> omega)
theorem Old.read {x : Dk} {s : Sp} (h : Old x s.no) (hs : s.may) {y : Dk} (hy : y.now = (x.write1 (lane s.no) (enc s)).now) (ho : y.off = false) : supR y 8 = (s, 0) := by
  obtain ⟨_, h1, h2⟩ := h.secs hs
  have hp := hs.no
  have t := sup8_top (a := enc s) (b := sec x.now (4 - lane s.no)) hp.1 (dec_enc hs) h.old
  rw [supR8 ho (by decide), hy]
  rcases lane_cases s.no with ⟨e, _, e2, _⟩ | ⟨e, _, e2, _⟩
  · rw [e2] at h2 t; rw [e] at h1 h2 ⊢
    rw [h1, h2]; exact t.1
  · rw [e2] at h2 t; rw [e] at h1 h2 ⊢
    rw [h1, h2]; exact t.2
theorem Old.next {x : Dk} {s : Sp} (h : Old x s.no) (hs : s.may) {y : Dk} (hok : y.ok 8) (hn : y.now = (x.write1 (lane s.no) (enc s)).now) (ho : y.off = false) (hl : y.left = -1) : Old y (s.no + 1) := by
  obtain ⟨_, h1, h2⟩ := h.secs hs
  refine ⟨hok, ho, hl, fun t ht => ?_⟩
  have e : 4 - lane (s.no + 1) = lane s.no := by rcases lane_cases s.no with h | h <;> omega
  rw [e, hn, h1, dec_enc hs] at ht
  cases ht; omega

end Go.Hp
