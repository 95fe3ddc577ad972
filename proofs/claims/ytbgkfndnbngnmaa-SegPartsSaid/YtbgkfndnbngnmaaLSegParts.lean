/- SegParts answers true, and the arguments read as they did. -/
import Derived.Test.YtbgkfndnbngnmaaRows
import Derived.Test.YtbgkfndnbngnmaaSegZZ
set_option linter.unusedVariables false
set_option linter.unusedSimpArgs false
namespace Go.Proofs.Ytbgkfndnbngnmaa.segParts
open Go Go.ChangeShapes Go.WideShapes Go.ChangeAt Go.RowKit Go.Hp
open Go.ChangeMaps (open_string shut_string)
theorem own : ownKnob Try.prog.godebug = none := by kernel_rfl
theorem laidOut : laidOutB Try.prog = true := by kernel_rfl
set_option maxRecDepth 100000 in
theorem lifted (os : Os) (started : os.Started) (H : Type) (enc : TypeId × Value → H) :
    ReturnsInHanded {} Try.checked os 3 .any (Rows.segPartsSpec.pre6 enc Try.prog Try.f3 Rows.segPartsRow.domain false) (Rows.segPartsSpec.post enc Try.prog Try.f3 false true false false) := by
  refine returnsInHanded_of_change_sized (C := Try.checked) own started (by kernel_rfl) Try.func3
    (ChangeSpec.witness6 (enc := enc) (C := Try.checked) false ⟨#[], #[.int .i64 0, .int .i64 0, .int .i64 0, .slice none 0 0, .slice none 0 0], []⟩ 8 (by kernel_rfl) (by kernel_rfl) (by kernel_rfl) (by kernel_rfl)) ?_
  intro W base args ds gs before hval0 hW hcnd hsz0 _
  have hsz : (DataW.weightsEach Try.prog (Try.f3.params.toList ++ Rows.segPartsSpec.plain.varTypes Try.prog) (ds ++ gs)).all (· ≤ reachBytes) = true := hsz0
  have hval : ∀ (j : Nat) t v, Try.f3.params[j]? = some t → args[j]? = some v → Value.okWide Try.prog W .any base t v := hval0
  have hW' := hW
  obtain ⟨p, q, hA0, hV, rfl, hfz, hnd⟩ := hW
  have hA : DataW.TrodAll enc Try.prog W 0 (fun _ => true) true Try.f3.params.toList args.toList ds p := hA0
  rw [Try.params3] at hA hval hsz
  obtain ⟨v0, vs0, d0, ds0, p0, q0, hargs, rfl, rfl, h0, r0⟩ := trodAll_cons hA
  obtain ⟨v1, vs1, d1, ds1, p1, q1, rfl, rfl, rfl, h1, r1⟩ := trodAll_cons r0
  obtain ⟨v2, vs2, d2, ds2, p2, q2, rfl, rfl, rfl, h2, r2⟩ := trodAll_cons r1
  obtain ⟨v3, vs3, d3, ds3, p3, q3, rfl, rfl, rfl, h3, r3⟩ := trodAll_cons r2
  obtain ⟨v4, vs4, d4, ds4, p4, q4, rfl, rfl, rfl, h4, r4⟩ := trodAll_cons r3
  obtain ⟨rfl, rfl, rfl⟩ := trodAll_nil r4
  obtain rfl : args = #[v0, v1, v2, v3, v4] := by cases args; simp_all
  obtain ⟨rfl, rfl⟩ := trodVars_none hV
  obtain ⟨a0, rfl, rfl, rfl, w0⟩ := open_int Try.underlying3 (hval 0 3 v0 rfl rfl) h0
  obtain ⟨a1, rfl, rfl, rfl, w1⟩ := open_int Try.underlying3 (hval 1 3 v1 rfl rfl) h1
  obtain ⟨a2, rfl, rfl, rfl, w2⟩ := open_int Try.underlying3 (hval 2 3 v2 rfl rfl) h2
  obtain ⟨a3, len3, cap3, rfl⟩ := okWide_slice Try.underlying22 (hval 3 22 v3 rfl rfl)
  have k3 := h3
  have lt3 : ∀ x ∈ p3, x.block < W.heap.size := by obtain ⟨m, hm⟩ := k3; exact DataW.trod_lt m _ _ _ hm
  obtain ⟨fuel3, hf3⟩ := h3
  obtain ⟨u3, z3, hcs3, S3, D3⟩ := open_slc RB (fun _ _ => True) Try.underlying22 (sz := 1) (by kernel_rfl) (by decide) (elem_byte (by kernel_rfl)) hf3
  obtain rfl : u3 = .slice a3 len3 cap3 := by simpa [Value.cells] using hcs3.symm
  have y3 : z3.length * 1 ≤ 140737488351232 := by
    rcases D3 with ⟨_, rfl⟩ | ⟨es, rest, hx, hl, _⟩
    · simp
    · have q := sized_slice hsz (j := 3) (t := 22) (e := 5) (elems := es) (spare := rest) rfl (by simp only [List.cons_append, List.nil_append, List.append_nil] at *; simp_all) Try.underlying22
      rw [show Try.prog.bytesOf 5 = 1 by kernel_rfl] at q
      have q2 : z3.length * 1 ≤ reachBytes := Nat.le_trans (Nat.mul_le_mul_right _ (by omega)) q
      exact q2
  obtain ⟨a4, len4, cap4, rfl⟩ := okWide_slice Try.underlying23 (hval 4 23 v4 rfl rfl)
  have k4 := h4
  have lt4 : ∀ x ∈ p4, x.block < W.heap.size := by obtain ⟨m, hm⟩ := k4; exact DataW.trod_lt m _ _ _ hm
  obtain ⟨fuel4, hf4⟩ := h4
  obtain ⟨u4, z4, hcs4, S4, D4⟩ := open_slc (RPP (immOf W)) (fun (_ : Pt × Value) (_ : DataW H) => True) Try.underlying23 (sz := 6) (by kernel_rfl) (by decide) elem_ptp hf4
  obtain rfl : u4 = .slice a4 len4 cap4 := by simpa [Value.cells] using hcs4.symm
  have y4 : z4.length * 64 ≤ 140737488351232 := by
    rcases D4 with ⟨_, rfl⟩ | ⟨es, rest, hx, hl, _⟩
    · simp
    · have q := sized_slice hsz (j := 4) (t := 23) (e := 35) (elems := es) (spare := rest) rfl (by simp only [List.cons_append, List.nil_append, List.append_nil] at *; simp_all) Try.underlying23
      rw [show Try.prog.bytesOf 35 = 64 by kernel_rfl] at q
      have q2 : z4.length * 64 ≤ reachBytes := Nat.le_trans (Nat.mul_le_mul_right _ (by omega)) q
      exact q2
  clear hA0 hval0 hsz0 hsz
  refine (Spec.top (seg_SegParts (no := a0) (place := a1) (era := a2) (Slc.bytes S3) (by omega) (by simp [Lit.wf, IntKind.min, IntKind.max, IntKind.bits, IntKind.signed] at w0; omega) (by simp [Lit.wf, IntKind.min, IntKind.max, IntKind.bits, IntKind.signed] at w1; omega) (Slc.parts S4) (by omega)) (fun _ _ _ h => h.1)).mono fun e W' ⟨he, bel⟩ => ?_
  subst he
  exact ⟨_, rfl, _, _, _, [], _, [], hW', trodAll_mk1 (shut_bool Try.underlying4 _), (trodAll_cons_mk (shut_int Try.underlying3 w0) (trodAll_cons_mk (shut_int Try.underlying3 w1) (trodAll_cons_mk (shut_int Try.underlying3 w2) (trodAll_cons_mk (Below.trod laidOut (by kernel_rfl) (of_decide_eq_true (by kernel_rfl)) k3 bel lt3) (trodAll_cons_mk (Below.trod laidOut (by kernel_rfl) (of_decide_eq_true (by kernel_rfl)) k4 bel lt4) trodAll_mk0))))), rfl, bel.frame _, fun h => by cases h⟩
theorem over : Rows.segPartsRow.holds Try.pinned (OpenSpec.ofChange Rows.segPartsSpec) :=
  OpenClaim.holds_of_wide 3 Try.f3 rfl rfl rfl rfl rfl rfl rfl ⟨rfl, rfl, rfl, rfl, rfl⟩ rfl rfl rfl rfl rfl (by kernel_rfl) Try.func3 (by kernel_rfl)
    (of_decide_eq_true (by kernel_rfl)) (by unfold Func.isWrapper; first | (rw [if_pos (by decide +kernel)]; kernel_rfl) | (rw [if_neg (by decide +kernel)]; exact ⟨rfl, rfl⟩))
    (fun os started H enc _ => lifted os started H enc)
theorem proved : Rows.SegPartsSaid := over
end Go.Proofs.Ytbgkfndnbngnmaa.segParts
namespace Go.Proofs.Ytbgkfndnbngnmaa
theorem segParts_holds : Rows.SegPartsSaid := segParts.proved
end Go.Proofs.Ytbgkfndnbngnmaa
#print axioms Go.Proofs.Ytbgkfndnbngnmaa.segParts_holds
