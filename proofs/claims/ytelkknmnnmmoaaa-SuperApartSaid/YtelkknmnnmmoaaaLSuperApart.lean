/- SuperApart answers true, and the arguments read as they did. -/
import Derived.Test.YtelkknmnnmmoaaaRows
import Derived.Test.YtelkknmnnmmoaaaSupK
set_option linter.unusedVariables false
set_option linter.unusedSimpArgs false
namespace Go.Proofs.Ytelkknmnnmmoaaa.superApart
open Go Go.ChangeShapes Go.WideShapes Go.ChangeAt Go.RowKit Go.Hp
open Go.ChangeMaps (open_string shut_string)
theorem own : ownKnob Try.prog.godebug = none := by kernel_rfl
theorem laidOut : laidOutB Try.prog = true := by kernel_rfl
set_option maxRecDepth 100000 in
theorem lifted (os : Os) (started : os.Started) (H : Type) (enc : TypeId × Value → H) :
    ReturnsInHanded {} Try.checked os 4 .any (Rows.superApartSpec.pre6 enc Try.prog Try.f4 Rows.superApartRow.domain false) (Rows.superApartSpec.post enc Try.prog Try.f4 false true false false) := by
  refine returnsInHanded_of_change_sized (C := Try.checked) own started (by kernel_rfl) Try.func4
    (ChangeSpec.witness6 (enc := enc) (C := Try.checked) false ⟨#[], #[.slice none 0 0, .agg #[.int .i64 0, .int .i64 0, .int .i64 0, .int .i64 0, .int .i64 0]], []⟩ 8 (by kernel_rfl) (by kernel_rfl) (by kernel_rfl) (by kernel_rfl)) ?_
  intro W base args ds gs before hval0 hW hcnd hsz0 _
  have hsz : (DataW.weightsEach Try.prog (Try.f4.params.toList ++ Rows.superApartSpec.plain.varTypes Try.prog) (ds ++ gs)).all (· ≤ reachBytes) = true := hsz0
  have hval : ∀ (j : Nat) t v, Try.f4.params[j]? = some t → args[j]? = some v → Value.okWide Try.prog W .any base t v := hval0
  have hW' := hW
  obtain ⟨p, q, hA0, hV, rfl, hfz, hnd⟩ := hW
  have hA : DataW.TrodAll enc Try.prog W 0 (fun _ => true) true Try.f4.params.toList args.toList ds p := hA0
  rw [Try.params4] at hA hval hsz
  obtain ⟨v0, vs0, d0, ds0, p0, q0, hargs, rfl, rfl, h0, r0⟩ := trodAll_cons hA
  obtain ⟨v1, vs1, d1, ds1, p1, q1, rfl, rfl, rfl, h1, r1⟩ := trodAll_cons r0
  obtain ⟨rfl, rfl, rfl⟩ := trodAll_nil r1
  obtain rfl : args = #[v0, v1] := by cases args; simp_all
  obtain ⟨rfl, rfl⟩ := trodVars_none hV
  obtain ⟨a0, len0, cap0, rfl⟩ := okWide_slice Try.underlying24 (hval 0 24 v0 rfl rfl)
  have k0 := h0
  have lt0 : ∀ x ∈ p0, x.block < W.heap.size := by obtain ⟨m, hm⟩ := k0; exact DataW.trod_lt m _ _ _ hm
  obtain ⟨fuel0, hf0⟩ := h0
  obtain ⟨u0, z0, hcs0, S0, D0⟩ := open_slc RB (fun _ _ => True) Try.underlying24 (sz := 1) (by kernel_rfl) (by decide) (elem_byte (by kernel_rfl)) hf0
  obtain rfl : u0 = .slice a0 len0 cap0 := by simpa [Value.cells] using hcs0.symm
  have y0 : z0.length * 1 ≤ 140737488351232 := by
    rcases D0 with ⟨_, rfl⟩ | ⟨es, rest, hx, hl, _⟩
    · simp
    · have q := sized_slice hsz (j := 0) (t := 24) (e := 5) (elems := es) (spare := rest) rfl (by simp only [List.cons_append, List.nil_append, List.append_nil] at *; simp_all) Try.underlying24
      rw [show Try.prog.bytesOf 5 = 1 by kernel_rfl] at q
      have q2 : z0.length * 1 ≤ reachBytes := Nat.le_trans (Nat.mul_le_mul_right _ (by omega)) q
      exact q2
  obtain ⟨c1, rfl, hc1⟩ := okWide_struct Try.underlying23 (hval 1 23 v1 rfl rfl)
  have k1 := h1
  have lt1 : ∀ x ∈ p1, x.block < W.heap.size := by obtain ⟨m, hm⟩ := k1; exact DataW.trod_lt m _ _ _ hm
  obtain ⟨fuel1, hf1⟩ := h1
  have hl1 : (Value.agg c1).cells.toList.length = 5 := by rw [show (Value.agg c1).cells = c1 from rfl, Array.length_toList, hc1]; kernel_rfl
  obtain ⟨zz1, hz11, hz21, _⟩ := elem_i64s (m := 5) (by kernel_rfl) fuel1 _ _ hf1 hl1
  obtain ⟨q1_0, q1_1, q1_2, q1_3, q1_4, rfl⟩ : ∃ q1_0 q1_1 q1_2 q1_3 q1_4, zz1 = [q1_0, q1_1, q1_2, q1_3, q1_4] := by match zz1, hz11 with | [r0, r1, r2, r3, r4], _ => exact ⟨_, _, _, _, _, rfl⟩
  obtain rfl : c1 = #[.int .i64 q1_0, .int .i64 q1_1, .int .i64 q1_2, .int .i64 q1_3, .int .i64 q1_4] := by have := hz21; simp only [show (Value.agg c1).cells = c1 from rfl] at this; cases c1; simp_all
  clear hA0 hval0 hsz0 hsz
  refine (Spec.top (super_Apart (s := ⟨q1_0, q1_1, q1_2, q1_3, q1_4⟩) (Slc.bytes S0)) (fun _ _ _ h => h.1)).mono fun e W' ⟨he, bel⟩ => ?_
  subst he
  exact ⟨_, rfl, _, _, _, [], _, [], hW', trodAll_mk1 (shut_bool Try.underlying4 _), (trodAll_cons_mk (Below.trod laidOut (by kernel_rfl) (of_decide_eq_true (by kernel_rfl)) k0 bel lt0) (trodAll_cons_mk (Below.trod laidOut (by kernel_rfl) (of_decide_eq_true (by kernel_rfl)) k1 bel lt1) trodAll_mk0)), rfl, bel.frame _, fun h => by cases h⟩
theorem over : Rows.superApartRow.holds Try.pinned (OpenSpec.ofChange Rows.superApartSpec) :=
  OpenClaim.holds_of_wide 4 Try.f4 rfl rfl rfl rfl rfl rfl rfl ⟨rfl, rfl, rfl, rfl, rfl⟩ rfl rfl rfl rfl rfl (by kernel_rfl) Try.func4 (by kernel_rfl)
    (of_decide_eq_true (by kernel_rfl)) (by unfold Func.isWrapper; first | (rw [if_pos (by decide +kernel)]; kernel_rfl) | (rw [if_neg (by decide +kernel)]; exact ⟨rfl, rfl⟩))
    (fun os started H enc _ => lifted os started H enc)
theorem proved : Rows.SuperApartSaid := over
end Go.Proofs.Ytelkknmnnmmoaaa.superApart
namespace Go.Proofs.Ytelkknmnnmmoaaa
theorem superApart_holds : Rows.SuperApartSaid := superApart.proved
end Go.Proofs.Ytelkknmnnmmoaaa
#print axioms Go.Proofs.Ytelkknmnnmmoaaa.superApart_holds
