/- CheckForms answers true, and the arguments read as they did. -/
import Derived.Test.YtgcbhbcmohcdpaaGreatRows
import Derived.Test.YtgcbhbcmohcdpaaGreatChkM
set_option linter.unusedVariables false
set_option linter.unusedSimpArgs false
namespace Go.Proofs.YtgcbhbcmohcdpaaGreat.checkForms
open Go Go.ChangeShapes Go.WideShapes Go.ChangeAt Go.RowKit Go.Hp
open Go.ChangeMaps (open_string shut_string)
theorem own : ownKnob Tryz.prog.godebug = none := by kernel_rfl
theorem laidOut : laidOutB Tryz.prog = true := by kernel_rfl
set_option maxRecDepth 100000 in
theorem lifted (os : Os) (started : os.Started) (H : Type) (enc : TypeId × Value → H) :
    ReturnsInHanded {} Tryz.checked os 3 .any (Rows.checkFormsSpec.pre6 enc Tryz.prog Tryz.f3 Rows.checkFormsRow.domain false) (Rows.checkFormsSpec.post enc Tryz.prog Tryz.f3 false true false false) := by
  refine returnsInHanded_of_change_sized (C := Tryz.checked) own started (by kernel_rfl) Tryz.func3
    (ChangeSpec.witness6 (enc := enc) (C := Tryz.checked) false ⟨#[], #[.agg #[.int .i64 0, .int .i64 0, .int .i64 0, .int .i64 0, .slice none 0 0], .slice none 0 0], []⟩ 8 (by kernel_rfl) (by kernel_rfl) (by kernel_rfl) (by kernel_rfl)) ?_
  intro W base args ds gs before hval0 hW hcnd hsz0 _
  have hsz : (DataW.weightsEach Tryz.prog (Tryz.f3.params.toList ++ Rows.checkFormsSpec.plain.varTypes Tryz.prog) (ds ++ gs)).all (· ≤ reachBytes) = true := hsz0
  have hval : ∀ (j : Nat) t v, Tryz.f3.params[j]? = some t → args[j]? = some v → Value.okWide Tryz.prog W .any base t v := hval0
  have hW' := hW
  obtain ⟨p, q, hA0, hV, rfl, hfz, hnd⟩ := hW
  have hA : DataW.TrodAll enc Tryz.prog W 0 (fun _ => true) true Tryz.f3.params.toList args.toList ds p := hA0
  rw [Tryz.params3] at hA hval hsz
  obtain ⟨v0, vs0, d0, ds0, p0, q0, hargs, rfl, rfl, h0, r0⟩ := trodAll_cons hA
  obtain ⟨v1, vs1, d1, ds1, p1, q1, rfl, rfl, rfl, h1, r1⟩ := trodAll_cons r0
  obtain ⟨rfl, rfl, rfl⟩ := trodAll_nil r1
  obtain rfl : args = #[v0, v1] := by cases args; simp_all
  obtain ⟨rfl, rfl⟩ := trodVars_none hV
  obtain ⟨c0, rfl, hc0⟩ := okWide_struct Tryz.underlying24 (hval 0 24 v0 rfl rfl)
  have k0 := h0
  have lt0 : ∀ x ∈ p0, x.block < W.heap.size := by obtain ⟨m, hm⟩ := k0; exact DataW.trod_lt m _ _ _ hm
  obtain ⟨fuel0, hf0⟩ := h0
  have hl0 : (Value.agg c0).cells.toList.length = 5 := by rw [show (Value.agg c0).cells = c0 from rfl, Array.length_toList, hc0]; kernel_rfl
  obtain ⟨z0, hz0, D0⟩ := elem_ck fuel0 _ _ hf0 hl0
  obtain ⟨va0, hva0, hvb0⟩ := hz0
  obtain rfl : c0 = (kV z0 va0).toArray := by have := hva0; simp only [show (Value.agg c0).cells = c0 from rfl] at this; rw [← this]
  obtain ⟨a1, len1, cap1, rfl⟩ := okWide_slice Tryz.underlying25 (hval 1 25 v1 rfl rfl)
  have k1 := h1
  have lt1 : ∀ x ∈ p1, x.block < W.heap.size := by obtain ⟨m, hm⟩ := k1; exact DataW.trod_lt m _ _ _ hm
  obtain ⟨fuel1, hf1⟩ := h1
  obtain ⟨u1, z1, hcs1, S1, D1⟩ := open_slc RB (fun _ _ => True) Tryz.underlying25 (sz := 1) (by kernel_rfl) (by decide) (elem_byte (by kernel_rfl)) hf1
  obtain rfl : u1 = .slice a1 len1 cap1 := by simpa [Value.cells] using hcs1.symm
  have y1 : z1.length * 1 ≤ 140737488351232 := by
    rcases D1 with ⟨_, rfl⟩ | ⟨es, rest, hx, hl, _⟩
    · simp
    · have q := sized_slice hsz (j := 1) (t := 25) (e := 5) (elems := es) (spare := rest) rfl (by simp only [List.cons_append, List.nil_append, List.append_nil] at *; simp_all) Tryz.underlying25
      rw [show Tryz.prog.bytesOf 5 = 1 by kernel_rfl] at q
      have q2 : z1.length * 1 ≤ reachBytes := Nat.le_trans (Nat.mul_le_mul_right _ (by omega)) q
      exact q2
  clear hA0 hval0 hsz0 hsz
  refine (Spec.top (chk_CheckForms (c := z0) hvb0 (Slc.bytes S1) (by omega)) (fun _ _ _ h => h.1)).mono fun e W' ⟨he, bel⟩ => ?_; subst he
  exact ⟨_, rfl, _, _, _, [], _, [], hW', trodAll_mk1 (shut_bool Tryz.underlying4 _), (trodAll_cons_mk (Below.trod laidOut (by kernel_rfl) (of_decide_eq_true (by kernel_rfl)) k0 bel lt0) (trodAll_cons_mk (Below.trod laidOut (by kernel_rfl) (of_decide_eq_true (by kernel_rfl)) k1 bel lt1) trodAll_mk0)), rfl, bel.frame _, fun h => by cases h⟩
theorem over : Rows.checkFormsRow.holds Tryz.pinned (OpenSpec.ofChange Rows.checkFormsSpec) :=
  OpenClaim.holds_of_wide 3 Tryz.f3 rfl rfl rfl rfl rfl rfl rfl ⟨rfl, rfl, rfl, rfl, rfl⟩ rfl rfl rfl rfl rfl (by kernel_rfl) Tryz.func3 (by kernel_rfl)
    (of_decide_eq_true (by kernel_rfl)) (by unfold Func.isWrapper; first | (rw [if_pos (by decide +kernel)]; kernel_rfl) | (rw [if_neg (by decide +kernel)]; exact ⟨rfl, rfl⟩))
    (fun os started H enc _ => lifted os started H enc)
theorem proved : Rows.CheckFormsSaid := over
end Go.Proofs.YtgcbhbcmohcdpaaGreat.checkForms
namespace Go.Proofs.YtgcbhbcmohcdpaaGreat
theorem checkForms_holds : Rows.CheckFormsSaid := checkForms.proved
end Go.Proofs.YtgcbhbcmohcdpaaGreat
#print axioms Go.Proofs.YtgcbhbcmohcdpaaGreat.checkForms_holds
