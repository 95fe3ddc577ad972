/- Whatever the input, DiskCut answers true, and the arguments read as they did. -/
import Derived.Test.YtoplcafnmghifaaRows
import Derived.Test.YtoplcafnmghifaaDiskG
set_option linter.unusedVariables false
set_option linter.unusedSimpArgs false
namespace Go.Proofs.Ytoplcafnmghifaa.diskCut
open Go Go.ChangeShapes Go.WideShapes Go.ChangeAt Go.RowKit Go.Hp
open Go.ChangeMaps (open_string shut_string)
theorem own : ownKnob Try.prog.godebug = none := by kernel_rfl
theorem laidOut : laidOutB Try.prog = true := by kernel_rfl
set_option maxRecDepth 100000 in
theorem lifted (os : Os) (started : os.Started) (H : Type) (enc : TypeId × Value → H) :
    ReturnsInHanded {} Try.checked os 9 .any (Rows.diskCutSpec.pre6 enc Try.prog Try.f9 Rows.diskCutRow.domain false) (Rows.diskCutSpec.post enc Try.prog Try.f9 false true false false) := by
  refine returnsInHanded_of_change_sized (C := Try.checked) own started (by kernel_rfl) Try.func9
    (ChangeSpec.witness6 (enc := enc) (C := Try.checked) false ⟨#[], #[.int .i64 0, .int .i64 0, .slice none 0 0], []⟩ 8 (by kernel_rfl) (by kernel_rfl) (by kernel_rfl) (by kernel_rfl)) ?_
  intro W base args ds gs before hval0 hW hcnd hsz0 _
  have hsz : (DataW.weightsEach Try.prog (Try.f9.params.toList ++ Rows.diskCutSpec.plain.varTypes Try.prog) (ds ++ gs)).all (· ≤ reachBytes) = true := hsz0
  have hval : ∀ (j : Nat) t v, Try.f9.params[j]? = some t → args[j]? = some v → Value.okWide Try.prog W .any base t v := hval0
  have hW' := hW
  obtain ⟨p, q, hA0, hV, rfl, hfz, hnd⟩ := hW
  have hA : DataW.TrodAll enc Try.prog W 0 (fun _ => true) true Try.f9.params.toList args.toList ds p := hA0
  rw [Try.params9] at hA hval hsz
  obtain ⟨v0, vs0, d0, ds0, p0, q0, hargs, rfl, rfl, h0, r0⟩ := trodAll_cons hA
  obtain ⟨v1, vs1, d1, ds1, p1, q1, rfl, rfl, rfl, h1, r1⟩ := trodAll_cons r0
  obtain ⟨v2, vs2, d2, ds2, p2, q2, rfl, rfl, rfl, h2, r2⟩ := trodAll_cons r1
  obtain ⟨rfl, rfl, rfl⟩ := trodAll_nil r2
  obtain rfl : args = #[v0, v1, v2] := by cases args; simp_all
  obtain ⟨rfl, rfl⟩ := trodVars_none hV
  obtain ⟨a0, rfl, rfl, rfl, w0⟩ := open_int Try.underlying3 (hval 0 3 v0 rfl rfl) h0
  obtain ⟨a1, rfl, rfl, rfl, w1⟩ := open_int Try.underlying3 (hval 1 3 v1 rfl rfl) h1
  obtain ⟨a2, len2, cap2, rfl⟩ := okWide_slice Try.underlying51 (hval 2 51 v2 rfl rfl)
  have k2 := h2
  have lt2 : ∀ x ∈ p2, x.block < W.heap.size := by obtain ⟨m, hm⟩ := k2; exact DataW.trod_lt m _ _ _ hm
  obtain ⟨fuel2, hf2⟩ := h2
  obtain ⟨u2, z2, hcs2, S2, D2⟩ := open_slc RB (fun _ _ => True) Try.underlying51 (sz := 1) (by kernel_rfl) (by decide) (elem_byte (by kernel_rfl)) hf2
  obtain rfl : u2 = .slice a2 len2 cap2 := by simpa [Value.cells] using hcs2.symm
  have y2 : z2.length * 1 ≤ 140737488351232 := by
    rcases D2 with ⟨_, rfl⟩ | ⟨es, rest, hx, hl, _⟩
    · simp
    · have q := sized_slice hsz (j := 2) (t := 51) (e := 5) (elems := es) (spare := rest) rfl (by simp only [List.cons_append, List.nil_append, List.append_nil] at *; simp_all) Try.underlying51
      rw [show Try.prog.bytesOf 5 = 1 by kernel_rfl] at q
      have q2 : z2.length * 1 ≤ reachBytes := Nat.le_trans (Nat.mul_le_mul_right _ (by omega)) q
      exact q2
  clear hA0 hval0 hsz0 hsz
  refine (Spec.top (disk_DiskCut (after := a0) (at_ := a1) (wf_le w0) (by omega) (Slc.bytes S2)) (fun _ _ _ h => h.1)).mono fun e W' ⟨he, bel⟩ => ?_
  subst he
  exact ⟨_, rfl, _, _, _, [], _, [], hW', trodAll_mk1 (shut_bool Try.underlying4 _), (trodAll_cons_mk (shut_int Try.underlying3 w0) (trodAll_cons_mk (shut_int Try.underlying3 w1) (trodAll_cons_mk (Below.trod laidOut (by kernel_rfl) (of_decide_eq_true (by kernel_rfl)) k2 bel lt2) trodAll_mk0))), rfl, bel.frame _, fun h => by cases h⟩
theorem over : Rows.diskCutRow.holds Try.pinned (OpenSpec.ofChange Rows.diskCutSpec) :=
  OpenClaim.holds_of_wide 9 Try.f9 rfl rfl rfl rfl rfl rfl rfl ⟨rfl, rfl, rfl, rfl, rfl⟩ rfl rfl rfl rfl rfl (by kernel_rfl) Try.func9 (by kernel_rfl)
    (of_decide_eq_true (by kernel_rfl)) (by unfold Func.isWrapper; first | (rw [if_pos (by decide +kernel)]; kernel_rfl) | (rw [if_neg (by decide +kernel)]; exact ⟨rfl, rfl⟩))
    (fun os started H enc _ => lifted os started H enc)
theorem proved : Rows.DiskCutSaid := over
end Go.Proofs.Ytoplcafnmghifaa.diskCut
namespace Go.Proofs.Ytoplcafnmghifaa
theorem diskCut_holds : Rows.DiskCutSaid := diskCut.proved
end Go.Proofs.Ytoplcafnmghifaa
#print axioms Go.Proofs.Ytoplcafnmghifaa.diskCut_holds
