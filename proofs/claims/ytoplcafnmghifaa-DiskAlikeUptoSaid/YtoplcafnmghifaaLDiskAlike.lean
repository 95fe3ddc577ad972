/- Where what it reads is of the bulk that the row says, DiskAlike answers true, and the arguments read as they did. -/
import Derived.Test.YtoplcafnmghifaaRows
import Derived.Test.YtoplcafnmghifaaBulk
import Derived.Test.YtoplcafnmghifaaDiskI
import Derived.Deep.CondSized
set_option linter.unusedVariables false
set_option linter.unusedSimpArgs false
namespace Go.Proofs.Ytoplcafnmghifaa.diskAlike
open Go Go.ChangeShapes Go.WideShapes Go.ChangeAt Go.RowKit Go.Hp
open Go.ChangeMaps (open_string shut_string)
theorem own : ownKnob Try.prog.godebug = none := by kernel_rfl
theorem laidOut : laidOutB Try.prog = true := by kernel_rfl
set_option maxRecDepth 100000 in
theorem lifted (os : Os) (started : os.Started) (H : Type) (enc : TypeId × Value → H) (F : Stop.Interp) :
    ReturnsInHanded {} Try.checked os 10 .any ((Rows.OpenSpec.upto Rows.diskAlikeSpec).pre6 enc Try.prog Try.f10 Rows.diskAlikeUptoRow.domain false) (((Rows.OpenSpec.upto Rows.diskAlikeSpec).at F).post enc Try.prog Try.f10 false true false false) := by
  refine returnsInHanded_of_cond_sized (C := Try.checked) (s := Rows.OpenSpec.upto Rows.diskAlikeSpec) (k := Rows.uptoSmall) rfl own started (by kernel_rfl) Try.func10
    (OpenSpec.witness (enc := enc) (C := Try.checked) (s := Rows.OpenSpec.upto Rows.diskAlikeSpec) (k := Rows.uptoSmall) rfl false ⟨#[], #[.slice none 0 0], []⟩ 8 (by kernel_rfl) (by kernel_rfl) (by kernel_rfl) (x := ([.nil], [], [])) (by kernel_rfl) rfl (by kernel_rfl)) ?_
  intro W base args ds gs before hval0 hW hcnd hk hsz0 _
  have hsz : (DataW.weightsEach Try.prog (Try.f10.params.toList ++ Rows.diskAlikeSpec.plain.varTypes Try.prog) (ds ++ gs)).all (· ≤ reachBytes) = true := hsz0
  have hval : ∀ (j : Nat) t v, Try.f10.params[j]? = some t → args[j]? = some v → Value.okWide Try.prog W .any base t v := hval0
  have hW' := hW
  obtain ⟨p, q, hA0, hV, rfl, hfz, hnd⟩ := hW
  have hA : DataW.TrodAll enc Try.prog W 0 (fun _ => true) true Try.f10.params.toList args.toList ds p := hA0
  rw [Try.params10] at hA hval hsz
  obtain ⟨v0, vs0, d0, ds0, p0, q0, hargs, rfl, rfl, h0, r0⟩ := trodAll_cons hA
  obtain ⟨rfl, rfl, rfl⟩ := trodAll_nil r0
  obtain rfl : args = #[v0] := by cases args; simp_all
  obtain ⟨rfl, rfl⟩ := trodVars_none hV
  obtain ⟨a0, len0, cap0, rfl⟩ := okWide_slice Try.underlying44 (hval 0 44 v0 rfl rfl)
  have k0 := h0
  have lt0 : ∀ x ∈ p0, x.block < W.heap.size := by obtain ⟨m, hm⟩ := k0; exact DataW.trod_lt m _ _ _ hm
  obtain ⟨fuel0, hf0⟩ := h0
  obtain ⟨u0, z0, hcs0, S0, D0⟩ := open_slc (RDop (immOf W)) DDop Try.underlying44 (sz := 5) (by kernel_rfl) (by decide) elem_dop hf0
  obtain rfl : u0 = .slice a0 len0 cap0 := by simpa [Value.cells] using hcs0.symm
  have y0 : z0.length * 72 ≤ 140737488351232 := by
    rcases D0 with ⟨_, rfl⟩ | ⟨es, rest, hx, hl, _⟩
    · simp
    · have q := sized_slice hsz (j := 0) (t := 44) (e := 53) (elems := es) (spare := rest) rfl (by simp only [List.cons_append, List.nil_append, List.append_nil] at *; simp_all) Try.underlying44
      rw [show Try.prog.bytesOf 53 = 72 by kernel_rfl] at q
      have q2 : z0.length * 72 ≤ reachBytes := Nat.le_trans (Nat.mul_le_mul_right _ (by omega)) q
      exact q2
  have b0 : z0.length ≤ 1048576 ∧ (∀ o ∈ z0, ∃ d : DataW H, DDop o d ∧ Rows.uptoBulk d ≤ 1048576) := by
    have t2 : Rows.uptoBulk d0 ≤ 1048576 := Nat.le_trans (bulks.part_le (d := d0) (by simp)) (bulks.bound hk)
    rcases D0 with ⟨_, rfl⟩ | ⟨es, rest, hx, hl, hD⟩
    · simp
    · have hx' : d0 = .slice es rest := hx
      rw [hx'] at t2
      have t3 := bulks.slice_le es rest
      have t4 := bulks.slice_elems es rest
      refine ⟨by omega, fun o ho => ?_⟩
      obtain ⟨j, hj, rfl⟩ := List.getElem_of_mem ho
      obtain ⟨d, hd1, hd2⟩ := hD j _ (List.getElem?_eq_getElem hj)
      have t5 := bulks.part_le (List.mem_of_getElem? hd1)
      exact ⟨d, hd2, by omega⟩
  clear hA0 hval0 hsz0 hsz
  refine (Spec.top (disk_DiskAlike S0 b0.1 (fun o ho => by obtain ⟨d, h1, h2⟩ := b0.2 o ho; exact Nat.le_trans h1.1 h2)) (fun _ _ _ h => h.1)).mono fun e W' ⟨he, bel⟩ => ?_
  subst he
  exact ⟨_, rfl, _, _, _, [], _, [], hW', trodAll_mk1 (shut_bool Try.underlying4 _), (trodAll_cons_mk (Below.trod laidOut (by kernel_rfl) (of_decide_eq_true (by kernel_rfl)) k0 bel lt0) trodAll_mk0), rfl, bel.frame _, fun h => by cases h⟩
theorem over : Rows.diskAlikeUptoRow.holds Try.pinned (Rows.OpenSpec.upto Rows.diskAlikeSpec) :=
  OpenClaim.holds_of_cond 10 Try.f10 rfl rfl rfl rfl rfl rfl rfl ⟨rfl, rfl, rfl, rfl, rfl⟩ rfl rfl rfl rfl rfl (by kernel_rfl) Try.func10 (by kernel_rfl)
    (of_decide_eq_true (by kernel_rfl)) (by unfold Func.isWrapper; first | (rw [if_pos (by decide +kernel)]; kernel_rfl) | (rw [if_neg (by decide +kernel)]; exact ⟨rfl, rfl⟩))
    (fun os started H enc _ F => lifted os started H enc F)
theorem proved : Rows.DiskAlikeUptoSaid := over
end Go.Proofs.Ytoplcafnmghifaa.diskAlike
namespace Go.Proofs.Ytoplcafnmghifaa
theorem diskAlikeUpto_holds : Rows.DiskAlikeUptoSaid := diskAlike.proved
end Go.Proofs.Ytoplcafnmghifaa
#print axioms Go.Proofs.Ytoplcafnmghifaa.diskAlikeUpto_holds
