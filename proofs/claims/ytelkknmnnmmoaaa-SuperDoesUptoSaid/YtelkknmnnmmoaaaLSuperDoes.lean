/- Where what it reads is of the bulk that the row says, SuperDoes answers true, and the arguments read as they did. -/
import Derived.Test.YtelkknmnnmmoaaaRows
import Derived.Test.YtelkknmnnmmoaaaBulk
import Derived.Test.YtelkknmnnmmoaaaSupV
import Derived.Deep.CondSized
set_option linter.unusedVariables false
set_option linter.unusedSimpArgs false
namespace Go.Proofs.Ytelkknmnnmmoaaa.superDoes
open Go Go.ChangeShapes Go.WideShapes Go.ChangeAt Go.RowKit Go.Hp
open Go.ChangeMaps (open_string shut_string)
theorem own : ownKnob Try.prog.godebug = none := by kernel_rfl
theorem laidOut : laidOutB Try.prog = true := by kernel_rfl
set_option maxRecDepth 100000 in
theorem lifted (os : Os) (started : os.Started) (H : Type) (enc : TypeId × Value → H) (F : Stop.Interp) :
    ReturnsInHanded {} Try.checked os 7 .any ((Rows.OpenSpec.upto Rows.superDoesSpec).pre6 enc Try.prog Try.f7 Rows.superDoesUptoRow.domain false) (((Rows.OpenSpec.upto Rows.superDoesSpec).at F).post enc Try.prog Try.f7 false true false false) := by
  refine returnsInHanded_of_cond_sized (C := Try.checked) (s := Rows.OpenSpec.upto Rows.superDoesSpec) (k := Rows.uptoSmall) rfl own started (by kernel_rfl) Try.func7
    (OpenSpec.witness (enc := enc) (C := Try.checked) (s := Rows.OpenSpec.upto Rows.superDoesSpec) (k := Rows.uptoSmall) rfl false ⟨#[], #[.int .i64 0, .slice none 0 0], []⟩ 8 (by kernel_rfl) (by kernel_rfl) (by kernel_rfl) (x := ([.lit (.int .i64 0), .nil], [], [])) (by kernel_rfl) rfl (by kernel_rfl)) ?_
  intro W base args ds gs before hval0 hW hcnd hk hsz0 _
  have hsz : (DataW.weightsEach Try.prog (Try.f7.params.toList ++ Rows.superDoesSpec.plain.varTypes Try.prog) (ds ++ gs)).all (· ≤ reachBytes) = true := hsz0
  have hval : ∀ (j : Nat) t v, Try.f7.params[j]? = some t → args[j]? = some v → Value.okWide Try.prog W .any base t v := hval0
  have hW' := hW
  obtain ⟨p, q, hA0, hV, rfl, hfz, hnd⟩ := hW
  have hA : DataW.TrodAll enc Try.prog W 0 (fun _ => true) true Try.f7.params.toList args.toList ds p := hA0
  rw [Try.params7] at hA hval hsz
  obtain ⟨v0, vs0, d0, ds0, p0, q0, hargs, rfl, rfl, h0, r0⟩ := trodAll_cons hA
  obtain ⟨v1, vs1, d1, ds1, p1, q1, rfl, rfl, rfl, h1, r1⟩ := trodAll_cons r0
  obtain ⟨rfl, rfl, rfl⟩ := trodAll_nil r1
  obtain rfl : args = #[v0, v1] := by cases args; simp_all
  obtain ⟨rfl, rfl⟩ := trodVars_none hV
  obtain ⟨a0, rfl, rfl, rfl, w0⟩ := open_int Try.underlying3 (hval 0 3 v0 rfl rfl) h0
  obtain ⟨a1, len1, cap1, rfl⟩ := okWide_slice Try.underlying42 (hval 1 42 v1 rfl rfl)
  have k1 := h1
  have lt1 : ∀ x ∈ p1, x.block < W.heap.size := by obtain ⟨m, hm⟩ := k1; exact DataW.trod_lt m _ _ _ hm
  obtain ⟨fuel1, hf1⟩ := h1
  obtain ⟨u1, z1, hcs1, S1, D1⟩ := open_slc (RSOp (immOf W)) DSop Try.underlying42 (sz := 9) (by kernel_rfl) (by decide) elem_sopB hf1
  obtain rfl : u1 = .slice a1 len1 cap1 := by simpa [Value.cells] using hcs1.symm
  have y1 : z1.length * 104 ≤ 140737488351232 := by
    rcases D1 with ⟨_, rfl⟩ | ⟨es, rest, hx, hl, _⟩
    · simp
    · have q := sized_slice hsz (j := 1) (t := 42) (e := 45) (elems := es) (spare := rest) rfl (by simp only [List.cons_append, List.nil_append, List.append_nil] at *; simp_all) Try.underlying42
      rw [show Try.prog.bytesOf 45 = 104 by kernel_rfl] at q
      have q2 : z1.length * 104 ≤ reachBytes := Nat.le_trans (Nat.mul_le_mul_right _ (by omega)) q
      exact q2
  have b1 : z1.length ≤ 1048576 ∧ (∀ o ∈ z1, ∃ d : DataW H, DSop o d ∧ Rows.uptoBulk d ≤ 1048576) := by
    have t2 : Rows.uptoBulk d1 ≤ 1048576 := Nat.le_trans (bulks.part_le (d := d1) (by simp)) (bulks.bound hk)
    rcases D1 with ⟨_, rfl⟩ | ⟨es, rest, hx, hl, hD⟩
    · simp
    · have hx' : d1 = .slice es rest := hx
      rw [hx'] at t2
      have t3 := bulks.slice_le es rest
      have t4 := bulks.slice_elems es rest
      refine ⟨by omega, fun o ho => ?_⟩
      obtain ⟨j, hj, rfl⟩ := List.getElem_of_mem ho
      obtain ⟨d, hd1, hd2⟩ := hD j _ (List.getElem?_eq_getElem hj)
      have t5 := bulks.part_le (List.mem_of_getElem? hd1)
      exact ⟨d, hd2, by omega⟩
  clear hA0 hval0 hsz0 hsz
  refine (Spec.top (super_Does_all (a := a0) S1 b1.1 (fun o ho => by obtain ⟨d, h1, h2⟩ := b1.2 o ho; exact Nat.le_trans h1.1 h2)) (fun _ _ _ h => h.1)).mono fun e W' ⟨he, bel⟩ => ?_
  subst he
  exact ⟨_, rfl, _, _, _, [], _, [], hW', trodAll_mk1 (shut_bool Try.underlying4 _), (trodAll_cons_mk (shut_int Try.underlying3 w0) (trodAll_cons_mk (Below.trod laidOut (by kernel_rfl) (of_decide_eq_true (by kernel_rfl)) k1 bel lt1) trodAll_mk0)), rfl, bel.frame _, fun h => by cases h⟩
theorem over : Rows.superDoesUptoRow.holds Try.pinned (Rows.OpenSpec.upto Rows.superDoesSpec) :=
  OpenClaim.holds_of_cond 7 Try.f7 rfl rfl rfl rfl rfl rfl rfl ⟨rfl, rfl, rfl, rfl, rfl⟩ rfl rfl rfl rfl rfl (by kernel_rfl) Try.func7 (by kernel_rfl)
    (of_decide_eq_true (by kernel_rfl)) (by unfold Func.isWrapper; first | (rw [if_pos (by decide +kernel)]; kernel_rfl) | (rw [if_neg (by decide +kernel)]; exact ⟨rfl, rfl⟩))
    (fun os started H enc _ F => lifted os started H enc F)
theorem proved : Rows.SuperDoesUptoSaid := over
end Go.Proofs.Ytelkknmnnmmoaaa.superDoes
namespace Go.Proofs.Ytelkknmnnmmoaaa
theorem superDoesUpto_holds : Rows.SuperDoesUptoSaid := superDoes.proved
end Go.Proofs.Ytelkknmnnmmoaaa
#print axioms Go.Proofs.Ytelkknmnnmmoaaa.superDoesUpto_holds
