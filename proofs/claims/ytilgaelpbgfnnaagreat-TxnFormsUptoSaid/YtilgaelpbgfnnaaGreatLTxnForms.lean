/- Where what it reads is of the bulk that the row says, TxnForms answers true, and the arguments read as they did. -/
import Derived.Test.YtilgaelpbgfnnaaGreatRows
import Derived.Test.YtilgaelpbgfnnaaGreatBulk
import Derived.Test.YtilgaelpbgfnnaaGreatRfG
import Derived.Deep.CondSized
set_option linter.unusedVariables false
set_option linter.unusedSimpArgs false
namespace Go.Proofs.YtilgaelpbgfnnaaGreat.txnForms
open Go Go.ChangeShapes Go.WideShapes Go.ChangeAt Go.RowKit Go.Hp
open Go.ChangeMaps (open_string shut_string)
theorem own : ownKnob Tryz.prog.godebug = none := by kernel_rfl
theorem laidOut : laidOutB Tryz.prog = true := by kernel_rfl
set_option maxRecDepth 100000 in
theorem lifted (os : Os) (started : os.Started) (H : Type) (enc : TypeId × Value → H) (F : Stop.Interp) :
    ReturnsInHanded {} Tryz.checked os 6 .any ((Rows.OpenSpec.upto Rows.txnFormsSpec).pre6 enc Tryz.prog Tryz.f6 Rows.txnFormsUptoRow.domain false) (((Rows.OpenSpec.upto Rows.txnFormsSpec).at F).post enc Tryz.prog Tryz.f6 false true false false) := by
  refine returnsInHanded_of_cond_sized (C := Tryz.checked) (s := Rows.OpenSpec.upto Rows.txnFormsSpec) (k := Rows.uptoSmall) rfl own started (by kernel_rfl) Tryz.func6
    (OpenSpec.witness (enc := enc) (C := Tryz.checked) (s := Rows.OpenSpec.upto Rows.txnFormsSpec) (k := Rows.uptoSmall) rfl false ⟨#[], #[.agg #[.int .i64 0, .int .i64 0, .slice none 0 0], .slice none 0 0, .int .i64 0, .slice none 0 0], []⟩ 8 (by kernel_rfl) (by kernel_rfl) (by kernel_rfl) (x := ([.agg [.lit (.int .i64 0), .lit (.int .i64 0), .nil], .nil, .lit (.int .i64 0), .nil], [], [])) (by kernel_rfl) rfl (by kernel_rfl)) ?_
  intro W base args ds gs before hval0 hW hcnd hk hsz0 _
  have hsz : (DataW.weightsEach Tryz.prog (Tryz.f6.params.toList ++ Rows.txnFormsSpec.plain.varTypes Tryz.prog) (ds ++ gs)).all (· ≤ reachBytes) = true := hsz0
  have hval : ∀ (j : Nat) t v, Tryz.f6.params[j]? = some t → args[j]? = some v → Value.okWide Tryz.prog W .any base t v := hval0
  have hW' := hW
  obtain ⟨p, q, hA0, hV, rfl, hfz, hnd⟩ := hW
  have hA : DataW.TrodAll enc Tryz.prog W 0 (fun _ => true) true Tryz.f6.params.toList args.toList ds p := hA0
  rw [Tryz.params6] at hA hval hsz
  obtain ⟨v0, vs0, d0, ds0, p0, q0, hargs, rfl, rfl, h0, r0⟩ := trodAll_cons hA
  obtain ⟨v1, vs1, d1, ds1, p1, q1, rfl, rfl, rfl, h1, r1⟩ := trodAll_cons r0
  obtain ⟨v2, vs2, d2, ds2, p2, q2, rfl, rfl, rfl, h2, r2⟩ := trodAll_cons r1
  obtain ⟨v3, vs3, d3, ds3, p3, q3, rfl, rfl, rfl, h3, r3⟩ := trodAll_cons r2
  obtain ⟨rfl, rfl, rfl⟩ := trodAll_nil r3
  obtain rfl : args = #[v0, v1, v2, v3] := by cases args; simp_all
  obtain ⟨rfl, rfl⟩ := trodVars_none hV
  obtain ⟨c0, rfl, hc0⟩ := okWide_struct Tryz.underlying51 (hval 0 51 v0 rfl rfl)
  have k0 := h0
  have lt0 : ∀ x ∈ p0, x.block < W.heap.size := by obtain ⟨m, hm⟩ := k0; exact DataW.trod_lt m _ _ _ hm
  obtain ⟨fuel0, hf0⟩ := h0
  have hl0 : (Value.agg c0).cells.toList.length = 3 := by rw [show (Value.agg c0).cells = c0 from rfl, Array.length_toList, hc0]; kernel_rfl
  obtain ⟨z0, hz0, D0⟩ := elem_prB fuel0 _ _ hf0 hl0
  obtain ⟨hva0, hvb0⟩ := hz0
  obtain rfl : c0 = (prV z0.1 z0.2).toArray := by have := hva0; simp only [show (Value.agg c0).cells = c0 from rfl] at this; rw [← this]
  obtain ⟨a1, len1, cap1, rfl⟩ := okWide_slice Tryz.underlying52 (hval 1 52 v1 rfl rfl)
  have k1 := h1
  have lt1 : ∀ x ∈ p1, x.block < W.heap.size := by obtain ⟨m, hm⟩ := k1; exact DataW.trod_lt m _ _ _ hm
  obtain ⟨fuel1, hf1⟩ := h1
  obtain ⟨u1, z1, hcs1, S1, D1⟩ := open_slc (RPrI (immOf W)) DPrB Tryz.underlying52 (sz := 3) (by kernel_rfl) (by decide) elem_prB hf1
  obtain rfl : u1 = .slice a1 len1 cap1 := by simpa [Value.cells] using hcs1.symm
  have y1 : z1.length * 40 ≤ 140737488351232 := by
    rcases D1 with ⟨_, rfl⟩ | ⟨es, rest, hx, hl, _⟩
    · simp
    · have q := sized_slice hsz (j := 1) (t := 52) (e := 51) (elems := es) (spare := rest) rfl (by simp only [List.cons_append, List.nil_append, List.append_nil] at *; simp_all) Tryz.underlying52
      rw [show Tryz.prog.bytesOf 51 = 40 by kernel_rfl] at q
      have q2 : z1.length * 40 ≤ reachBytes := Nat.le_trans (Nat.mul_le_mul_right _ (by omega)) q
      exact q2
  have b1 : z1.length ≤ 1048576 ∧ (∀ o ∈ z1, ∃ d : DataW H, DPrB o d ∧ Rows.uptoBulk d ≤ 1048576) := by
    have t2 : Rows.uptoBulk d1 ≤ 1048576 := Nat.le_trans (bulks.part_le (d := d1) (by simp)) (bulks.bound hk)
    rcases D1 with ⟨_, rfl⟩ | ⟨es, rest, hx, hl, hD⟩
    · simp
    · have hx' : d1 = .slice es rest := hx
      rw [hx'] at t2
      have t3 := bulks.slice_le es rest
      have t4 := bulks.slice_elems es rest
      refine ⟨by omega, fun o ho => ?_⟩
      obtain ⟨j, hj, rfl⟩ := List.getElem_of_mem ho
      obtain ⟨d, hd1, hd2⟩ := hD j _ (List.getElem?_eq_getElem hj)
      have t5 := bulks.part_le (List.mem_of_getElem? hd1)
      exact ⟨d, hd2, by omega⟩
  obtain ⟨a2, rfl, rfl, rfl, w2⟩ := open_int Tryz.underlying3 (hval 2 3 v2 rfl rfl) h2
  obtain ⟨a3, len3, cap3, rfl⟩ := okWide_slice Tryz.underlying49 (hval 3 49 v3 rfl rfl)
  have k3 := h3
  have lt3 : ∀ x ∈ p3, x.block < W.heap.size := by obtain ⟨m, hm⟩ := k3; exact DataW.trod_lt m _ _ _ hm
  obtain ⟨fuel3, hf3⟩ := h3
  obtain ⟨u3, z3, hcs3, S3, D3⟩ := open_slc RB (fun _ _ => True) Tryz.underlying49 (sz := 1) (by kernel_rfl) (by decide) (elem_byte (by kernel_rfl)) hf3
  obtain rfl : u3 = .slice a3 len3 cap3 := by simpa [Value.cells] using hcs3.symm
  have y3 : z3.length * 1 ≤ 140737488351232 := by
    rcases D3 with ⟨_, rfl⟩ | ⟨es, rest, hx, hl, _⟩
    · simp
    · have q := sized_slice hsz (j := 3) (t := 49) (e := 5) (elems := es) (spare := rest) rfl (by simp only [List.cons_append, List.nil_append, List.append_nil] at *; simp_all) Tryz.underlying49
      rw [show Tryz.prog.bytesOf 5 = 1 by kernel_rfl] at q
      have q2 : z3.length * 1 ≤ reachBytes := Nat.le_trans (Nat.mul_le_mul_right _ (by omega)) q
      exact q2
  have b3 : z3.length ≤ 1048576 ∧ (∀ o ∈ z3, ∃ d : DataW H, (fun _ _ => True) o d ∧ Rows.uptoBulk d ≤ 1048576) := by
    have t2 : Rows.uptoBulk d3 ≤ 1048576 := Nat.le_trans (bulks.part_le (d := d3) (by simp)) (bulks.bound hk)
    rcases D3 with ⟨_, rfl⟩ | ⟨es, rest, hx, hl, hD⟩
    · simp
    · have hx' : d3 = .slice es rest := hx
      rw [hx'] at t2
      have t3 := bulks.slice_le es rest
      have t4 := bulks.slice_elems es rest
      refine ⟨by omega, fun o ho => ?_⟩
      obtain ⟨j, hj, rfl⟩ := List.getElem_of_mem ho
      obtain ⟨d, hd1, hd2⟩ := hD j _ (List.getElem?_eq_getElem hj)
      have t5 := bulks.part_le (List.mem_of_getElem? hd1)
      exact ⟨d, hd2, by omega⟩
  clear hA0 hval0 hsz0 hsz
  refine (Spec.top (txn_TxnForms (r := z0.1) (vr := z0.2) (n := a2) hvb0 (sizedP.of D0 (Nat.le_trans (YtilgaelpbgfnnaaGreat.bulks.part_le (d := d0) (by simp)) (YtilgaelpbgfnnaaGreat.bulks.bound hk))) (RPrs.of_slc S1) b1.1 (fun x hx => by obtain ⟨d, h1, h2⟩ := b1.2 x hx; exact sizedP.of h1 h2) (Slc.bytes S3) (by simpa using y3)) (fun _ _ _ h => h.1)).mono fun e W' ⟨he, bel⟩ => ?_; subst he
  exact ⟨_, rfl, _, _, _, [], _, [], hW', trodAll_mk1 (shut_bool Tryz.underlying4 _), (trodAll_cons_mk (Below.trod laidOut (by kernel_rfl) (of_decide_eq_true (by kernel_rfl)) k0 bel lt0) (trodAll_cons_mk (Below.trod laidOut (by kernel_rfl) (of_decide_eq_true (by kernel_rfl)) k1 bel lt1) (trodAll_cons_mk (shut_int Tryz.underlying3 w2) (trodAll_cons_mk (Below.trod laidOut (by kernel_rfl) (of_decide_eq_true (by kernel_rfl)) k3 bel lt3) trodAll_mk0)))), rfl, bel.frame _, fun h => by cases h⟩
theorem over : Rows.txnFormsUptoRow.holds Tryz.pinned (Rows.OpenSpec.upto Rows.txnFormsSpec) :=
  OpenClaim.holds_of_cond 6 Tryz.f6 rfl rfl rfl rfl rfl rfl rfl ⟨rfl, rfl, rfl, rfl, rfl⟩ rfl rfl rfl rfl rfl (by kernel_rfl) Tryz.func6 (by kernel_rfl)
    (of_decide_eq_true (by kernel_rfl)) (by unfold Func.isWrapper; first | (rw [if_pos (by decide +kernel)]; kernel_rfl) | (rw [if_neg (by decide +kernel)]; exact ⟨rfl, rfl⟩))
    (fun os started H enc _ F => lifted os started H enc F)
theorem proved : Rows.TxnFormsUptoSaid := over
end Go.Proofs.YtilgaelpbgfnnaaGreat.txnForms
namespace Go.Proofs.YtilgaelpbgfnnaaGreat
theorem txnFormsUpto_holds : Rows.TxnFormsUptoSaid := txnForms.proved
end Go.Proofs.YtilgaelpbgfnnaaGreat
#print axioms Go.Proofs.YtilgaelpbgfnnaaGreat.txnFormsUpto_holds
