/- Where what it reads is of the bulk that the row says, CacheKeeps answers true, and the arguments read as they did. -/
import Derived.Test.YtcebcphnmbhcpaaGreatRows
import Derived.Test.YtcebcphnmbhcpaaGreatBulk
import Derived.Test.YtcebcphnmbhcpaaGreatCacU
import Derived.Deep.CondSized
set_option linter.unusedVariables false
set_option linter.unusedSimpArgs false
namespace Go.Proofs.YtcebcphnmbhcpaaGreat.cacheKeeps
open Go Go.ChangeShapes Go.WideShapes Go.ChangeAt Go.RowKit Go.Hp
open Go.ChangeMaps (open_string shut_string)
theorem own : ownKnob Tryz.prog.godebug = none := by kernel_rfl
theorem laidOut : laidOutB Tryz.prog = true := by kernel_rfl
set_option maxRecDepth 100000 in
theorem lifted (os : Os) (started : os.Started) (H : Type) (enc : TypeId × Value → H) (F : Stop.Interp) :
    ReturnsInHanded {} Tryz.checked os 3 .any ((Rows.OpenSpec.upto Rows.cacheKeepsSpec).pre6 enc Tryz.prog Tryz.f3 Rows.cacheKeepsUptoRow.domain false) (((Rows.OpenSpec.upto Rows.cacheKeepsSpec).at F).post enc Tryz.prog Tryz.f3 false true false false) := by
  refine returnsInHanded_of_cond_sized (C := Tryz.checked) (s := Rows.OpenSpec.upto Rows.cacheKeepsSpec) (k := Rows.uptoSmall) rfl own started (by kernel_rfl) Tryz.func3
    (OpenSpec.witness (enc := enc) (C := Tryz.checked) (s := Rows.OpenSpec.upto Rows.cacheKeepsSpec) (k := Rows.uptoSmall) rfl false ⟨#[], #[.slice none 0 0], []⟩ 8 (by kernel_rfl) (by kernel_rfl) (by kernel_rfl) (x := ([.nil], [], [])) (by kernel_rfl) rfl (by kernel_rfl)) ?_
  intro W base args ds gs before hval0 hW hcnd hk hsz0 _
  have hsz : (DataW.weightsEach Tryz.prog (Tryz.f3.params.toList ++ Rows.cacheKeepsSpec.plain.varTypes Tryz.prog) (ds ++ gs)).all (· ≤ reachBytes) = true := hsz0
  have hval : ∀ (j : Nat) t v, Tryz.f3.params[j]? = some t → args[j]? = some v → Value.okWide Tryz.prog W .any base t v := hval0
  have hW' := hW
  obtain ⟨p, q, hA0, hV, rfl, hfz, hnd⟩ := hW
  have hA : DataW.TrodAll enc Tryz.prog W 0 (fun _ => true) true Tryz.f3.params.toList args.toList ds p := hA0
  rw [Tryz.params3] at hA hval hsz
  obtain ⟨v0, vs0, d0, ds0, p0, q0, hargs, rfl, rfl, h0, r0⟩ := trodAll_cons hA
  obtain ⟨rfl, rfl, rfl⟩ := trodAll_nil r0
  obtain rfl : args = #[v0] := by cases args; simp_all
  obtain ⟨rfl, rfl⟩ := trodVars_none hV
  obtain ⟨a0, len0, cap0, rfl⟩ := okWide_slice Tryz.underlying22 (hval 0 22 v0 rfl rfl)
  have k0 := h0
  have lt0 : ∀ x ∈ p0, x.block < W.heap.size := by obtain ⟨m, hm⟩ := k0; exact DataW.trod_lt m _ _ _ hm
  obtain ⟨fuel0, hf0⟩ := h0
  obtain ⟨u0, z0, hcs0, S0, D0⟩ := open_slc (RChg (immOf W)) DChg Tryz.underlying22 (sz := 5) (by kernel_rfl) (by decide) elem_chg hf0
  obtain rfl : u0 = .slice a0 len0 cap0 := by simpa [Value.cells] using hcs0.symm
  have y0 : z0.length * 56 ≤ 140737488351232 := by
    rcases D0 with ⟨_, rfl⟩ | ⟨es, rest, hx, hl, _⟩
    · simp
    · have q := sized_slice hsz (j := 0) (t := 22) (e := 53) (elems := es) (spare := rest) rfl (by simp only [List.cons_append, List.nil_append, List.append_nil] at *; simp_all) Tryz.underlying22
      rw [show Tryz.prog.bytesOf 53 = 56 by kernel_rfl] at q
      have q2 : z0.length * 56 ≤ reachBytes := Nat.le_trans (Nat.mul_le_mul_right _ (by omega)) q
      exact q2
  have b0 : z0.length ≤ 1048576 ∧ (∀ o ∈ z0, ∃ d : DataW H, DChg o d ∧ Rows.uptoBulk d ≤ 1048576) := by
    have t2 : Rows.uptoBulk d0 ≤ 1048576 := Nat.le_trans (bulks.part_le (d := d0) (by simp)) (bulks.bound hk)
    rcases D0 with ⟨_, rfl⟩ | ⟨es, rest, hx, hl, hD⟩
    · simp
    · have hx' : d0 = .slice es rest := hx
      rw [hx'] at t2
      have t3 := bulks.slice_le es rest
      have t4 := bulks.slice_elems es rest
      refine ⟨by omega, fun o ho => ?_⟩
      obtain ⟨j, hj, rfl⟩ := List.getElem_of_mem ho
      obtain ⟨d, hd1, hd2⟩ := hD j _ (List.getElem?_eq_getElem hj)
      have t5 := bulks.part_le (List.mem_of_getElem? hd1)
      exact ⟨d, hd2, by omega⟩
  clear hA0 hval0 hsz0 hsz
  refine (Spec.top (law_CacheKeeps S0 (by have := b0.1; omega) (fun y hy => by obtain ⟨d, h1, h2⟩ := b0.2 y hy; exact Nat.le_trans h1 h2)) (fun _ _ _ h => h.1)).mono fun e W' ⟨he, bel⟩ => ?_; subst he
  exact ⟨_, rfl, _, _, _, [], _, [], hW', trodAll_mk1 (shut_bool Tryz.underlying4 _), (trodAll_cons_mk (Below.trod laidOut (by kernel_rfl) (of_decide_eq_true (by kernel_rfl)) k0 bel lt0) trodAll_mk0), rfl, bel.frame _, fun h => by cases h⟩
theorem over : Rows.cacheKeepsUptoRow.holds Tryz.pinned (Rows.OpenSpec.upto Rows.cacheKeepsSpec) :=
  OpenClaim.holds_of_cond 3 Tryz.f3 rfl rfl rfl rfl rfl rfl rfl ⟨rfl, rfl, rfl, rfl, rfl⟩ rfl rfl rfl rfl rfl (by kernel_rfl) Tryz.func3 (by kernel_rfl)
    (of_decide_eq_true (by kernel_rfl)) (by unfold Func.isWrapper; first | (rw [if_pos (by decide +kernel)]; kernel_rfl) | (rw [if_neg (by decide +kernel)]; exact ⟨rfl, rfl⟩))
    (fun os started H enc _ F => lifted os started H enc F)
theorem proved : Rows.CacheKeepsUptoSaid := over
end Go.Proofs.YtcebcphnmbhcpaaGreat.cacheKeeps
namespace Go.Proofs.YtcebcphnmbhcpaaGreat
theorem cacheKeepsUpto_holds : Rows.CacheKeepsUptoSaid := cacheKeeps.proved
end Go.Proofs.YtcebcphnmbhcpaaGreat
#print axioms Go.Proofs.YtcebcphnmbhcpaaGreat.cacheKeepsUpto_holds
