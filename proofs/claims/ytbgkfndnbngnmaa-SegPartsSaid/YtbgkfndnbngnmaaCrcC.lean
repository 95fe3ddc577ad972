import Derived.Test.YtbgkfndnbngnmaaCrcB
set_option linter.unusedVariables false
set_option linter.unusedSimpArgs false
namespace Go.Hp
open Go Go.Proofs
theorem slices_Grow {I : Imm} {m : Nat} (h0 : 0 < m) (hm : m ≤ 140737488355328) : Spec Try.prog 50 [.slice none 0 0, .int .i64 (m : Int)] I [] (fun v J L => I = J ∧ Own 5 1 v [] 0 L) := by
  refine Spec.of Try.func50 rfl Try.ntmps50 (Nat.le_of_ble_eq_true rfl) (fun F => ?_)
  try simp only [List.cons_append, List.nil_append, List.append_assoc]
  dsimp only [argsEnv]
  refine WP.seq ?_
  refine WP.region [0] rfl ?_
  refine WP.val rfl rfl rfl rfl (Yld.assign rfl rfl) ?_
  refine WP.nil ?_
  refine WP.next ?_
  refine WP.seq ?_
  refine WP.seq ?_
  refine WP.region [0, 1] rfl ?_
  refine WP.val rfl rfl rfl rfl (Yld.move rfl rfl) ?_
  refine WP.val rfl rfl rfl rfl (Yld.lss rfl rfl rfl false (decide_eq_false (by omega))) ?_
  refine WP.nil ?_
  refine WP.sub [(0, _), (1, _), (4, _), (6, _)] ?_ ⟨rfl, rfl, rfl, rfl, trivial⟩
  refine WP.next ?_
  refine WP.condF rfl ?_
  refine WP.skip ?_
  refine WP.next ?_
  refine WP.seq ?_
  refine WP.seq ?_
  refine WP.region [0, 1, 2, 3, 4, 5, 6, 7] rfl ?_
  refine WP.val rfl rfl rfl rfl (Yld.move rfl rfl) ?_
  refine WP.val rfl rfl rfl rfl (Yld.move rfl rfl) ?_
  refine WP.val rfl rfl rfl rfl (Yld.cap rfl ty_sl_22 rfl) ?_
  refine WP.val rfl rfl rfl rfl (Yld.move rfl rfl) ?_
  refine WP.val rfl rfl rfl rfl (Yld.len rfl ty_sl_22 rfl) ?_
  refine WP.val rfl rfl rfl rfl (Yld.sub64 rfl rfl rfl (by omega)) ?_
  refine WP.val rfl rfl rfl rfl (Yld.sub64 rfl rfl rfl (by omega)) ?_
  refine WP.val rfl rfl rfl rfl (Yld.assign rfl rfl) ?_
  refine WP.nil ?_
  refine WP.sub [(0, _), (1, _), (4, _), (6, _)] ?_ ⟨rfl, rfl, rfl, rfl, trivial⟩
  refine WP.next ?_
  refine WP.seq ?_
  refine WP.region [0, 1] rfl ?_
  refine WP.val rfl rfl rfl rfl (Yld.move rfl rfl) ?_
  refine WP.val rfl rfl rfl rfl (Yld.gtr rfl rfl rfl true (decide_eq_true (by omega))) ?_
  refine WP.nil ?_
  refine WP.sub [(0, _), (1, _), (4, _), (6, _), (16, _)] ?_ ⟨rfl, rfl, rfl, rfl, rfl, trivial⟩
  refine WP.next ?_
  refine WP.condT rfl ?_
  refine WP.region [0, 1, 2, 3, 4, 5, 6, 7, 8, 9] rfl ?_
  refine WP.val rfl rfl rfl rfl (Yld.move rfl rfl) ?_
  refine WP.val rfl rfl rfl rfl (Yld.move rfl rfl) ?_
  refine WP.val rfl rfl rfl rfl (Yld.cap rfl ty_sl_22 rfl) ?_
  refine WP.val rfl rfl rfl rfl (Yld.slice (h := 0) rfl ty_sl_22 rfl Env.lim0 (Env.limS rfl) (Nat.le_refl _) (Nat.le_refl _)) ?_
  refine WP.val rfl rfl rfl rfl (Yld.move rfl rfl) ?_
  refine WP.loud rfl rfl ?_
  refine Op.appendZ (m := m) rfl ty_sl_22 Try.underlying3 ty_el_22 rfl rfl rfl rfl (congrArg (fun z => some (Value.int .i64 z)) (by omega)) h0 (by decide) (by omega) (by omega) (fun bg cg sg h1 h2 => ?_)
  refine WP.val rfl rfl rfl rfl (Yld.move rfl rfl) ?_
  refine WP.val rfl rfl rfl rfl (Yld.len rfl ty_sl_22 rfl) ?_
  refine WP.val rfl rfl rfl rfl (Yld.slice (h := 0) rfl ty_sl_22 rfl Env.lim0 (Env.limS rfl) (Nat.le_refl _) (Nat.zero_le _)) ?_
  refine WP.val rfl rfl rfl rfl (Yld.assign rfl rfl) ?_
  refine WP.nil ?_
  refine WP.sub [(0, _), (1, _), (4, _), (6, _), (16, _)] ?_ ⟨rfl, rfl, rfl, rfl, rfl, trivial⟩
  refine WP.next ?_
  refine WP.seq ?_
  refine WP.region [0, 1] rfl ?_
  refine WP.val rfl rfl rfl rfl (Yld.move rfl rfl) ?_
  refine WP.val rfl rfl rfl rfl (Yld.assign rfl rfl) ?_
  refine WP.nil ?_
  refine WP.sub [(0, _), (1, _), (4, _), (6, _), (16, _)] ?_ ⟨rfl, rfl, rfl, rfl, rfl, trivial⟩
  refine WP.next ?_
  refine WP.ret ?_
  refine WP.fin .ret (.inr rfl) (res1 rfl rfl) [(bg, row 5 _)] (by repeat (first | exact Take.nil | with_reducible apply Take.cons | apply Take.app | exact Rm.chunk | exact Rm.here | exact Rm.nil0 | apply Rm.skip | apply Rm.skipS | (focus (apply Take.all; (repeat (first | exact Rm.chunk | exact Rm.here | exact Rm.nil0 | apply Rm.skip | apply Rm.skipS)); done)) | apply Take.cons)) (by repeat (first | exact Leave.done | apply Leave.drop | apply Leave.dropS)) (Imm.le_refl _) ?_
  have e : (if cg = 0 then (some ⟨bg, 0, none⟩ : Option Addr) else (some ⟨bg, 0, none⟩ : Option Addr).map (·.add (0 * 1))) = some ⟨bg, 0, none⟩ := by split <;> simp [add_at]
  refine ⟨rfl, ?_⟩
  simp only [subSl, e, Nat.sub_zero]
  exact Own.blk (T := 5) (sz := 1) (xs := []) (sp := sg) rfl (by simpa using h2) (Nat.zero_le _)


end Go.Hp
