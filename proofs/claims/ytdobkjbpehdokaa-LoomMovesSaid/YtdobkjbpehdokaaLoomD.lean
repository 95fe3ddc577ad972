import Derived.Test.YtdobkjbpehdokaaLoomC
set_option linter.unusedVariables false
set_option linter.unusedSimpArgs false
namespace Go.Hp
open Go Go.Proofs
theorem loom_find_no {I : Imm} {l m : Nat} {k : Int} {A : Option Addr} {cc : Nat} (hk : k < 0 ∨ (m : Int) ≤ k) : Spec Try.prog 41 [.pointer (some ⟨l, 0, none⟩), .int .i64 k] I [(l, row 89 [.slice A m cc])] (fun v J L => v = .tuple #[.pointer none, .bool false] ∧ I = J ∧ L = [(l, row 89 [.slice A m cc])]) := by
  refine Spec.of Try.func41 rfl Try.ntmps41 (Nat.le_of_ble_eq_true rfl) (fun F => ?_)
  try simp only [List.cons_append, List.nil_append, List.append_assoc]
  dsimp only [argsEnv]
  refine WP.seq ?_
  refine WP.region [0, 1] rfl ?_
  refine WP.val rfl rfl rfl rfl (Yld.assign rfl rfl) ?_
  refine WP.val rfl rfl rfl rfl (Yld.assign rfl rfl) ?_
  refine WP.nil ?_
  refine WP.next ?_
  refine WP.seq ?_
  refine WP.seq ?_
  refine WP.region [0, 1, 2, 3, 4, 5, 6, 7, 8, 9, 10] rfl ?_
  refine WP.val rfl rfl rfl rfl (Yld.move rfl rfl) ?_
  refine WP.split rfl rfl rfl rfl (Yld.lss rfl rfl rfl) (fun g1 => ?_) (fun g1 => ?_)
  · refine WP.val rfl rfl rfl rfl (Yld.move rfl rfl) ?_
    refine WP.passG rfl rfl rfl rfl rfl rfl rfl rfl ?_
    refine WP.passG rfl rfl rfl rfl rfl rfl rfl rfl ?_
    refine WP.passG rfl rfl rfl rfl rfl rfl rfl rfl ?_
    refine WP.passG rfl rfl rfl rfl rfl rfl rfl rfl ?_
    refine WP.passG rfl rfl rfl rfl rfl rfl rfl rfl ?_
    refine WP.passG rfl rfl rfl rfl rfl rfl rfl rfl ?_
    refine WP.passG rfl rfl rfl rfl rfl rfl rfl rfl ?_
    refine WP.val rfl rfl rfl rfl (Yld.pickT rfl rfl rfl) ?_
    refine WP.nil ?_
    refine WP.sub [(0, _), (1, _), (4, _), (5, _), (16, _)] ?_ ⟨rfl, rfl, rfl, rfl, rfl, trivial⟩
    refine WP.next ?_
    refine WP.condT rfl ?_
    refine WP.seq ?_
    refine WP.region [0, 1] rfl ?_
    refine WP.val rfl rfl rfl rfl (Yld.assign rfl rfl) ?_
    refine WP.val rfl rfl rfl rfl (Yld.assign rfl rfl) ?_
    refine WP.nil ?_
    refine WP.next ?_
    refine WP.ret ?_
    refine WP.fin .ret (.inr rfl) (res2 rfl rfl rfl) [_] (by repeat (first | exact Take.nil | with_reducible apply Take.cons | apply Take.app | exact Rm.chunk | exact Rm.here | exact Rm.nil0 | apply Rm.skip | apply Rm.skipS | (focus (apply Take.all; (repeat (first | exact Rm.chunk | exact Rm.here | exact Rm.nil0 | apply Rm.skip | apply Rm.skipS)); done)) | apply Take.cons)) (by repeat (first | exact Leave.done | apply Leave.drop | apply Leave.dropS)) (Imm.le_refl _) ?_
    exact ⟨rfl, rfl, rfl⟩
  · refine WP.val rfl rfl rfl rfl (Yld.move rfl rfl) ?_
    refine WP.valG rfl rfl rfl rfl rfl rfl rfl (Yld.move rfl rfl) ?_
    refine WP.valG rfl rfl rfl rfl rfl rfl rfl (Yld.move rfl rfl) ?_
    refine WP.valG rfl rfl rfl rfl rfl rfl rfl (Yld.nilCheck rfl rfl) ?_
    refine WP.valG rfl rfl rfl rfl rfl rfl rfl (Yld.fieldAddr rfl ty_fd_89_0 rfl) ?_
    refine WP.valG rfl rfl rfl rfl rfl rfl rfl (Yld.load rfl ty_sc_87 rfl (by repeat (first | exact There.h | exact There.i (by assumption) | apply There.t | apply There.s)) rfl) ?_
    refine WP.valG rfl rfl rfl rfl rfl rfl rfl (Yld.len rfl ty_sl_87 rfl) ?_
    refine WP.splitG rfl rfl rfl rfl rfl rfl rfl (Yld.geq rfl rfl rfl) (fun g2 => ?_) (fun g2 => ?_)
    · refine WP.val rfl rfl rfl rfl (Yld.pickF rfl rfl rfl) ?_
      refine WP.nil ?_
      refine WP.sub [(0, _), (1, _), (4, _), (5, _), (16, _)] ?_ ⟨rfl, rfl, rfl, rfl, rfl, trivial⟩
      refine WP.next ?_
      refine WP.condT rfl ?_
      refine WP.seq ?_
      refine WP.region [0, 1] rfl ?_
      refine WP.val rfl rfl rfl rfl (Yld.assign rfl rfl) ?_
      refine WP.val rfl rfl rfl rfl (Yld.assign rfl rfl) ?_
      refine WP.nil ?_
      refine WP.next ?_
      refine WP.ret ?_
      refine WP.fin .ret (.inr rfl) (res2 rfl rfl rfl) [_] (by repeat (first | exact Take.nil | with_reducible apply Take.cons | apply Take.app | exact Rm.chunk | exact Rm.here | exact Rm.nil0 | apply Rm.skip | apply Rm.skipS | (focus (apply Take.all; (repeat (first | exact Rm.chunk | exact Rm.here | exact Rm.nil0 | apply Rm.skip | apply Rm.skipS)); done)) | apply Take.cons)) (by repeat (first | exact Leave.done | apply Leave.drop | apply Leave.dropS)) (Imm.le_refl _) ?_
      exact ⟨rfl, rfl, rfl⟩
    · exact absurd hk (by omega)

theorem loom_find {I : Imm} {l b i cc : Nat} {ms : List (Mb × Ad)} {sp : List Value} (hi : i < ms.length) : Spec Try.prog 41 [.pointer (some ⟨l, 0, none⟩), .int .i64 (i : Int)] I [(l, row 89 [.slice (some ⟨b, 0, none⟩) ms.length cc]), (b, row 90 (tps ms ++ sp))] (fun v J L => v = .tuple #[.pointer (some ⟨ms[i].1.t, 0, none⟩), .bool true] ∧ I = J ∧ L = [(l, row 89 [.slice (some ⟨b, 0, none⟩) ms.length cc]), (b, row 90 (tps ms ++ sp))]) := by
  refine Spec.of Try.func41 rfl Try.ntmps41 (Nat.le_of_ble_eq_true rfl) (fun F => ?_)
  try simp only [List.cons_append, List.nil_append, List.append_assoc]
  dsimp only [argsEnv]
  refine WP.seq ?_
  refine WP.region [0, 1] rfl ?_
  refine WP.val rfl rfl rfl rfl (Yld.assign rfl rfl) ?_
  refine WP.val rfl rfl rfl rfl (Yld.assign rfl rfl) ?_
  refine WP.nil ?_
  refine WP.next ?_
  refine WP.seq ?_
  refine WP.seq ?_
  refine WP.region [0, 1, 2, 3, 4, 5, 6, 7, 8, 9, 10] rfl ?_
  refine WP.val rfl rfl rfl rfl (Yld.move rfl rfl) ?_
  refine WP.val rfl rfl rfl rfl (Yld.lss rfl rfl rfl false (decide_eq_false (by omega))) ?_
  refine WP.val rfl rfl rfl rfl (Yld.move rfl rfl) ?_
  refine WP.valG rfl rfl rfl rfl rfl rfl rfl (Yld.move rfl rfl) ?_
  refine WP.valG rfl rfl rfl rfl rfl rfl rfl (Yld.move rfl rfl) ?_
  refine WP.valG rfl rfl rfl rfl rfl rfl rfl (Yld.nilCheck rfl rfl) ?_
  refine WP.valG rfl rfl rfl rfl rfl rfl rfl (Yld.fieldAddr rfl ty_fd_89_0 rfl) ?_
  refine WP.valG rfl rfl rfl rfl rfl rfl rfl (Yld.load rfl ty_sc_87 rfl (by repeat (first | exact There.h | exact There.i (by assumption) | apply There.t | apply There.s)) rfl) ?_
  refine WP.valG rfl rfl rfl rfl rfl rfl rfl (Yld.len rfl ty_sl_87 rfl) ?_
  refine WP.valG rfl rfl rfl rfl rfl rfl rfl (Yld.geq rfl rfl rfl false (decide_eq_false (by omega))) ?_
  refine WP.val rfl rfl rfl rfl (Yld.pickF rfl rfl rfl) ?_
  refine WP.nil ?_
  refine WP.sub [(0, _), (1, _), (4, _), (5, _), (16, _)] ?_ ⟨rfl, rfl, rfl, rfl, rfl, trivial⟩
  refine WP.next ?_
  refine WP.condF rfl ?_
  refine WP.skip ?_
  refine WP.next ?_
  refine WP.seq ?_
  refine WP.region [0, 1, 2, 3, 4, 5, 6, 7, 8] rfl ?_
  refine WP.val rfl rfl rfl rfl (Yld.move rfl rfl) ?_
  refine WP.val rfl rfl rfl rfl (Yld.nilCheck rfl rfl) ?_
  refine WP.val rfl rfl rfl rfl (Yld.fieldAddr rfl ty_fd_89_0 rfl) ?_
  refine WP.val rfl rfl rfl rfl (Yld.load rfl ty_sc_87 rfl (by repeat (first | exact There.h | exact There.i (by assumption) | apply There.t | apply There.s)) rfl) ?_
  refine WP.val rfl rfl rfl rfl (Yld.move rfl rfl) ?_
  refine WP.val rfl rfl rfl rfl (Yld.indexAddr (i := i) rfl ty_sl_87 rfl rfl hi) ?_
  refine WP.val rfl rfl rfl rfl (Yld.load rfl ty_sc_90 rfl (by repeat (first | exact There.h | exact There.i (by assumption) | apply There.t | apply There.s)) (tps_at hi sp)) ?_
  refine WP.val rfl rfl rfl rfl (Yld.assign rfl rfl) ?_
  refine WP.val rfl rfl rfl rfl (Yld.assign rfl rfl) ?_
  refine WP.nil ?_
  refine WP.sub [(0, _), (1, _), (4, _), (5, _), (16, _)] ?_ ⟨rfl, rfl, rfl, rfl, rfl, trivial⟩
  refine WP.next ?_
  refine WP.ret ?_
  refine WP.fin .ret (.inr rfl) (res2 rfl rfl rfl) [_, _] (by repeat (first | exact Take.nil | with_reducible apply Take.cons | apply Take.app | exact Rm.chunk | exact Rm.here | exact Rm.nil0 | apply Rm.skip | apply Rm.skipS | (focus (apply Take.all; (repeat (first | exact Rm.chunk | exact Rm.here | exact Rm.nil0 | apply Rm.skip | apply Rm.skipS)); done)) | apply Take.cons)) (by repeat (first | exact Leave.done | apply Leave.drop | apply Leave.dropS)) (Imm.le_refl _) ?_
  exact ⟨rfl, rfl, rfl⟩


end Go.Hp
