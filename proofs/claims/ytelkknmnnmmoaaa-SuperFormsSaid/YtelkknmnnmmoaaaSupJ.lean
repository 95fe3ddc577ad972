import Derived.Test.YtelkknmnnmmoaaaSupI
set_option linter.unusedVariables false
set_option linter.unusedSimpArgs false
namespace Go.Hp
open Go Go.Proofs
theorem ref16_May {I : Imm} {s : Sp} : Spec Try.prog 14 [.agg (spV s).toArray] I [] (fun v J L => ∃ b, v = .bool b ∧ (b = true ↔ s.may) ∧ I = J ∧ L = []) := by
  refine Spec.of Try.func14 rfl Try.ntmps14 (Nat.le_of_ble_eq_true rfl) (fun F => ?_)
  try simp only [List.cons_append, List.nil_append, List.append_assoc]
  dsimp only [argsEnv]
  refine WP.seq ?_
  refine WP.region [0, 1] rfl ?_
  refine WP.loud rfl rfl ?_
  refine Op.box rfl rfl rfl rfl rfl (fun b1 => ?_)
  refine WP.val rfl rfl rfl rfl (Yld.assign rfl rfl) ?_
  refine WP.nil ?_
  refine WP.next ?_
  refine WP.seq ?_
  refine WP.seq ?_
  refine WP.region [0, 1, 2, 3, 4, 5, 6, 7, 8, 9, 10, 11, 12, 13, 14, 15, 16, 17] rfl ?_
  refine WP.val rfl rfl rfl rfl (Yld.fieldAddr rfl ty_fd_23_0 rfl) ?_
  refine WP.val rfl rfl rfl rfl (Yld.load rfl ty_sc_3 rfl (by repeat (first | exact There.h | exact There.i (by assumption) | apply There.t | apply There.s)) rfl) ?_
  refine WP.split rfl rfl rfl rfl (Yld.lss rfl rfl rfl) (fun c1_2 => ?_) (fun c1_2 => ?_)
  · refine WP.val rfl rfl rfl rfl (Yld.move rfl rfl) ?_
    refine WP.passG rfl rfl rfl rfl rfl rfl rfl rfl ?_
    refine WP.passG rfl rfl rfl rfl rfl rfl rfl rfl ?_
    refine WP.passG rfl rfl rfl rfl rfl rfl rfl rfl ?_
    refine WP.val rfl rfl rfl rfl (Yld.pickT rfl rfl rfl) ?_
    refine WP.val rfl rfl rfl rfl (Yld.move rfl rfl) ?_
    refine WP.passG rfl rfl rfl rfl rfl rfl rfl rfl ?_
    refine WP.passG rfl rfl rfl rfl rfl rfl rfl rfl ?_
    refine WP.passG rfl rfl rfl rfl rfl rfl rfl rfl ?_
    refine WP.val rfl rfl rfl rfl (Yld.pickT rfl rfl rfl) ?_
    refine WP.val rfl rfl rfl rfl (Yld.move rfl rfl) ?_
    refine WP.passG rfl rfl rfl rfl rfl rfl rfl rfl ?_
    refine WP.passG rfl rfl rfl rfl rfl rfl rfl rfl ?_
    refine WP.passG rfl rfl rfl rfl rfl rfl rfl rfl ?_
    refine WP.val rfl rfl rfl rfl (Yld.pickT rfl rfl rfl) ?_
    refine WP.nil ?_
    refine WP.sub [(0, _), (1, _), (2, _), (20, _)] ?_ ⟨rfl, rfl, rfl, rfl, trivial⟩
    refine WP.next ?_
    refine WP.condT rfl ?_
    refine WP.seq ?_
    refine WP.region [0] rfl ?_
    refine WP.val rfl rfl rfl rfl (Yld.assign rfl rfl) ?_
    refine WP.nil ?_
    refine WP.next ?_
    refine WP.ret ?_
    refine WP.fin .ret (.inr rfl) (res1 rfl rfl) [] (by repeat (first | exact Take.nil | with_reducible apply Take.cons | apply Take.app | exact Rm.chunk | exact Rm.here | exact Rm.nil0 | apply Rm.skip | apply Rm.skipS | (focus (apply Take.all; (repeat (first | exact Rm.chunk | exact Rm.here | exact Rm.nil0 | apply Rm.skip | apply Rm.skipS)); done)) | apply Take.cons)) (by repeat (first | exact Leave.done | apply Leave.drop | apply Leave.dropS)) (Imm.le_refl _) ?_
    exact ⟨_, rfl, ⟨fun h => Bool.noConfusion h, fun h => (by obtain ⟨q1, q2, q3, q4, q5⟩ := h; omega)⟩, rfl, rfl⟩
  · refine WP.val rfl rfl rfl rfl (Yld.move rfl rfl) ?_
    refine WP.valG rfl rfl rfl rfl rfl rfl rfl (Yld.fieldAddr rfl ty_fd_23_0 rfl) ?_
    refine WP.valG rfl rfl rfl rfl rfl rfl rfl (Yld.load rfl ty_sc_3 rfl (by repeat (first | exact There.h | exact There.i (by assumption) | apply There.t | apply There.s)) rfl) ?_
    refine WP.splitG rfl rfl rfl rfl rfl rfl rfl (Yld.gtr rfl rfl rfl) (fun c1_6 => ?_) (fun c1_6 => ?_)
    · refine WP.val rfl rfl rfl rfl (Yld.pickF rfl rfl rfl) ?_
      refine WP.val rfl rfl rfl rfl (Yld.move rfl rfl) ?_
      refine WP.passG rfl rfl rfl rfl rfl rfl rfl rfl ?_
      refine WP.passG rfl rfl rfl rfl rfl rfl rfl rfl ?_
      refine WP.passG rfl rfl rfl rfl rfl rfl rfl rfl ?_
      refine WP.val rfl rfl rfl rfl (Yld.pickT rfl rfl rfl) ?_
      refine WP.val rfl rfl rfl rfl (Yld.move rfl rfl) ?_
      refine WP.passG rfl rfl rfl rfl rfl rfl rfl rfl ?_
      refine WP.passG rfl rfl rfl rfl rfl rfl rfl rfl ?_
      refine WP.passG rfl rfl rfl rfl rfl rfl rfl rfl ?_
      refine WP.val rfl rfl rfl rfl (Yld.pickT rfl rfl rfl) ?_
      refine WP.nil ?_
      refine WP.sub [(0, _), (1, _), (2, _), (20, _)] ?_ ⟨rfl, rfl, rfl, rfl, trivial⟩
      refine WP.next ?_
      refine WP.condT rfl ?_
      refine WP.seq ?_
      refine WP.region [0] rfl ?_
      refine WP.val rfl rfl rfl rfl (Yld.assign rfl rfl) ?_
      refine WP.nil ?_
      refine WP.next ?_
      refine WP.ret ?_
      refine WP.fin .ret (.inr rfl) (res1 rfl rfl) [] (by repeat (first | exact Take.nil | with_reducible apply Take.cons | apply Take.app | exact Rm.chunk | exact Rm.here | exact Rm.nil0 | apply Rm.skip | apply Rm.skipS | (focus (apply Take.all; (repeat (first | exact Rm.chunk | exact Rm.here | exact Rm.nil0 | apply Rm.skip | apply Rm.skipS)); done)) | apply Take.cons)) (by repeat (first | exact Leave.done | apply Leave.drop | apply Leave.dropS)) (Imm.le_refl _) ?_
      exact ⟨_, rfl, ⟨fun h => Bool.noConfusion h, fun h => (by obtain ⟨q1, q2, q3, q4, q5⟩ := h; omega)⟩, rfl, rfl⟩
    · refine WP.val rfl rfl rfl rfl (Yld.pickF rfl rfl rfl) ?_
      refine WP.val rfl rfl rfl rfl (Yld.move rfl rfl) ?_
      refine WP.valG rfl rfl rfl rfl rfl rfl rfl (Yld.fieldAddr rfl ty_fd_23_3 rfl) ?_
      refine WP.valG rfl rfl rfl rfl rfl rfl rfl (Yld.load rfl ty_sc_3 rfl (by repeat (first | exact There.h | exact There.i (by assumption) | apply There.t | apply There.s)) rfl) ?_
      refine WP.splitG rfl rfl rfl rfl rfl rfl rfl (Yld.lss rfl rfl rfl) (fun c1_11 => ?_) (fun c1_11 => ?_)
      · refine WP.val rfl rfl rfl rfl (Yld.pickF rfl rfl rfl) ?_
        refine WP.val rfl rfl rfl rfl (Yld.move rfl rfl) ?_
        refine WP.passG rfl rfl rfl rfl rfl rfl rfl rfl ?_
        refine WP.passG rfl rfl rfl rfl rfl rfl rfl rfl ?_
        refine WP.passG rfl rfl rfl rfl rfl rfl rfl rfl ?_
        refine WP.val rfl rfl rfl rfl (Yld.pickT rfl rfl rfl) ?_
        refine WP.nil ?_
        refine WP.sub [(0, _), (1, _), (2, _), (20, _)] ?_ ⟨rfl, rfl, rfl, rfl, trivial⟩
        refine WP.next ?_
        refine WP.condT rfl ?_
        refine WP.seq ?_
        refine WP.region [0] rfl ?_
        refine WP.val rfl rfl rfl rfl (Yld.assign rfl rfl) ?_
        refine WP.nil ?_
        refine WP.next ?_
        refine WP.ret ?_
        refine WP.fin .ret (.inr rfl) (res1 rfl rfl) [] (by repeat (first | exact Take.nil | with_reducible apply Take.cons | apply Take.app | exact Rm.chunk | exact Rm.here | exact Rm.nil0 | apply Rm.skip | apply Rm.skipS | (focus (apply Take.all; (repeat (first | exact Rm.chunk | exact Rm.here | exact Rm.nil0 | apply Rm.skip | apply Rm.skipS)); done)) | apply Take.cons)) (by repeat (first | exact Leave.done | apply Leave.drop | apply Leave.dropS)) (Imm.le_refl _) ?_
        exact ⟨_, rfl, ⟨fun h => Bool.noConfusion h, fun h => (by obtain ⟨q1, q2, q3, q4, q5⟩ := h; omega)⟩, rfl, rfl⟩
      · refine WP.val rfl rfl rfl rfl (Yld.pickF rfl rfl rfl) ?_
        refine WP.val rfl rfl rfl rfl (Yld.move rfl rfl) ?_
        refine WP.valG rfl rfl rfl rfl rfl rfl rfl (Yld.fieldAddr rfl ty_fd_23_3 rfl) ?_
        refine WP.valG rfl rfl rfl rfl rfl rfl rfl (Yld.load rfl ty_sc_3 rfl (by repeat (first | exact There.h | exact There.i (by assumption) | apply There.t | apply There.s)) rfl) ?_
        refine WP.splitG rfl rfl rfl rfl rfl rfl rfl (Yld.gtr rfl rfl rfl) (fun c1_16 => ?_) (fun c1_16 => ?_)
        · refine WP.val rfl rfl rfl rfl (Yld.pickF rfl rfl rfl) ?_
          refine WP.nil ?_
          refine WP.sub [(0, _), (1, _), (2, _), (20, _)] ?_ ⟨rfl, rfl, rfl, rfl, trivial⟩
          refine WP.next ?_
          refine WP.condT rfl ?_
          refine WP.seq ?_
          refine WP.region [0] rfl ?_
          refine WP.val rfl rfl rfl rfl (Yld.assign rfl rfl) ?_
          refine WP.nil ?_
          refine WP.next ?_
          refine WP.ret ?_
          refine WP.fin .ret (.inr rfl) (res1 rfl rfl) [] (by repeat (first | exact Take.nil | with_reducible apply Take.cons | apply Take.app | exact Rm.chunk | exact Rm.here | exact Rm.nil0 | apply Rm.skip | apply Rm.skipS | (focus (apply Take.all; (repeat (first | exact Rm.chunk | exact Rm.here | exact Rm.nil0 | apply Rm.skip | apply Rm.skipS)); done)) | apply Take.cons)) (by repeat (first | exact Leave.done | apply Leave.drop | apply Leave.dropS)) (Imm.le_refl _) ?_
          exact ⟨_, rfl, ⟨fun h => Bool.noConfusion h, fun h => (by obtain ⟨q1, q2, q3, q4, q5⟩ := h; omega)⟩, rfl, rfl⟩
        · refine WP.val rfl rfl rfl rfl (Yld.pickF rfl rfl rfl) ?_
          refine WP.nil ?_
          refine WP.sub [(0, _), (1, _), (2, _), (20, _)] ?_ ⟨rfl, rfl, rfl, rfl, trivial⟩
          refine WP.next ?_
          refine WP.condF rfl ?_
          refine WP.skip ?_
          refine WP.next ?_
          refine WP.seq ?_
          refine WP.region [0, 1, 2, 3, 4, 5, 6, 7, 8, 9, 10, 11, 12, 13, 14, 15, 16, 17, 18, 19, 20, 21, 22, 23, 24, 25, 26, 27, 28] rfl ?_
          refine WP.val rfl rfl rfl rfl (Yld.fieldAddr rfl ty_fd_23_1 rfl) ?_
          refine WP.val rfl rfl rfl rfl (Yld.load rfl ty_sc_3 rfl (by repeat (first | exact There.h | exact There.i (by assumption) | apply There.t | apply There.s)) rfl) ?_
          refine WP.split rfl rfl rfl rfl (Yld.geq rfl rfl rfl) (fun c3_2 => ?_) (fun c3_2 => ?_)
          · refine WP.val rfl rfl rfl rfl (Yld.move rfl rfl) ?_
            refine WP.valG rfl rfl rfl rfl rfl rfl rfl (Yld.fieldAddr rfl ty_fd_23_1 rfl) ?_
            refine WP.valG rfl rfl rfl rfl rfl rfl rfl (Yld.load rfl ty_sc_3 rfl (by repeat (first | exact There.h | exact There.i (by assumption) | apply There.t | apply There.s)) rfl) ?_
            refine WP.splitG rfl rfl rfl rfl rfl rfl rfl (Yld.leq rfl rfl rfl) (fun c3_6 => ?_) (fun c3_6 => ?_)
            · refine WP.val rfl rfl rfl rfl (Yld.pickT rfl rfl rfl) ?_
              refine WP.val rfl rfl rfl rfl (Yld.move rfl rfl) ?_
              refine WP.valG rfl rfl rfl rfl rfl rfl rfl (Yld.fieldAddr rfl ty_fd_23_4 rfl) ?_
              refine WP.valG rfl rfl rfl rfl rfl rfl rfl (Yld.load rfl ty_sc_3 rfl (by repeat (first | exact There.h | exact There.i (by assumption) | apply There.t | apply There.s)) rfl) ?_
              refine WP.splitG rfl rfl rfl rfl rfl rfl rfl (Yld.geq rfl rfl rfl) (fun c3_11 => ?_) (fun c3_11 => ?_)
              · refine WP.val rfl rfl rfl rfl (Yld.pickT rfl rfl rfl) ?_
                refine WP.val rfl rfl rfl rfl (Yld.move rfl rfl) ?_
                refine WP.valG rfl rfl rfl rfl rfl rfl rfl (Yld.fieldAddr rfl ty_fd_23_4 rfl) ?_
                refine WP.valG rfl rfl rfl rfl rfl rfl rfl (Yld.load rfl ty_sc_3 rfl (by repeat (first | exact There.h | exact There.i (by assumption) | apply There.t | apply There.s)) rfl) ?_
                refine WP.splitG rfl rfl rfl rfl rfl rfl rfl (Yld.leq rfl rfl rfl) (fun c3_16 => ?_) (fun c3_16 => ?_)
                · refine WP.val rfl rfl rfl rfl (Yld.pickT rfl rfl rfl) ?_
                  refine WP.val rfl rfl rfl rfl (Yld.move rfl rfl) ?_
                  refine WP.valG rfl rfl rfl rfl rfl rfl rfl (Yld.fieldAddr rfl ty_fd_23_2 rfl) ?_
                  refine WP.valG rfl rfl rfl rfl rfl rfl rfl (Yld.load rfl ty_sc_3 rfl (by repeat (first | exact There.h | exact There.i (by assumption) | apply There.t | apply There.s)) rfl) ?_
                  refine WP.splitG rfl rfl rfl rfl rfl rfl rfl (Yld.geq rfl rfl rfl) (fun c3_21 => ?_) (fun c3_21 => ?_)
                  · refine WP.val rfl rfl rfl rfl (Yld.pickT rfl rfl rfl) ?_
                    refine WP.val rfl rfl rfl rfl (Yld.move rfl rfl) ?_
                    refine WP.valG rfl rfl rfl rfl rfl rfl rfl (Yld.fieldAddr rfl ty_fd_23_2 rfl) ?_
                    refine WP.valG rfl rfl rfl rfl rfl rfl rfl (Yld.load rfl ty_sc_3 rfl (by repeat (first | exact There.h | exact There.i (by assumption) | apply There.t | apply There.s)) rfl) ?_
                    refine WP.splitG rfl rfl rfl rfl rfl rfl rfl (Yld.leq rfl rfl rfl) (fun c3_26 => ?_) (fun c3_26 => ?_)
                    · refine WP.val rfl rfl rfl rfl (Yld.pickT rfl rfl rfl) ?_
                      refine WP.val rfl rfl rfl rfl (Yld.assign rfl rfl) ?_
                      refine WP.nil ?_
                      refine WP.sub [(0, _), (1, _), (2, _), (20, _)] ?_ ⟨rfl, rfl, rfl, rfl, trivial⟩
                      refine WP.next ?_
                      refine WP.ret ?_
                      refine WP.fin .ret (.inr rfl) (res1 rfl rfl) [] (by repeat (first | exact Take.nil | with_reducible apply Take.cons | apply Take.app | exact Rm.chunk | exact Rm.here | exact Rm.nil0 | apply Rm.skip | apply Rm.skipS | (focus (apply Take.all; (repeat (first | exact Rm.chunk | exact Rm.here | exact Rm.nil0 | apply Rm.skip | apply Rm.skipS)); done)) | apply Take.cons)) (by repeat (first | exact Leave.done | apply Leave.drop | apply Leave.dropS)) (Imm.le_refl _) ?_
                      exact ⟨_, rfl, ⟨fun _ => ⟨(by omega), (by omega), (by omega), (by omega), (by omega)⟩, fun _ => rfl⟩, rfl, rfl⟩
                    · refine WP.val rfl rfl rfl rfl (Yld.pickT rfl rfl rfl) ?_
                      refine WP.val rfl rfl rfl rfl (Yld.assign rfl rfl) ?_
                      refine WP.nil ?_
                      refine WP.sub [(0, _), (1, _), (2, _), (20, _)] ?_ ⟨rfl, rfl, rfl, rfl, trivial⟩
                      refine WP.next ?_
                      refine WP.ret ?_
                      refine WP.fin .ret (.inr rfl) (res1 rfl rfl) [] (by repeat (first | exact Take.nil | with_reducible apply Take.cons | apply Take.app | exact Rm.chunk | exact Rm.here | exact Rm.nil0 | apply Rm.skip | apply Rm.skipS | (focus (apply Take.all; (repeat (first | exact Rm.chunk | exact Rm.here | exact Rm.nil0 | apply Rm.skip | apply Rm.skipS)); done)) | apply Take.cons)) (by repeat (first | exact Leave.done | apply Leave.drop | apply Leave.dropS)) (Imm.le_refl _) ?_
                      exact ⟨_, rfl, ⟨fun h => Bool.noConfusion h, fun h => (by obtain ⟨q1, q2, q3, q4, q5⟩ := h; omega)⟩, rfl, rfl⟩
                  · refine WP.val rfl rfl rfl rfl (Yld.pickT rfl rfl rfl) ?_
                    refine WP.val rfl rfl rfl rfl (Yld.move rfl rfl) ?_
                    refine WP.passG rfl rfl rfl rfl rfl rfl rfl rfl ?_
                    refine WP.passG rfl rfl rfl rfl rfl rfl rfl rfl ?_
                    refine WP.passG rfl rfl rfl rfl rfl rfl rfl rfl ?_
                    refine WP.val rfl rfl rfl rfl (Yld.pickF rfl rfl rfl) ?_
                    refine WP.val rfl rfl rfl rfl (Yld.assign rfl rfl) ?_
                    refine WP.nil ?_
                    refine WP.sub [(0, _), (1, _), (2, _), (20, _)] ?_ ⟨rfl, rfl, rfl, rfl, trivial⟩
                    refine WP.next ?_
                    refine WP.ret ?_
                    refine WP.fin .ret (.inr rfl) (res1 rfl rfl) [] (by repeat (first | exact Take.nil | with_reducible apply Take.cons | apply Take.app | exact Rm.chunk | exact Rm.here | exact Rm.nil0 | apply Rm.skip | apply Rm.skipS | (focus (apply Take.all; (repeat (first | exact Rm.chunk | exact Rm.here | exact Rm.nil0 | apply Rm.skip | apply Rm.skipS)); done)) | apply Take.cons)) (by repeat (first | exact Leave.done | apply Leave.drop | apply Leave.dropS)) (Imm.le_refl _) ?_
                    exact ⟨_, rfl, ⟨fun h => Bool.noConfusion h, fun h => (by obtain ⟨q1, q2, q3, q4, q5⟩ := h; omega)⟩, rfl, rfl⟩
                · refine WP.val rfl rfl rfl rfl (Yld.pickT rfl rfl rfl) ?_
                  refine WP.val rfl rfl rfl rfl (Yld.move rfl rfl) ?_
                  refine WP.passG rfl rfl rfl rfl rfl rfl rfl rfl ?_
                  refine WP.passG rfl rfl rfl rfl rfl rfl rfl rfl ?_
                  refine WP.passG rfl rfl rfl rfl rfl rfl rfl rfl ?_
                  refine WP.val rfl rfl rfl rfl (Yld.pickF rfl rfl rfl) ?_
                  refine WP.val rfl rfl rfl rfl (Yld.move rfl rfl) ?_
                  refine WP.passG rfl rfl rfl rfl rfl rfl rfl rfl ?_
                  refine WP.passG rfl rfl rfl rfl rfl rfl rfl rfl ?_
                  refine WP.passG rfl rfl rfl rfl rfl rfl rfl rfl ?_
                  refine WP.val rfl rfl rfl rfl (Yld.pickF rfl rfl rfl) ?_
                  refine WP.val rfl rfl rfl rfl (Yld.assign rfl rfl) ?_
                  refine WP.nil ?_
                  refine WP.sub [(0, _), (1, _), (2, _), (20, _)] ?_ ⟨rfl, rfl, rfl, rfl, trivial⟩
                  refine WP.next ?_
                  refine WP.ret ?_
                  refine WP.fin .ret (.inr rfl) (res1 rfl rfl) [] (by repeat (first | exact Take.nil | with_reducible apply Take.cons | apply Take.app | exact Rm.chunk | exact Rm.here | exact Rm.nil0 | apply Rm.skip | apply Rm.skipS | (focus (apply Take.all; (repeat (first | exact Rm.chunk | exact Rm.here | exact Rm.nil0 | apply Rm.skip | apply Rm.skipS)); done)) | apply Take.cons)) (by repeat (first | exact Leave.done | apply Leave.drop | apply Leave.dropS)) (Imm.le_refl _) ?_
                  exact ⟨_, rfl, ⟨fun h => Bool.noConfusion h, fun h => (by obtain ⟨q1, q2, q3, q4, q5⟩ := h; omega)⟩, rfl, rfl⟩
              · refine WP.val rfl rfl rfl rfl (Yld.pickT rfl rfl rfl) ?_
                refine WP.val rfl rfl rfl rfl (Yld.move rfl rfl) ?_
                refine WP.passG rfl rfl rfl rfl rfl rfl rfl rfl ?_
                refine WP.passG rfl rfl rfl rfl rfl rfl rfl rfl ?_
                refine WP.passG rfl rfl rfl rfl rfl rfl rfl rfl ?_
                refine WP.val rfl rfl rfl rfl (Yld.pickF rfl rfl rfl) ?_
                refine WP.val rfl rfl rfl rfl (Yld.move rfl rfl) ?_
                refine WP.passG rfl rfl rfl rfl rfl rfl rfl rfl ?_
                refine WP.passG rfl rfl rfl rfl rfl rfl rfl rfl ?_
                refine WP.passG rfl rfl rfl rfl rfl rfl rfl rfl ?_
                refine WP.val rfl rfl rfl rfl (Yld.pickF rfl rfl rfl) ?_
                refine WP.val rfl rfl rfl rfl (Yld.move rfl rfl) ?_
                refine WP.passG rfl rfl rfl rfl rfl rfl rfl rfl ?_
                refine WP.passG rfl rfl rfl rfl rfl rfl rfl rfl ?_
                refine WP.passG rfl rfl rfl rfl rfl rfl rfl rfl ?_
                refine WP.val rfl rfl rfl rfl (Yld.pickF rfl rfl rfl) ?_
                refine WP.val rfl rfl rfl rfl (Yld.assign rfl rfl) ?_
                refine WP.nil ?_
                refine WP.sub [(0, _), (1, _), (2, _), (20, _)] ?_ ⟨rfl, rfl, rfl, rfl, trivial⟩
                refine WP.next ?_
                refine WP.ret ?_
                refine WP.fin .ret (.inr rfl) (res1 rfl rfl) [] (by repeat (first | exact Take.nil | with_reducible apply Take.cons | apply Take.app | exact Rm.chunk | exact Rm.here | exact Rm.nil0 | apply Rm.skip | apply Rm.skipS | (focus (apply Take.all; (repeat (first | exact Rm.chunk | exact Rm.here | exact Rm.nil0 | apply Rm.skip | apply Rm.skipS)); done)) | apply Take.cons)) (by repeat (first | exact Leave.done | apply Leave.drop | apply Leave.dropS)) (Imm.le_refl _) ?_
                exact ⟨_, rfl, ⟨fun h => Bool.noConfusion h, fun h => (by obtain ⟨q1, q2, q3, q4, q5⟩ := h; omega)⟩, rfl, rfl⟩
            · refine WP.val rfl rfl rfl rfl (Yld.pickT rfl rfl rfl) ?_
              refine WP.val rfl rfl rfl rfl (Yld.move rfl rfl) ?_
              refine WP.passG rfl rfl rfl rfl rfl rfl rfl rfl ?_
              refine WP.passG rfl rfl rfl rfl rfl rfl rfl rfl ?_
              refine WP.passG rfl rfl rfl rfl rfl rfl rfl rfl ?_
              refine WP.val rfl rfl rfl rfl (Yld.pickF rfl rfl rfl) ?_
              refine WP.val rfl rfl rfl rfl (Yld.move rfl rfl) ?_
              refine WP.passG rfl rfl rfl rfl rfl rfl rfl rfl ?_
              refine WP.passG rfl rfl rfl rfl rfl rfl rfl rfl ?_
              refine WP.passG rfl rfl rfl rfl rfl rfl rfl rfl ?_
              refine WP.val rfl rfl rfl rfl (Yld.pickF rfl rfl rfl) ?_
              refine WP.val rfl rfl rfl rfl (Yld.move rfl rfl) ?_
              refine WP.passG rfl rfl rfl rfl rfl rfl rfl rfl ?_
              refine WP.passG rfl rfl rfl rfl rfl rfl rfl rfl ?_
              refine WP.passG rfl rfl rfl rfl rfl rfl rfl rfl ?_
              refine WP.val rfl rfl rfl rfl (Yld.pickF rfl rfl rfl) ?_
              refine WP.val rfl rfl rfl rfl (Yld.move rfl rfl) ?_
              refine WP.passG rfl rfl rfl rfl rfl rfl rfl rfl ?_
              refine WP.passG rfl rfl rfl rfl rfl rfl rfl rfl ?_
              refine WP.passG rfl rfl rfl rfl rfl rfl rfl rfl ?_
              refine WP.val rfl rfl rfl rfl (Yld.pickF rfl rfl rfl) ?_
              refine WP.val rfl rfl rfl rfl (Yld.assign rfl rfl) ?_
              refine WP.nil ?_
              refine WP.sub [(0, _), (1, _), (2, _), (20, _)] ?_ ⟨rfl, rfl, rfl, rfl, trivial⟩
              refine WP.next ?_
              refine WP.ret ?_
              refine WP.fin .ret (.inr rfl) (res1 rfl rfl) [] (by repeat (first | exact Take.nil | with_reducible apply Take.cons | apply Take.app | exact Rm.chunk | exact Rm.here | exact Rm.nil0 | apply Rm.skip | apply Rm.skipS | (focus (apply Take.all; (repeat (first | exact Rm.chunk | exact Rm.here | exact Rm.nil0 | apply Rm.skip | apply Rm.skipS)); done)) | apply Take.cons)) (by repeat (first | exact Leave.done | apply Leave.drop | apply Leave.dropS)) (Imm.le_refl _) ?_
              exact ⟨_, rfl, ⟨fun h => Bool.noConfusion h, fun h => (by obtain ⟨q1, q2, q3, q4, q5⟩ := h; omega)⟩, rfl, rfl⟩
          · refine WP.val rfl rfl rfl rfl (Yld.move rfl rfl) ?_
            refine WP.passG rfl rfl rfl rfl rfl rfl rfl rfl ?_
            refine WP.passG rfl rfl rfl rfl rfl rfl rfl rfl ?_
            refine WP.passG rfl rfl rfl rfl rfl rfl rfl rfl ?_
            refine WP.val rfl rfl rfl rfl (Yld.pickF rfl rfl rfl) ?_
            refine WP.val rfl rfl rfl rfl (Yld.move rfl rfl) ?_
            refine WP.passG rfl rfl rfl rfl rfl rfl rfl rfl ?_
            refine WP.passG rfl rfl rfl rfl rfl rfl rfl rfl ?_
            refine WP.passG rfl rfl rfl rfl rfl rfl rfl rfl ?_
            refine WP.val rfl rfl rfl rfl (Yld.pickF rfl rfl rfl) ?_
            refine WP.val rfl rfl rfl rfl (Yld.move rfl rfl) ?_
            refine WP.passG rfl rfl rfl rfl rfl rfl rfl rfl ?_
            refine WP.passG rfl rfl rfl rfl rfl rfl rfl rfl ?_
            refine WP.passG rfl rfl rfl rfl rfl rfl rfl rfl ?_
            refine WP.val rfl rfl rfl rfl (Yld.pickF rfl rfl rfl) ?_
            refine WP.val rfl rfl rfl rfl (Yld.move rfl rfl) ?_
            refine WP.passG rfl rfl rfl rfl rfl rfl rfl rfl ?_
            refine WP.passG rfl rfl rfl rfl rfl rfl rfl rfl ?_
            refine WP.passG rfl rfl rfl rfl rfl rfl rfl rfl ?_
            refine WP.val rfl rfl rfl rfl (Yld.pickF rfl rfl rfl) ?_
            refine WP.val rfl rfl rfl rfl (Yld.move rfl rfl) ?_
            refine WP.passG rfl rfl rfl rfl rfl rfl rfl rfl ?_
            refine WP.passG rfl rfl rfl rfl rfl rfl rfl rfl ?_
            refine WP.passG rfl rfl rfl rfl rfl rfl rfl rfl ?_
            refine WP.val rfl rfl rfl rfl (Yld.pickF rfl rfl rfl) ?_
            refine WP.val rfl rfl rfl rfl (Yld.assign rfl rfl) ?_
            refine WP.nil ?_
            refine WP.sub [(0, _), (1, _), (2, _), (20, _)] ?_ ⟨rfl, rfl, rfl, rfl, trivial⟩
            refine WP.next ?_
            refine WP.ret ?_
            refine WP.fin .ret (.inr rfl) (res1 rfl rfl) [] (by repeat (first | exact Take.nil | with_reducible apply Take.cons | apply Take.app | exact Rm.chunk | exact Rm.here | exact Rm.nil0 | apply Rm.skip | apply Rm.skipS | (focus (apply Take.all; (repeat (first | exact Rm.chunk | exact Rm.here | exact Rm.nil0 | apply Rm.skip | apply Rm.skipS)); done)) | apply Take.cons)) (by repeat (first | exact Leave.done | apply Leave.drop | apply Leave.dropS)) (Imm.le_refl _) ?_
            exact ⟨_, rfl, ⟨fun h => Bool.noConfusion h, fun h => (by obtain ⟨q1, q2, q3, q4, q5⟩ := h; omega)⟩, rfl, rfl⟩


end Go.Hp
