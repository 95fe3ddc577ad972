import Derived.Test.YtbgkfndnbngnmaaSegW
set_option linter.unusedVariables false
set_option linter.unusedSimpArgs false
namespace Go.Hp
open Go Go.Proofs

structure RPX where
  i : Nat
  vo : Value
  l : List (Pt × Value)
  Lo : Chunks
  Ld : Chunks
structure RPX.ok (no place era : Int) (b : List UInt8) (m : Nat) (t : RPX) : Prop where
  le : t.i ≤ m
  ow : Own 35 6 t.vo (pcells t.l) t.l.length t.Lo
  od : OData t.l t.Ld
  eq : t.l.map (·.1) = (List.range t.i).map (pcut no place era b m)
set_option maxHeartbeats 1000000 in
theorem ref_Parts {I : Imm} {no place era : Int} {b : List UInt8} {vb : Value} (hb : SlRd (Im I) vb b.length 1 (bytesV b)) (hbl : b.length ≤ 140737488351232) (hno : -9223372036854775808 ≤ no ∧ no ≤ 9223372036854775807) (hpl : -9223372036854775808 ≤ place ∧ place ≤ 9223372036854775807) : Spec Try.prog 10 [.int .i64 no, .int .i64 place, .int .i64 era, vb] I [] (fun v J L => ∃ vo l Lo Ld, v = .tuple #[vo, .int .i64 (pcutE no place era b)] ∧ l.map (·.1) = pcutL no place era b ∧ Own 35 6 vo (pcells l) l.length Lo ∧ OData l Ld ∧ L = Lo ++ Ld) := by
  refine Spec.of Try.func10 rfl Try.ntmps10 (Nat.le_of_ble_eq_true rfl) (fun F => ?_)
  try simp only [List.cons_append, List.nil_append, List.append_assoc]
  dsimp only [argsEnv]
  refine WP.seq ?_
  refine WP.region [0, 1] rfl ?_
  refine WP.val rfl rfl rfl rfl (Yld.assign rfl rfl) ?_
  refine WP.val rfl rfl rfl rfl (Yld.assign rfl rfl) ?_
  refine WP.nil ?_
  refine WP.next ?_
  refine WP.seq ?_
  refine WP.seq ?_
  refine WP.region [0, 1, 2] rfl ?_
  refine WP.val rfl rfl rfl rfl (Yld.move rfl rfl) ?_
  refine WP.val rfl rfl rfl rfl (Yld.lenR hb rfl ty_sl_22 rfl) ?_
  refine WP.split rfl rfl rfl rfl (Yld.gtr rfl rfl rfl) (fun hlong => ?_) (fun hlong => ?_)
  · refine WP.nil ?_
    refine WP.sub [(0, _), (1, _), (2, _), (3, _), (8, _), (9, _), (16, _)] ?_ ⟨rfl, rfl, rfl, rfl, rfl, rfl, rfl, trivial⟩
    refine WP.next ?_
    refine WP.condT rfl ?_
    refine WP.seq ?_
    refine WP.region [0, 1] rfl ?_
    refine WP.val rfl rfl rfl rfl (Yld.assign rfl rfl) ?_
    refine WP.val rfl rfl rfl rfl (Yld.assign rfl rfl) ?_
    refine WP.nil ?_
    refine WP.next ?_
    refine WP.ret ?_
    refine WP.fin .ret (.inr rfl) (res2 rfl rfl rfl) [] (by repeat (first | exact Take.nil | with_reducible apply Take.cons | apply Take.app | exact Rm.chunk | exact Rm.here | exact Rm.nil0 | apply Rm.skip | apply Rm.skipS | (focus (apply Take.all; (repeat (first | exact Rm.chunk | exact Rm.here | exact Rm.nil0 | apply Rm.skip | apply Rm.skipS)); done)) | apply Take.cons)) (by repeat (first | exact Leave.done | apply Leave.drop | apply Leave.dropS)) (Imm.le_refl _) ?_
    have e : pcutE no place era b = 2 := if_pos (by omega)
    have e2 : pcutL no place era b = [] := if_neg (by rw [e]; decide)
    rw [e, e2]; exact ⟨_, [], [], [], rfl, rfl, .none0, .nil, rfl⟩
  · have hlong : b.length ≤ 12672 := by omega
    refine WP.nil ?_
    refine WP.sub [(0, _), (1, _), (2, _), (3, _), (8, _), (9, _), (16, _)] ?_ ⟨rfl, rfl, rfl, rfl, rfl, rfl, rfl, trivial⟩
    refine WP.next ?_
    refine WP.condF rfl ?_
    refine WP.skip ?_
    refine WP.next ?_
    refine WP.seq ?_
    refine WP.region [0, 1, 2, 3, 4, 5] rfl ?_
    refine WP.val rfl rfl rfl rfl (Yld.move rfl rfl) ?_
    refine WP.val rfl rfl rfl rfl (Yld.lenR hb rfl ty_sl_22 rfl) ?_
    refine WP.val rfl rfl rfl rfl (Yld.add64 rfl rfl rfl (by omega)) ?_
    refine WP.val rfl rfl rfl rfl (Yld.sub64 rfl rfl rfl (by omega)) ?_
    refine WP.val rfl rfl rfl rfl (Yld.quo64 rfl rfl rfl (by omega)) ?_
    rw [show ((b.length : Int) + 198 - 1) / 198 = (pmanyOf b : Int) by unfold pmanyOf; omega]
    have hmb : pmanyOf b ≤ 64 := by unfold pmanyOf; omega
    refine WP.val rfl rfl rfl rfl (Yld.assign rfl rfl) ?_
    refine WP.nil ?_
    refine WP.sub [(0, _), (1, _), (2, _), (3, _), (8, _), (9, _), (10, _), (16, _)] ?_ ⟨rfl, rfl, rfl, rfl, rfl, rfl, rfl, rfl, trivial⟩
    refine WP.next ?_
    refine WP.seq ?_
    refine WP.seq ?_
    refine WP.region [0, 1, 2, 3, 4, 5, 6, 7, 8, 9, 10, 11, 12, 13, 14, 15, 16, 17, 18, 19, 20, 21, 22, 23, 24, 25, 26, 27, 28] rfl ?_
    refine WP.val rfl rfl rfl rfl (Yld.move rfl rfl) ?_
    refine WP.split rfl rfl rfl rfl (Yld.eql rfl rfl rfl) (fun hz => ?_) (fun hz => ?_)
    · refine WP.val rfl rfl rfl rfl (Yld.move rfl rfl) ?_
      refine WP.passG rfl rfl rfl rfl rfl rfl rfl rfl ?_
      refine WP.passG rfl rfl rfl rfl rfl rfl rfl rfl ?_
      refine WP.val rfl rfl rfl rfl (Yld.pickT rfl rfl rfl) ?_
      refine WP.val rfl rfl rfl rfl (Yld.move rfl rfl) ?_
      refine WP.passG rfl rfl rfl rfl rfl rfl rfl rfl ?_
      refine WP.passG rfl rfl rfl rfl rfl rfl rfl rfl ?_
      refine WP.val rfl rfl rfl rfl (Yld.pickT rfl rfl rfl) ?_
      refine WP.val rfl rfl rfl rfl (Yld.move rfl rfl) ?_
      refine WP.passG rfl rfl rfl rfl rfl rfl rfl rfl ?_
      refine WP.passG rfl rfl rfl rfl rfl rfl rfl rfl ?_
      refine WP.val rfl rfl rfl rfl (Yld.pickT rfl rfl rfl) ?_
      refine WP.val rfl rfl rfl rfl (Yld.move rfl rfl) ?_
      refine WP.passG rfl rfl rfl rfl rfl rfl rfl rfl ?_
      refine WP.passG rfl rfl rfl rfl rfl rfl rfl rfl ?_
      refine WP.val rfl rfl rfl rfl (Yld.pickT rfl rfl rfl) ?_
      refine WP.val rfl rfl rfl rfl (Yld.move rfl rfl) ?_
      refine WP.passG rfl rfl rfl rfl rfl rfl rfl rfl ?_
      refine WP.passG rfl rfl rfl rfl rfl rfl rfl rfl ?_
      refine WP.val rfl rfl rfl rfl (Yld.pickT rfl rfl rfl) ?_
      refine WP.val rfl rfl rfl rfl (Yld.move rfl rfl) ?_
      refine WP.passG rfl rfl rfl rfl rfl rfl rfl rfl ?_
      refine WP.passG rfl rfl rfl rfl rfl rfl rfl rfl ?_
      refine WP.passG rfl rfl rfl rfl rfl rfl rfl rfl ?_
      refine WP.passG rfl rfl rfl rfl rfl rfl rfl rfl ?_
      refine WP.passG rfl rfl rfl rfl rfl rfl rfl rfl ?_
      refine WP.val rfl rfl rfl rfl (Yld.pickT rfl rfl rfl) ?_
      refine WP.nil ?_
      refine WP.sub [(0, _), (1, _), (2, _), (3, _), (8, _), (9, _), (10, _), (16, _), (50, _)] ?_ ⟨rfl, rfl, rfl, rfl, rfl, rfl, rfl, rfl, rfl, trivial⟩
      refine WP.next ?_
      refine WP.condT rfl ?_
      refine WP.seq ?_
      refine WP.region [0, 1] rfl ?_
      refine WP.val rfl rfl rfl rfl (Yld.assign rfl rfl) ?_
      refine WP.val rfl rfl rfl rfl (Yld.assign rfl rfl) ?_
      refine WP.nil ?_
      refine WP.next ?_
      refine WP.ret ?_
      refine WP.fin .ret (.inr rfl) (res2 rfl rfl rfl) [] (by repeat (first | exact Take.nil | with_reducible apply Take.cons | apply Take.app | exact Rm.chunk | exact Rm.here | exact Rm.nil0 | apply Rm.skip | apply Rm.skipS | (focus (apply Take.all; (repeat (first | exact Rm.chunk | exact Rm.here | exact Rm.nil0 | apply Rm.skip | apply Rm.skipS)); done)) | apply Take.cons)) (by repeat (first | exact Leave.done | apply Leave.drop | apply Leave.dropS)) (Imm.le_refl _) ?_
      have e : pcutE no place era b = 1 := by unfold pcutE; rw [if_neg (by omega), if_pos (.inl (by omega))]
      have e2 : pcutL no place era b = [] := if_neg (by rw [e]; decide)
      rw [e, e2]; exact ⟨_, [], [], [], rfl, rfl, .none0, .nil, rfl⟩
    · refine WP.val rfl rfl rfl rfl (Yld.move rfl rfl) ?_
      refine WP.valG rfl rfl rfl rfl rfl rfl rfl (Yld.move rfl rfl) ?_
      refine WP.splitG rfl rfl rfl rfl rfl rfl rfl (Yld.lss rfl rfl rfl) (fun r1 => ?_) (fun r1 => ?_)
      · refine WP.val rfl rfl rfl rfl (Yld.pickF rfl rfl rfl) ?_
        refine WP.val rfl rfl rfl rfl (Yld.move rfl rfl) ?_
        refine WP.passG rfl rfl rfl rfl rfl rfl rfl rfl ?_
        refine WP.passG rfl rfl rfl rfl rfl rfl rfl rfl ?_
        refine WP.val rfl rfl rfl rfl (Yld.pickT rfl rfl rfl) ?_
        refine WP.val rfl rfl rfl rfl (Yld.move rfl rfl) ?_
        refine WP.passG rfl rfl rfl rfl rfl rfl rfl rfl ?_
        refine WP.passG rfl rfl rfl rfl rfl rfl rfl rfl ?_
        refine WP.val rfl rfl rfl rfl (Yld.pickT rfl rfl rfl) ?_
        refine WP.val rfl rfl rfl rfl (Yld.move rfl rfl) ?_
        refine WP.passG rfl rfl rfl rfl rfl rfl rfl rfl ?_
        refine WP.passG rfl rfl rfl rfl rfl rfl rfl rfl ?_
        refine WP.val rfl rfl rfl rfl (Yld.pickT rfl rfl rfl) ?_
        refine WP.val rfl rfl rfl rfl (Yld.move rfl rfl) ?_
        refine WP.passG rfl rfl rfl rfl rfl rfl rfl rfl ?_
        refine WP.passG rfl rfl rfl rfl rfl rfl rfl rfl ?_
        refine WP.val rfl rfl rfl rfl (Yld.pickT rfl rfl rfl) ?_
        refine WP.val rfl rfl rfl rfl (Yld.move rfl rfl) ?_
        refine WP.passG rfl rfl rfl rfl rfl rfl rfl rfl ?_
        refine WP.passG rfl rfl rfl rfl rfl rfl rfl rfl ?_
        refine WP.passG rfl rfl rfl rfl rfl rfl rfl rfl ?_
        refine WP.passG rfl rfl rfl rfl rfl rfl rfl rfl ?_
        refine WP.passG rfl rfl rfl rfl rfl rfl rfl rfl ?_
        refine WP.val rfl rfl rfl rfl (Yld.pickT rfl rfl rfl) ?_
        refine WP.nil ?_
        refine WP.sub [(0, _), (1, _), (2, _), (3, _), (8, _), (9, _), (10, _), (16, _), (50, _)] ?_ ⟨rfl, rfl, rfl, rfl, rfl, rfl, rfl, rfl, rfl, trivial⟩
        refine WP.next ?_
        refine WP.condT rfl ?_
        refine WP.seq ?_
        refine WP.region [0, 1] rfl ?_
        refine WP.val rfl rfl rfl rfl (Yld.assign rfl rfl) ?_
        refine WP.val rfl rfl rfl rfl (Yld.assign rfl rfl) ?_
        refine WP.nil ?_
        refine WP.next ?_
        refine WP.ret ?_
        refine WP.fin .ret (.inr rfl) (res2 rfl rfl rfl) [] (by repeat (first | exact Take.nil | with_reducible apply Take.cons | apply Take.app | exact Rm.chunk | exact Rm.here | exact Rm.nil0 | apply Rm.skip | apply Rm.skipS | (focus (apply Take.all; (repeat (first | exact Rm.chunk | exact Rm.here | exact Rm.nil0 | apply Rm.skip | apply Rm.skipS)); done)) | apply Take.cons)) (by repeat (first | exact Leave.done | apply Leave.drop | apply Leave.dropS)) (Imm.le_refl _) ?_
        have e : pcutE no place era b = 1 := by unfold pcutE; rw [if_neg (by omega), if_pos (.inr (.inr (.inr (fun h => (by have w1 : 1 ≤ no ∧ no ≤ 1099511627776 := h.no; have w2 : 1 ≤ era ∧ era ≤ 4294967295 := h.era; omega)))))]
        have e2 : pcutL no place era b = [] := if_neg (by rw [e]; decide)
        rw [e, e2]; exact ⟨_, [], [], [], rfl, rfl, .none0, .nil, rfl⟩
      · refine WP.val rfl rfl rfl rfl (Yld.pickF rfl rfl rfl) ?_
        refine WP.val rfl rfl rfl rfl (Yld.move rfl rfl) ?_
        refine WP.valG rfl rfl rfl rfl rfl rfl rfl (Yld.move rfl rfl) ?_
        refine WP.splitG rfl rfl rfl rfl rfl rfl rfl (Yld.gtr rfl rfl rfl) (fun r2 => ?_) (fun r2 => ?_)
        · refine WP.val rfl rfl rfl rfl (Yld.pickF rfl rfl rfl) ?_
          refine WP.val rfl rfl rfl rfl (Yld.move rfl rfl) ?_
          refine WP.passG rfl rfl rfl rfl rfl rfl rfl rfl ?_
          refine WP.passG rfl rfl rfl rfl rfl rfl rfl rfl ?_
          refine WP.val rfl rfl rfl rfl (Yld.pickT rfl rfl rfl) ?_
          refine WP.val rfl rfl rfl rfl (Yld.move rfl rfl) ?_
          refine WP.passG rfl rfl rfl rfl rfl rfl rfl rfl ?_
          refine WP.passG rfl rfl rfl rfl rfl rfl rfl rfl ?_
          refine WP.val rfl rfl rfl rfl (Yld.pickT rfl rfl rfl) ?_
          refine WP.val rfl rfl rfl rfl (Yld.move rfl rfl) ?_
          refine WP.passG rfl rfl rfl rfl rfl rfl rfl rfl ?_
          refine WP.passG rfl rfl rfl rfl rfl rfl rfl rfl ?_
          refine WP.val rfl rfl rfl rfl (Yld.pickT rfl rfl rfl) ?_
          refine WP.val rfl rfl rfl rfl (Yld.move rfl rfl) ?_
          refine WP.passG rfl rfl rfl rfl rfl rfl rfl rfl ?_
          refine WP.passG rfl rfl rfl rfl rfl rfl rfl rfl ?_
          refine WP.passG rfl rfl rfl rfl rfl rfl rfl rfl ?_
          refine WP.passG rfl rfl rfl rfl rfl rfl rfl rfl ?_
          refine WP.passG rfl rfl rfl rfl rfl rfl rfl rfl ?_
          refine WP.val rfl rfl rfl rfl (Yld.pickT rfl rfl rfl) ?_
          refine WP.nil ?_
          refine WP.sub [(0, _), (1, _), (2, _), (3, _), (8, _), (9, _), (10, _), (16, _), (50, _)] ?_ ⟨rfl, rfl, rfl, rfl, rfl, rfl, rfl, rfl, rfl, trivial⟩
          refine WP.next ?_
          refine WP.condT rfl ?_
          refine WP.seq ?_
          refine WP.region [0, 1] rfl ?_
          refine WP.val rfl rfl rfl rfl (Yld.assign rfl rfl) ?_
          refine WP.val rfl rfl rfl rfl (Yld.assign rfl rfl) ?_
          refine WP.nil ?_
          refine WP.next ?_
          refine WP.ret ?_
          refine WP.fin .ret (.inr rfl) (res2 rfl rfl rfl) [] (by repeat (first | exact Take.nil | with_reducible apply Take.cons | apply Take.app | exact Rm.chunk | exact Rm.here | exact Rm.nil0 | apply Rm.skip | apply Rm.skipS | (focus (apply Take.all; (repeat (first | exact Rm.chunk | exact Rm.here | exact Rm.nil0 | apply Rm.skip | apply Rm.skipS)); done)) | apply Take.cons)) (by repeat (first | exact Leave.done | apply Leave.drop | apply Leave.dropS)) (Imm.le_refl _) ?_
          have e : pcutE no place era b = 1 := by unfold pcutE; rw [if_neg (by omega), if_pos (.inr (.inr (.inr (fun h => (by have w1 : 1 ≤ no ∧ no ≤ 1099511627776 := h.no; have w2 : 1 ≤ era ∧ era ≤ 4294967295 := h.era; omega)))))]
          have e2 : pcutL no place era b = [] := if_neg (by rw [e]; decide)
          rw [e, e2]; exact ⟨_, [], [], [], rfl, rfl, .none0, .nil, rfl⟩
        · refine WP.val rfl rfl rfl rfl (Yld.pickF rfl rfl rfl) ?_
          refine WP.val rfl rfl rfl rfl (Yld.move rfl rfl) ?_
          refine WP.valG rfl rfl rfl rfl rfl rfl rfl (Yld.move rfl rfl) ?_
          refine WP.splitG rfl rfl rfl rfl rfl rfl rfl (Yld.lss rfl rfl rfl) (fun r3 => ?_) (fun r3 => ?_)
          · refine WP.val rfl rfl rfl rfl (Yld.pickF rfl rfl rfl) ?_
            refine WP.val rfl rfl rfl rfl (Yld.move rfl rfl) ?_
            refine WP.passG rfl rfl rfl rfl rfl rfl rfl rfl ?_
            refine WP.passG rfl rfl rfl rfl rfl rfl rfl rfl ?_
            refine WP.val rfl rfl rfl rfl (Yld.pickT rfl rfl rfl) ?_
            refine WP.val rfl rfl rfl rfl (Yld.move rfl rfl) ?_
            refine WP.passG rfl rfl rfl rfl rfl rfl rfl rfl ?_
            refine WP.passG rfl rfl rfl rfl rfl rfl rfl rfl ?_
            refine WP.val rfl rfl rfl rfl (Yld.pickT rfl rfl rfl) ?_
            refine WP.val rfl rfl rfl rfl (Yld.move rfl rfl) ?_
            refine WP.passG rfl rfl rfl rfl rfl rfl rfl rfl ?_
            refine WP.passG rfl rfl rfl rfl rfl rfl rfl rfl ?_
            refine WP.passG rfl rfl rfl rfl rfl rfl rfl rfl ?_
            refine WP.passG rfl rfl rfl rfl rfl rfl rfl rfl ?_
            refine WP.passG rfl rfl rfl rfl rfl rfl rfl rfl ?_
            refine WP.val rfl rfl rfl rfl (Yld.pickT rfl rfl rfl) ?_
            refine WP.nil ?_
            refine WP.sub [(0, _), (1, _), (2, _), (3, _), (8, _), (9, _), (10, _), (16, _), (50, _)] ?_ ⟨rfl, rfl, rfl, rfl, rfl, rfl, rfl, rfl, rfl, trivial⟩
            refine WP.next ?_
            refine WP.condT rfl ?_
            refine WP.seq ?_
            refine WP.region [0, 1] rfl ?_
            refine WP.val rfl rfl rfl rfl (Yld.assign rfl rfl) ?_
            refine WP.val rfl rfl rfl rfl (Yld.assign rfl rfl) ?_
            refine WP.nil ?_
            refine WP.next ?_
            refine WP.ret ?_
            refine WP.fin .ret (.inr rfl) (res2 rfl rfl rfl) [] (by repeat (first | exact Take.nil | with_reducible apply Take.cons | apply Take.app | exact Rm.chunk | exact Rm.here | exact Rm.nil0 | apply Rm.skip | apply Rm.skipS | (focus (apply Take.all; (repeat (first | exact Rm.chunk | exact Rm.here | exact Rm.nil0 | apply Rm.skip | apply Rm.skipS)); done)) | apply Take.cons)) (by repeat (first | exact Leave.done | apply Leave.drop | apply Leave.dropS)) (Imm.le_refl _) ?_
            have e : pcutE no place era b = 1 := by unfold pcutE; rw [if_neg (by omega), if_pos (.inr (.inr (.inr (fun h => (by have w1 : 1 ≤ no ∧ no ≤ 1099511627776 := h.no; have w2 : 1 ≤ era ∧ era ≤ 4294967295 := h.era; omega)))))]
            have e2 : pcutL no place era b = [] := if_neg (by rw [e]; decide)
            rw [e, e2]; exact ⟨_, [], [], [], rfl, rfl, .none0, .nil, rfl⟩
          · refine WP.val rfl rfl rfl rfl (Yld.pickF rfl rfl rfl) ?_
            refine WP.val rfl rfl rfl rfl (Yld.move rfl rfl) ?_
            refine WP.valG rfl rfl rfl rfl rfl rfl rfl (Yld.move rfl rfl) ?_
            refine WP.splitG rfl rfl rfl rfl rfl rfl rfl (Yld.gtr rfl rfl rfl) (fun r4 => ?_) (fun r4 => ?_)
            · refine WP.val rfl rfl rfl rfl (Yld.pickF rfl rfl rfl) ?_
              refine WP.val rfl rfl rfl rfl (Yld.move rfl rfl) ?_
              refine WP.passG rfl rfl rfl rfl rfl rfl rfl rfl ?_
              refine WP.passG rfl rfl rfl rfl rfl rfl rfl rfl ?_
              refine WP.val rfl rfl rfl rfl (Yld.pickT rfl rfl rfl) ?_
              refine WP.val rfl rfl rfl rfl (Yld.move rfl rfl) ?_
              refine WP.passG rfl rfl rfl rfl rfl rfl rfl rfl ?_
              refine WP.passG rfl rfl rfl rfl rfl rfl rfl rfl ?_
              refine WP.passG rfl rfl rfl rfl rfl rfl rfl rfl ?_
              refine WP.passG rfl rfl rfl rfl rfl rfl rfl rfl ?_
              refine WP.passG rfl rfl rfl rfl rfl rfl rfl rfl ?_
              refine WP.val rfl rfl rfl rfl (Yld.pickT rfl rfl rfl) ?_
              refine WP.nil ?_
              refine WP.sub [(0, _), (1, _), (2, _), (3, _), (8, _), (9, _), (10, _), (16, _), (50, _)] ?_ ⟨rfl, rfl, rfl, rfl, rfl, rfl, rfl, rfl, rfl, trivial⟩
              refine WP.next ?_
              refine WP.condT rfl ?_
              refine WP.seq ?_
              refine WP.region [0, 1] rfl ?_
              refine WP.val rfl rfl rfl rfl (Yld.assign rfl rfl) ?_
              refine WP.val rfl rfl rfl rfl (Yld.assign rfl rfl) ?_
              refine WP.nil ?_
              refine WP.next ?_
              refine WP.ret ?_
              refine WP.fin .ret (.inr rfl) (res2 rfl rfl rfl) [] (by repeat (first | exact Take.nil | with_reducible apply Take.cons | apply Take.app | exact Rm.chunk | exact Rm.here | exact Rm.nil0 | apply Rm.skip | apply Rm.skipS | (focus (apply Take.all; (repeat (first | exact Rm.chunk | exact Rm.here | exact Rm.nil0 | apply Rm.skip | apply Rm.skipS)); done)) | apply Take.cons)) (by repeat (first | exact Leave.done | apply Leave.drop | apply Leave.dropS)) (Imm.le_refl _) ?_
              have e : pcutE no place era b = 1 := by unfold pcutE; rw [if_neg (by omega), if_pos (.inr (.inr (.inr (fun h => (by have w1 : 1 ≤ no ∧ no ≤ 1099511627776 := h.no; have w2 : 1 ≤ era ∧ era ≤ 4294967295 := h.era; omega)))))]
              have e2 : pcutL no place era b = [] := if_neg (by rw [e]; decide)
              rw [e, e2]; exact ⟨_, [], [], [], rfl, rfl, .none0, .nil, rfl⟩
            · refine WP.val rfl rfl rfl rfl (Yld.pickF rfl rfl rfl) ?_
              refine WP.val rfl rfl rfl rfl (Yld.move rfl rfl) ?_
              refine WP.valG rfl rfl rfl rfl rfl rfl rfl (Yld.move rfl rfl) ?_
              refine WP.splitG rfl rfl rfl rfl rfl rfl rfl (Yld.lss rfl rfl rfl) (fun hp0 => ?_) (fun hp0 => ?_)
              · refine WP.val rfl rfl rfl rfl (Yld.pickF rfl rfl rfl) ?_
                refine WP.val rfl rfl rfl rfl (Yld.move rfl rfl) ?_
                refine WP.passG rfl rfl rfl rfl rfl rfl rfl rfl ?_
                refine WP.passG rfl rfl rfl rfl rfl rfl rfl rfl ?_
                refine WP.passG rfl rfl rfl rfl rfl rfl rfl rfl ?_
                refine WP.passG rfl rfl rfl rfl rfl rfl rfl rfl ?_
                refine WP.passG rfl rfl rfl rfl rfl rfl rfl rfl ?_
                refine WP.val rfl rfl rfl rfl (Yld.pickT rfl rfl rfl) ?_
                refine WP.nil ?_
                refine WP.sub [(0, _), (1, _), (2, _), (3, _), (8, _), (9, _), (10, _), (16, _), (50, _)] ?_ ⟨rfl, rfl, rfl, rfl, rfl, rfl, rfl, rfl, rfl, trivial⟩
                refine WP.next ?_
                refine WP.condT rfl ?_
                refine WP.seq ?_
                refine WP.region [0, 1] rfl ?_
                refine WP.val rfl rfl rfl rfl (Yld.assign rfl rfl) ?_
                refine WP.val rfl rfl rfl rfl (Yld.assign rfl rfl) ?_
                refine WP.nil ?_
                refine WP.next ?_
                refine WP.ret ?_
                refine WP.fin .ret (.inr rfl) (res2 rfl rfl rfl) [] (by repeat (first | exact Take.nil | with_reducible apply Take.cons | apply Take.app | exact Rm.chunk | exact Rm.here | exact Rm.nil0 | apply Rm.skip | apply Rm.skipS | (focus (apply Take.all; (repeat (first | exact Rm.chunk | exact Rm.here | exact Rm.nil0 | apply Rm.skip | apply Rm.skipS)); done)) | apply Take.cons)) (by repeat (first | exact Leave.done | apply Leave.drop | apply Leave.dropS)) (Imm.le_refl _) ?_
                have e : pcutE no place era b = 1 := by unfold pcutE; rw [if_neg (by omega), if_pos (.inr (.inl (by omega)))]
                have e2 : pcutL no place era b = [] := if_neg (by rw [e]; decide)
                rw [e, e2]; exact ⟨_, [], [], [], rfl, rfl, .none0, .nil, rfl⟩
              · refine WP.val rfl rfl rfl rfl (Yld.pickF rfl rfl rfl) ?_
                refine WP.val rfl rfl rfl rfl (Yld.move rfl rfl) ?_
                refine WP.valG rfl rfl rfl rfl rfl rfl rfl (Yld.move rfl rfl) ?_
                refine WP.valG rfl rfl rfl rfl rfl rfl rfl (Yld.move rfl rfl) ?_
                refine WP.valG rfl rfl rfl rfl rfl rfl rfl (Yld.sub64 rfl rfl rfl (by omega)) ?_
                refine WP.valG rfl rfl rfl rfl rfl rfl rfl (Yld.add64 rfl rfl rfl (by omega)) ?_
                refine WP.splitG rfl rfl rfl rfl rfl rfl rfl (Yld.gtr rfl rfl rfl) (fun hp1 => ?_) (fun hp1 => ?_)
                · refine WP.val rfl rfl rfl rfl (Yld.pickF rfl rfl rfl) ?_
                  refine WP.nil ?_
                  refine WP.sub [(0, _), (1, _), (2, _), (3, _), (8, _), (9, _), (10, _), (16, _), (50, _)] ?_ ⟨rfl, rfl, rfl, rfl, rfl, rfl, rfl, rfl, rfl, trivial⟩
                  refine WP.next ?_
                  refine WP.condT rfl ?_
                  refine WP.seq ?_
                  refine WP.region [0, 1] rfl ?_
                  refine WP.val rfl rfl rfl rfl (Yld.assign rfl rfl) ?_
                  refine WP.val rfl rfl rfl rfl (Yld.assign rfl rfl) ?_
                  refine WP.nil ?_
                  refine WP.next ?_
                  refine WP.ret ?_
                  refine WP.fin .ret (.inr rfl) (res2 rfl rfl rfl) [] (by repeat (first | exact Take.nil | with_reducible apply Take.cons | apply Take.app | exact Rm.chunk | exact Rm.here | exact Rm.nil0 | apply Rm.skip | apply Rm.skipS | (focus (apply Take.all; (repeat (first | exact Rm.chunk | exact Rm.here | exact Rm.nil0 | apply Rm.skip | apply Rm.skipS)); done)) | apply Take.cons)) (by repeat (first | exact Leave.done | apply Leave.drop | apply Leave.dropS)) (Imm.le_refl _) ?_
                  have e : pcutE no place era b = 1 := by unfold pcutE; rw [if_neg (by omega), if_pos (.inr (.inr (.inl (by omega))))]
                  have e2 : pcutL no place era b = [] := if_neg (by rw [e]; decide)
                  rw [e, e2]; exact ⟨_, [], [], [], rfl, rfl, .none0, .nil, rfl⟩
                · refine WP.val rfl rfl rfl rfl (Yld.pickF rfl rfl rfl) ?_
                  refine WP.nil ?_
                  refine WP.sub [(0, _), (1, _), (2, _), (3, _), (8, _), (9, _), (10, _), (16, _), (50, _)] ?_ ⟨rfl, rfl, rfl, rfl, rfl, rfl, rfl, rfl, rfl, trivial⟩
                  refine WP.next ?_
                  refine WP.condF rfl ?_
                  refine WP.skip ?_
                  refine WP.next ?_
                  refine WP.seq ?_
                  have hE : pcutE no place era b = 0 := by unfold pcutE; rw [if_neg (by omega), if_neg (fun h => by rcases h with h | h | h | h; omega; omega; omega; exact h ⟨⟨show (0 : Int) ≤ 0 by decide, show (0 : Int) ≤ 1099511627776 by decide⟩, ⟨show 1 ≤ no by omega, show no ≤ 1099511627776 by omega⟩, ⟨show 1 ≤ era by omega, show era ≤ 4294967295 by omega⟩, ⟨show (1 : Int) ≤ 1 by decide, show (1 : Int) ≤ 64 by decide⟩, ⟨show (0 : Int) ≤ 0 by decide, show (0 : Int) ≤ 1 - 1 by decide⟩, .inr ⟨show (0 : Int) = 1 - 1 by decide, show 1 ≤ 1 by decide, show 1 ≤ 198 by decide⟩⟩)]
                  refine WP.region [0] rfl ?_
                  refine WP.val rfl rfl rfl rfl (Yld.assign rfl rfl) ?_
                  refine WP.nil ?_
                  refine WP.next ?_
                  refine WP.seq ?_
                  refine WP.seq ?_
                  refine WP.region [0] rfl ?_
                  refine WP.val rfl rfl rfl rfl (Yld.assign rfl rfl) ?_
                  refine WP.nil ?_
                  refine WP.next ?_
                  refine WP.block ?_
                  refine WP.loop (X := RPX) (fun t : RPX => [(0, .int .i64 no), (1, .int .i64 place), (2, .int .i64 era), (3, vb), (10, .int .i64 (pmanyOf b : Int)), (11, t.vo), (12, .int .i64 (t.i : Int))]) (fun _ => I) (fun t : RPX => t.Lo ++ (t.Ld ++ F)) (fun t => t.ok no place era b (pmanyOf b)) (fun t => pmanyOf b - t.i) ⟨0, .slice none 0 0, [], [], []⟩ ⟨Nat.zero_le _, .none0, .nil, rfl⟩ ⟨rfl, rfl, rfl, rfl, rfl, rfl, rfl, trivial⟩ rfl (by (try dsimp only); repeat (first | exact Rm.chunk | exact Rm.here | exact Rm.nil0 | apply Rm.skip | apply Rm.skipS | apply PX.cons | (apply PX.done; (repeat (first | exact Leave.done | apply Leave.drop | apply Leave.dropS)); done) | apply PX.app)) ?_
                  rintro ⟨i, vo, l, Lo, Ld⟩ ⟨hle, how, hod, heq⟩; dsimp only at hle how hod heq
                  try dsimp only
                  try simp only [List.cons_append, List.nil_append, List.append_assoc]
                  refine WP.seq ?_
                  refine WP.seq ?_
                  refine WP.region [0, 1, 2] rfl ?_
                  refine WP.val rfl rfl rfl rfl (Yld.move rfl rfl) ?_
                  refine WP.val rfl rfl rfl rfl (Yld.move rfl rfl) ?_
                  refine WP.split rfl rfl rfl rfl (Yld.lss rfl rfl rfl) (fun hlt => ?_) (fun hlt => ?_)
                  · have hi : i < pmanyOf b := by omega
                    have hll := congrArg List.length heq
                    simp only [List.length_map, List.length_range] at hll
                    have hpos : i * 198 < b.length := by unfold pmanyOf at hi; omega
                    refine WP.nil ?_
                    refine WP.sub [(0, _), (1, _), (2, _), (3, _), (10, _), (11, _), (12, _), (53, _)] ?_ ⟨rfl, rfl, rfl, rfl, rfl, rfl, rfl, rfl, trivial⟩
                    refine WP.next ?_
                    refine WP.condT rfl ?_
                    refine WP.skip ?_
                    refine WP.next ?_
                    refine WP.seq ?_
                    refine WP.block ?_
                    refine WP.seq ?_
                    refine WP.region [0, 1, 2, 3] rfl ?_
                    refine WP.val rfl rfl rfl rfl (Yld.move rfl rfl) ?_
                    refine WP.val rfl rfl rfl rfl (Yld.add64 rfl rfl rfl (by omega)) ?_
                    refine WP.val rfl rfl rfl rfl (Yld.mul64 rfl rfl rfl (by omega)) ?_
                    refine WP.val rfl rfl rfl rfl (Yld.assign rfl rfl) ?_
                    refine WP.nil ?_
                    refine WP.sub [(0, _), (1, _), (2, _), (3, _), (10, _), (11, _), (12, _), (13, _), (53, _)] ?_ ⟨rfl, rfl, rfl, rfl, rfl, rfl, rfl, rfl, rfl, trivial⟩
                    refine WP.next ?_
                    refine WP.seq ?_
                    refine WP.seq ?_
                    refine WP.region [0, 1, 2, 3] rfl ?_
                    refine WP.val rfl rfl rfl rfl (Yld.move rfl rfl) ?_
                    refine WP.val rfl rfl rfl rfl (Yld.move rfl rfl) ?_
                    refine WP.val rfl rfl rfl rfl (Yld.lenR hb rfl ty_sl_22 rfl) ?_
                    refine WP.split rfl rfl rfl rfl (Yld.gtr rfl rfl rfl) (fun hgt => ?_) (fun hgt => ?_)
                    · refine WP.nil ?_
                      refine WP.sub [(0, _), (1, _), (2, _), (3, _), (10, _), (11, _), (12, _), (13, _), (53, _), (62, _)] ?_ ⟨rfl, rfl, rfl, rfl, rfl, rfl, rfl, rfl, rfl, rfl, trivial⟩
                      refine WP.next ?_
                      refine WP.condT rfl ?_
                      refine WP.region [0, 1, 2] rfl ?_
                      refine WP.val rfl rfl rfl rfl (Yld.move rfl rfl) ?_
                      refine WP.val rfl rfl rfl rfl (Yld.lenR hb rfl ty_sl_22 rfl) ?_
                      refine WP.val rfl rfl rfl rfl (Yld.assign rfl rfl) ?_
                      refine WP.nil ?_
                      refine WP.sub [(0, _), (1, _), (2, _), (3, _), (10, _), (11, _), (12, _), (13, _), (53, _), (62, _)] ?_ ⟨rfl, rfl, rfl, rfl, rfl, rfl, rfl, rfl, rfl, rfl, trivial⟩
                      refine WP.next ?_
                      refine WP.region [0, 1, 2, 3, 4, 5, 6, 7, 8, 9, 10, 11, 12, 13, 14, 15, 16, 17] rfl ?_
                      refine WP.val rfl rfl rfl rfl (Yld.move rfl rfl) ?_
                      refine WP.val rfl rfl rfl rfl (Yld.move rfl rfl) ?_
                      refine WP.val rfl rfl rfl rfl (Yld.move rfl rfl) ?_
                      refine WP.val rfl rfl rfl rfl (Yld.add64 rfl rfl rfl (by omega)) ?_
                      refine WP.val rfl rfl rfl rfl (Yld.move rfl rfl) ?_
                      refine WP.val rfl rfl rfl rfl (Yld.move rfl rfl) ?_
                      refine WP.val rfl rfl rfl rfl (Yld.move rfl rfl) ?_
                      refine WP.val rfl rfl rfl rfl (Yld.move rfl rfl) ?_
                      refine WP.val rfl rfl rfl rfl (Yld.move rfl rfl) ?_
                      refine WP.val rfl rfl rfl rfl (Yld.move rfl rfl) ?_
                      refine WP.val rfl rfl rfl rfl (Yld.mul64 rfl rfl rfl (by omega)) ?_
                      refine WP.val rfl rfl rfl rfl (Yld.move rfl rfl) ?_
                      refine WP.val rfl rfl rfl rfl (Yld.sliceR (l := i * 198) (h := b.length) hb rfl ty_sl_22 rfl (Env.limS (n := i * 198) (congrArg (fun z : Int => some (Value.int .i64 z)) (by omega))) (Env.limS (n := b.length) (congrArg (fun z : Int => some (Value.int .i64 z)) (by omega))) (by omega) (by omega)) ?_
                      refine WP.loud rfl rfl ?_
                      have hcut : cut b (i * 198) b.length = ((b.drop (i * 198)).take 198) := by unfold cut; rw [List.take_of_length_le (by rw [List.length_drop]; exact Nat.le_refl _), List.take_of_length_le (by rw [List.length_drop]; omega)]
                      have hsl0 := sub_rd hb (l := i * 198) (k := b.length) (by omega) (by omega)
                      have hdl2 : ((b.drop (i * 198)).take 198).length = b.length - i * 198 := by rw [← hcut, cut_len (by omega)]
                      rw [hcut, ← hdl2] at hsl0
                      refine Op.append (m := ((b.drop (i * 198)).take 198).length) rfl ty_sl_22 ty_el_22 rfl rfl rfl rfl rfl .none0 (hsl0.mono (fun b o h => There.i h)) (by repeat (first | exact Take.nil | with_reducible apply Take.cons | apply Take.app | exact Rm.chunk | exact Rm.here | exact Rm.nil0 | apply Rm.skip | apply Rm.skipS | (focus (apply Take.all; (repeat (first | exact Rm.chunk | exact Rm.here | exact Rm.nil0 | apply Rm.skip | apply Rm.skipS)); done)) | apply Take.cons)) (bytesV_one _) (by omega) (by omega) (fun vc Lc hcn => ?_)
                      rw [List.nil_append, Nat.zero_add] at hcn
                      try simp only [List.cons_append, List.nil_append, List.append_assoc]
                      obtain ⟨Ad, cd, rfl, _⟩ := hcn.slice
                      refine WP.val rfl rfl rfl rfl (Yld.buildS (pl := [(0, 0, 1), (1, 1, 1), (2, 2, 1), (3, 3, 1), (4, 4, 1), (5, 5, 1)]) rfl ty_zr_35 ty_zd_35 (by kernel_rfl) rfl (vs := [_, _, _, _, _, _]) rfl (segs := [(0, [_]), (1, [_]), (2, [_]), (3, [_]), (4, [_]), (5, [_])]) rfl rfl (by repeat (first | exact SetSeg.nil | apply SetSeg.one | exact SetAt.zero | apply SetAt.succ))) ?_
                      refine WP.loud rfl rfl ?_
                      refine Op.buildSlice rfl ty_sl_23 ty_el2_23 rfl rfl rfl rfl (vs := [_]) rfl (segs := [(0, pf (pcut no place era b (pmanyOf b) i, .slice Ad ((b.drop (i * 198)).take 198).length cd))]) (cs := pf (pcut no place era b (pmanyOf b) i, .slice Ad ((b.drop (i * 198)).take 198).length cd)) rfl rfl (.seg (Nat.le_refl _) rfl .nil) (fun bq => ?_)
                      refine WP.loud rfl rfl ?_
                      refine Op.append (m := 1) rfl ty_sl_23 ty_el_23 rfl rfl rfl rfl rfl how (SlRd.lit (m := 1) (by repeat (first | exact There.h | exact There.i (by assumption) | apply There.t | apply There.s)) rfl (Nat.le_refl _)) (by repeat (first | exact Take.nil | with_reducible apply Take.cons | apply Take.app | exact Rm.chunk | exact Rm.here | exact Rm.nil0 | apply Rm.skip | apply Rm.skipS | (focus (apply Take.all; (repeat (first | exact Rm.chunk | exact Rm.here | exact Rm.nil0 | apply Rm.skip | apply Rm.skipS)); done)) | apply Take.cons)) rfl (by omega) (by omega) (fun vn Ln hn => ?_)
                      try simp only [List.cons_append, List.nil_append, List.append_assoc]
                      refine WP.val rfl rfl rfl rfl (Yld.assign rfl rfl) ?_
                      refine WP.nil ?_
                      refine WP.sub [(0, _), (1, _), (2, _), (3, _), (10, _), (11, _), (12, _), (13, _), (53, _), (62, _)] ?_ ⟨rfl, rfl, rfl, rfl, rfl, rfl, rfl, rfl, rfl, rfl, trivial⟩
                      have hown2 : Own 35 6 vn (pcells (l ++ [(pcut no place era b (pmanyOf b) i, .slice Ad ((b.drop (i * 198)).take 198).length cd)])) (l ++ [((pcut no place era b (pmanyOf b) i, .slice Ad ((b.drop (i * 198)).take 198).length cd) : Pt × Value)]).length Ln := by rw [pcells_app, List.length_append]; exact hn
                      have hod2 := hod.snoc (e := (pcut no place era b (pmanyOf b) i, .slice Ad ((b.drop (i * 198)).take 198).length cd)) (Le := Lc) hcn
                      have heq2 : (l ++ [((pcut no place era b (pmanyOf b) i, .slice Ad ((b.drop (i * 198)).take 198).length cd) : Pt × Value)]).map (·.1) = (List.range (i + 1)).map (pcut no place era b (pmanyOf b)) := by rw [List.map_append, heq, List.range_succ, List.map_append]; rfl
                      refine WP.leave ?_
                      refine WP.next ?_
                      refine WP.region [0, 1, 2] rfl ?_
                      refine WP.val rfl rfl rfl rfl (Yld.move rfl rfl) ?_
                      refine WP.val rfl rfl rfl rfl (Yld.add64 rfl rfl rfl (by omega)) ?_
                      refine WP.val rfl rfl rfl rfl (Yld.assign rfl rfl) ?_
                      refine WP.nil ?_
                      refine WP.sub [(0, _), (1, _), (2, _), (3, _), (10, _), (11, _), (12, _), (13, _), (53, _), (62, _)] ?_ ⟨rfl, rfl, rfl, rfl, rfl, rfl, rfl, rfl, rfl, rfl, trivial⟩
                      exact WP.again ⟨i + 1, vn, l ++ [(pcut no place era b (pmanyOf b) i, .slice Ad ((b.drop (i * 198)).take 198).length cd)], Ln, Ld ++ Lc⟩ ⟨(show i + 1 ≤ pmanyOf b by omega), hown2, hod2, heq2⟩ (show pmanyOf b - (i + 1) < pmanyOf b - i by omega) ⟨rfl, rfl, rfl, rfl, rfl, rfl, rfl, trivial⟩ rfl (by (try dsimp only); (try simp only [List.cons_append, List.nil_append, List.append_assoc]); repeat (first | exact Rm.chunk | exact Rm.here | exact Rm.nil0 | apply Rm.skip | apply Rm.skipS | apply PX.cons | (apply PX.done; (repeat (first | exact Leave.done | apply Leave.drop | apply Leave.dropS)); done) | apply PX.app))
                    · refine WP.nil ?_
                      refine WP.sub [(0, _), (1, _), (2, _), (3, _), (10, _), (11, _), (12, _), (13, _), (53, _), (62, _)] ?_ ⟨rfl, rfl, rfl, rfl, rfl, rfl, rfl, rfl, rfl, rfl, trivial⟩
                      refine WP.next ?_
                      refine WP.condF rfl ?_
                      refine WP.skip ?_
                      refine WP.next ?_
                      refine WP.region [0, 1, 2, 3, 4, 5, 6, 7, 8, 9, 10, 11, 12, 13, 14, 15, 16, 17] rfl ?_
                      refine WP.val rfl rfl rfl rfl (Yld.move rfl rfl) ?_
                      refine WP.val rfl rfl rfl rfl (Yld.move rfl rfl) ?_
                      refine WP.val rfl rfl rfl rfl (Yld.move rfl rfl) ?_
                      refine WP.val rfl rfl rfl rfl (Yld.add64 rfl rfl rfl (by omega)) ?_
                      refine WP.val rfl rfl rfl rfl (Yld.move rfl rfl) ?_
                      refine WP.val rfl rfl rfl rfl (Yld.move rfl rfl) ?_
                      refine WP.val rfl rfl rfl rfl (Yld.move rfl rfl) ?_
                      refine WP.val rfl rfl rfl rfl (Yld.move rfl rfl) ?_
                      refine WP.val rfl rfl rfl rfl (Yld.move rfl rfl) ?_
                      refine WP.val rfl rfl rfl rfl (Yld.move rfl rfl) ?_
                      refine WP.val rfl rfl rfl rfl (Yld.mul64 rfl rfl rfl (by omega)) ?_
                      refine WP.val rfl rfl rfl rfl (Yld.move rfl rfl) ?_
                      refine WP.val rfl rfl rfl rfl (Yld.sliceR (l := i * 198) (h := ((i + 1) * 198)) hb rfl ty_sl_22 rfl (Env.limS (n := i * 198) (congrArg (fun z : Int => some (Value.int .i64 z)) (by omega))) (Env.limS (n := ((i + 1) * 198)) (congrArg (fun z : Int => some (Value.int .i64 z)) (by omega))) (by omega) (by omega)) ?_
                      refine WP.loud rfl rfl ?_
                      have hcut : cut b (i * 198) ((i + 1) * 198) = ((b.drop (i * 198)).take 198) := by unfold cut; congr 1; omega
                      have hsl0 := sub_rd hb (l := i * 198) (k := ((i + 1) * 198)) (by omega) (by omega)
                      have hdl2 : ((b.drop (i * 198)).take 198).length = ((i + 1) * 198) - i * 198 := by rw [← hcut, cut_len (by omega)]
                      rw [hcut, ← hdl2] at hsl0
                      refine Op.append (m := ((b.drop (i * 198)).take 198).length) rfl ty_sl_22 ty_el_22 rfl rfl rfl rfl rfl .none0 (hsl0.mono (fun b o h => There.i h)) (by repeat (first | exact Take.nil | with_reducible apply Take.cons | apply Take.app | exact Rm.chunk | exact Rm.here | exact Rm.nil0 | apply Rm.skip | apply Rm.skipS | (focus (apply Take.all; (repeat (first | exact Rm.chunk | exact Rm.here | exact Rm.nil0 | apply Rm.skip | apply Rm.skipS)); done)) | apply Take.cons)) (bytesV_one _) (by omega) (by omega) (fun vc Lc hcn => ?_)
                      rw [List.nil_append, Nat.zero_add] at hcn
                      try simp only [List.cons_append, List.nil_append, List.append_assoc]
                      obtain ⟨Ad, cd, rfl, _⟩ := hcn.slice
                      refine WP.val rfl rfl rfl rfl (Yld.buildS (pl := [(0, 0, 1), (1, 1, 1), (2, 2, 1), (3, 3, 1), (4, 4, 1), (5, 5, 1)]) rfl ty_zr_35 ty_zd_35 (by kernel_rfl) rfl (vs := [_, _, _, _, _, _]) rfl (segs := [(0, [_]), (1, [_]), (2, [_]), (3, [_]), (4, [_]), (5, [_])]) rfl rfl (by repeat (first | exact SetSeg.nil | apply SetSeg.one | exact SetAt.zero | apply SetAt.succ))) ?_
                      refine WP.loud rfl rfl ?_
                      refine Op.buildSlice rfl ty_sl_23 ty_el2_23 rfl rfl rfl rfl (vs := [_]) rfl (segs := [(0, pf (pcut no place era b (pmanyOf b) i, .slice Ad ((b.drop (i * 198)).take 198).length cd))]) (cs := pf (pcut no place era b (pmanyOf b) i, .slice Ad ((b.drop (i * 198)).take 198).length cd)) rfl rfl (.seg (Nat.le_refl _) rfl .nil) (fun bq => ?_)
                      refine WP.loud rfl rfl ?_
                      refine Op.append (m := 1) rfl ty_sl_23 ty_el_23 rfl rfl rfl rfl rfl how (SlRd.lit (m := 1) (by repeat (first | exact There.h | exact There.i (by assumption) | apply There.t | apply There.s)) rfl (Nat.le_refl _)) (by repeat (first | exact Take.nil | with_reducible apply Take.cons | apply Take.app | exact Rm.chunk | exact Rm.here | exact Rm.nil0 | apply Rm.skip | apply Rm.skipS | (focus (apply Take.all; (repeat (first | exact Rm.chunk | exact Rm.here | exact Rm.nil0 | apply Rm.skip | apply Rm.skipS)); done)) | apply Take.cons)) rfl (by omega) (by omega) (fun vn Ln hn => ?_)
                      try simp only [List.cons_append, List.nil_append, List.append_assoc]
                      refine WP.val rfl rfl rfl rfl (Yld.assign rfl rfl) ?_
                      refine WP.nil ?_
                      refine WP.sub [(0, _), (1, _), (2, _), (3, _), (10, _), (11, _), (12, _), (13, _), (53, _), (62, _)] ?_ ⟨rfl, rfl, rfl, rfl, rfl, rfl, rfl, rfl, rfl, rfl, trivial⟩
                      have hown2 : Own 35 6 vn (pcells (l ++ [(pcut no place era b (pmanyOf b) i, .slice Ad ((b.drop (i * 198)).take 198).length cd)])) (l ++ [((pcut no place era b (pmanyOf b) i, .slice Ad ((b.drop (i * 198)).take 198).length cd) : Pt × Value)]).length Ln := by rw [pcells_app, List.length_append]; exact hn
                      have hod2 := hod.snoc (e := (pcut no place era b (pmanyOf b) i, .slice Ad ((b.drop (i * 198)).take 198).length cd)) (Le := Lc) hcn
                      have heq2 : (l ++ [((pcut no place era b (pmanyOf b) i, .slice Ad ((b.drop (i * 198)).take 198).length cd) : Pt × Value)]).map (·.1) = (List.range (i + 1)).map (pcut no place era b (pmanyOf b)) := by rw [List.map_append, heq, List.range_succ, List.map_append]; rfl
                      refine WP.leave ?_
                      refine WP.next ?_
                      refine WP.region [0, 1, 2] rfl ?_
                      refine WP.val rfl rfl rfl rfl (Yld.move rfl rfl) ?_
                      refine WP.val rfl rfl rfl rfl (Yld.add64 rfl rfl rfl (by omega)) ?_
                      refine WP.val rfl rfl rfl rfl (Yld.assign rfl rfl) ?_
                      refine WP.nil ?_
                      refine WP.sub [(0, _), (1, _), (2, _), (3, _), (10, _), (11, _), (12, _), (13, _), (53, _), (62, _)] ?_ ⟨rfl, rfl, rfl, rfl, rfl, rfl, rfl, rfl, rfl, rfl, trivial⟩
                      exact WP.again ⟨i + 1, vn, l ++ [(pcut no place era b (pmanyOf b) i, .slice Ad ((b.drop (i * 198)).take 198).length cd)], Ln, Ld ++ Lc⟩ ⟨(show i + 1 ≤ pmanyOf b by omega), hown2, hod2, heq2⟩ (show pmanyOf b - (i + 1) < pmanyOf b - i by omega) ⟨rfl, rfl, rfl, rfl, rfl, rfl, rfl, trivial⟩ rfl (by (try dsimp only); (try simp only [List.cons_append, List.nil_append, List.append_assoc]); repeat (first | exact Rm.chunk | exact Rm.here | exact Rm.nil0 | apply Rm.skip | apply Rm.skipS | apply PX.cons | (apply PX.done; (repeat (first | exact Leave.done | apply Leave.drop | apply Leave.dropS)); done) | apply PX.app))
                  · obtain rfl : i = pmanyOf b := by omega
                    refine WP.nil ?_
                    refine WP.sub [(0, _), (1, _), (2, _), (3, _), (10, _), (11, _), (12, _), (53, _)] ?_ ⟨rfl, rfl, rfl, rfl, rfl, rfl, rfl, rfl, trivial⟩
                    refine WP.next ?_
                    refine WP.condF rfl ?_
                    refine WP.exit ?_
                    refine WP.thenE ?_
                    refine WP.thenE ?_
                    refine WP.hit ?_
                    refine WP.next ?_
                    refine WP.seq ?_
                    refine WP.region [0, 1, 2] rfl ?_
                    refine WP.val rfl rfl rfl rfl (Yld.move rfl rfl) ?_
                    refine WP.val rfl rfl rfl rfl (Yld.assign rfl rfl) ?_
                    refine WP.val rfl rfl rfl rfl (Yld.assign rfl rfl) ?_
                    refine WP.nil ?_
                    refine WP.sub [(0, _), (1, _), (2, _), (3, _), (8, _), (9, _), (10, _), (11, _), (12, _), (53, _)] ?_ ⟨rfl, rfl, rfl, rfl, rfl, rfl, rfl, rfl, rfl, rfl, trivial⟩
                    refine WP.next ?_
                    refine WP.ret ?_
                    refine WP.fin .ret (.inr rfl) (res2 rfl rfl rfl) (Lo ++ Ld) (by repeat (first | exact Take.nil | with_reducible apply Take.cons | apply Take.app | exact Rm.chunk | exact Rm.here | exact Rm.nil0 | apply Rm.skip | apply Rm.skipS | (focus (apply Take.all; (repeat (first | exact Rm.chunk | exact Rm.here | exact Rm.nil0 | apply Rm.skip | apply Rm.skipS)); done)) | apply Take.cons)) (by repeat (first | exact Leave.done | apply Leave.drop | apply Leave.dropS)) (Imm.le_refl _) ?_
                    have e2 : pcutL no place era b = _ := if_pos hE
                    rw [hE, e2]; exact ⟨_, _, _, _, rfl, heq, how, hod, rfl⟩

set_option maxHeartbeats 1000000 in
theorem ref_Join {I : Imm} {l : List (Pt × Value)} {v : Value} (hr : RParts I v l) (hln : l.length ≤ 2199023255552) : Spec Try.prog 15 [v] I [] (fun v J L => ∃ vo Lo, v = .tuple #[vo, .int .i64 (pjoin (l.map (·.1))).2] ∧ Own 5 1 vo (bytesV ((pjoin (l.map (·.1))).1)) ((pjoin (l.map (·.1))).1).length Lo ∧ L = Lo) := by
  obtain ⟨A, c, rfl, _, _, _⟩ := id hr.rd
  refine Spec.of Try.func15 rfl Try.ntmps15 (Nat.le_of_ble_eq_true rfl) (fun F => ?_)
  try simp only [List.cons_append, List.nil_append, List.append_assoc]
  dsimp only [argsEnv]
  refine WP.seq ?_
  refine WP.region [0, 1] rfl ?_
  refine WP.val rfl rfl rfl rfl (Yld.assign rfl rfl) ?_
  refine WP.val rfl rfl rfl rfl (Yld.assign rfl rfl) ?_
  refine WP.nil ?_
  refine WP.next ?_
  refine WP.seq ?_
  refine WP.region [0] rfl ?_
  refine WP.val rfl rfl rfl rfl (Yld.assign rfl rfl) ?_
  refine WP.nil ?_
  refine WP.next ?_
  refine WP.seq ?_
  refine WP.seq ?_
  refine WP.region [0] rfl ?_
  refine WP.val rfl rfl rfl rfl (Yld.assign rfl rfl) ?_
  refine WP.nil ?_
  refine WP.next ?_
  refine WP.block ?_
  refine WP.loop (X := Nat × Value × Chunks) (fun u : Nat × Value × Chunks => [(0, .slice A l.length c), (4, u.2.1), (5, .int .i64 (u.1 : Int))]) (fun _ => I) (fun u : Nat × Value × Chunks => u.2.2 ++ F) (fun u : Nat × Value × Chunks => u.1 ≤ l.length ∧ Own 5 1 u.2.1 (bytesV (((l.take (u.1)).flatMap (·.1.data)))) (((l.take (u.1)).flatMap (·.1.data))).length u.2.2 ∧ ∀ j (hj : j < u.1) , (hjl : j < l.length) → pgood (l[0]'(by omega)).1 l.length j l[j].1) (fun u : Nat × Value × Chunks => l.length - u.1) (0, .slice none 0 0, []) ⟨Nat.zero_le _, (by rw [List.take_zero]; exact Own.none0), fun j hj => absurd hj (Nat.not_lt_zero _)⟩ ⟨rfl, rfl, rfl, trivial⟩ rfl (by (try dsimp only); repeat (first | exact Rm.chunk | exact Rm.here | exact Rm.nil0 | apply Rm.skip | apply Rm.skipS | apply PX.cons | (apply PX.done; (repeat (first | exact Leave.done | apply Leave.drop | apply Leave.dropS)); done) | apply PX.app)) ?_
  rintro ⟨i, vo, Lo⟩ ⟨hle, hout, hprev⟩; dsimp only at hle hout hprev
  try dsimp only
  try simp only [List.cons_append, List.nil_append, List.append_assoc]
  refine WP.seq ?_
  refine WP.seq ?_
  refine WP.region [0, 1, 2, 3] rfl ?_
  refine WP.val rfl rfl rfl rfl (Yld.move rfl rfl) ?_
  refine WP.val rfl rfl rfl rfl (Yld.move rfl rfl) ?_
  refine WP.val rfl rfl rfl rfl (Yld.len rfl ty_sl_23 rfl) ?_
  refine WP.split rfl rfl rfl rfl (Yld.lss rfl rfl rfl) (fun hlt => ?_) (fun hlt => ?_)
  · have hi : i < l.length := by omega
    have h0l : 0 < l.length := by omega
    obtain ⟨bl, kl, c', T, fr, arr, e, hbl0, hseg, hcc⟩ := hr.cells hi
    obtain rfl : A = some ⟨bl, kl, none⟩ := by injection e
    obtain ⟨bl', kl', c2, T', fr', arr', e', hbl', hseg', hc0⟩ := hr.cells h0l
    obtain ⟨rfl, rfl⟩ : bl = bl' ∧ kl = kl' := by injection e' with e1; injection e1 with e1; injection e1 with e1 e2; exact ⟨e1, e2⟩
    obtain ⟨rfl, rfl, rfl⟩ : arr' = arr ∧ T' = T ∧ fr' = fr := by rw [hbl0] at hbl'; cases hbl'; exact ⟨rfl, rfl, rfl⟩
    have hdat := hr.data _ (List.getElem_mem hi)
    have h0m : l[i].1.may → l[0].1.may := fun h => by by_cases h0 : i = 0; subst h0; exact h; exact (hprev 0 (by omega) (by omega)).may
    have hdl : l[i].1.may → l[i].1.data.length ≤ 198 := fun h => h.len.2
    refine WP.nil ?_
    refine WP.sub [(0, _), (4, _), (5, _), (11, _)] ?_ ⟨rfl, rfl, rfl, rfl, trivial⟩
    refine WP.next ?_
    refine WP.condT rfl ?_
    refine WP.skip ?_
    refine WP.next ?_
    refine WP.seq ?_
    refine WP.block ?_
    refine WP.seq ?_
    refine WP.region [0, 1, 2, 3, 4, 5] rfl ?_
    refine WP.val rfl rfl rfl rfl (Yld.move rfl rfl) ?_
    refine WP.val rfl rfl rfl rfl (Yld.move rfl rfl) ?_
    refine WP.val rfl rfl rfl rfl (Yld.indexAddr (i := i) rfl ty_sl_23 rfl rfl hi) ?_
    refine WP.val rfl rfl rfl rfl (Yld.loadAggC rfl ty_ag_35 rfl (There.i hbl0) hseg rfl) ?_
    refine WP.loud rfl rfl ?_
    refine Op.alloc rfl rfl rfl ty_zr_35 (fun b6 => ?_)
    refine WP.loud rfl rfl ?_
    refine Op.storeAll rfl rfl ty_sz_35 rfl rfl rfl (ptV_one (by obtain ⟨A', c', e, _⟩ := hdat; exact ⟨_, _, _, e⟩)) (by repeat (first | exact Upd.head | apply Upd.tail | apply Upd.tailS)) rfl ?_
    refine WP.nil ?_
    refine WP.sub [(0, _), (4, _), (5, _), (6, _), (11, _)] ?_ ⟨rfl, rfl, rfl, rfl, rfl, trivial⟩
    refine WP.next ?_
    refine WP.seq ?_
    refine WP.region [0, 1, 2] rfl ?_
    refine WP.val rfl rfl rfl rfl (Yld.loadAll rfl ty_ag_35 rfl (by repeat (first | exact There.h | exact There.i (by assumption) | apply There.t | apply There.s)) rfl) ?_
    refine WP.loud rfl rfl ?_
    refine Op.call (ref_may hdat) rfl Try.func34 rfl rfl rfl rfl (by repeat (first | exact Take.nil | with_reducible apply Take.cons | apply Take.app | exact Rm.chunk | exact Rm.here | exact Rm.nil0 | apply Rm.skip | apply Rm.skipS | (focus (apply Take.all; (repeat (first | exact Rm.chunk | exact Rm.here | exact Rm.nil0 | apply Rm.skip | apply Rm.skipS)); done)) | apply Take.cons)) ?_
    rintro v J L1 hJ ⟨rfl, rfl, rfl⟩
    clear hJ; try simp only [List.cons_append, List.nil_append, List.append_assoc]
    by_cases hmm : (decide l[i].1.may) = true
    · rw [hmm]
      refine WP.val rfl rfl rfl rfl (Yld.assign rfl rfl) ?_
      refine WP.nil ?_
      refine WP.sub [(0, _), (4, _), (5, _), (6, _), (7, _), (11, _)] ?_ ⟨rfl, rfl, rfl, rfl, rfl, rfl, trivial⟩
      refine WP.next ?_
      refine WP.seq ?_
      refine WP.seq ?_
      refine WQ.startAll Trymixed (by kernel_rfl) _ rfl ?_
      refine WQ.val rfl rfl rfl (Yld.move rfl rfl) ?_
      refine WQ.val rfl rfl rfl (Yld.not rfl rfl) ?_
      refine WQ.val rfl rfl rfl (Yld.move rfl rfl) ?_
      refine WQ.valG rfl rfl rfl rfl rfl rfl (Yld.fieldAddr rfl ty_fd_35_2 rfl) ?_
      refine WQ.valG rfl rfl rfl rfl rfl rfl (Yld.load (v := .int .i64 l[i].1.index) rfl ty_sc_3 rfl (by repeat (first | exact There.h | exact There.i (by assumption) | apply There.t | apply There.s)) rfl) ?_
      refine WQ.valG rfl rfl rfl rfl rfl rfl (Yld.move rfl rfl) ?_
      refine WQ.splitG rfl rfl rfl rfl rfl rfl (Yld.neq rfl rfl rfl) (fun h2 => ?_) (fun h2 => ?_)
      · refine WQ.val rfl rfl rfl (Yld.pickF rfl rfl rfl) ?_
        refine WQ.val rfl rfl rfl (Yld.move rfl rfl) ?_
        refine WQ.passG rfl rfl rfl rfl rfl rfl rfl ?_
        refine WQ.passG rfl rfl rfl rfl rfl rfl rfl ?_
        refine WQ.passG rfl rfl rfl rfl rfl rfl rfl ?_
        refine WQ.passG rfl rfl rfl rfl rfl rfl rfl ?_
        refine WQ.passG rfl rfl rfl rfl rfl rfl rfl ?_
        refine WQ.val rfl rfl rfl (Yld.pickT rfl rfl rfl) ?_
        refine WQ.val rfl rfl rfl (Yld.move rfl rfl) ?_
        refine WQ.passG rfl rfl rfl rfl rfl rfl rfl ?_
        refine WQ.passG rfl rfl rfl rfl rfl rfl rfl ?_
        refine WQ.passG rfl rfl rfl rfl rfl rfl rfl ?_
        refine WQ.passG rfl rfl rfl rfl rfl rfl rfl ?_
        refine WQ.passG rfl rfl rfl rfl rfl rfl rfl ?_
        refine WQ.passG rfl rfl rfl rfl rfl rfl rfl ?_
        refine WQ.passG rfl rfl rfl rfl rfl rfl rfl ?_
        refine WQ.val rfl rfl rfl (Yld.pickT rfl rfl rfl) ?_
        refine WQ.val rfl rfl rfl (Yld.move rfl rfl) ?_
        refine WQ.passG rfl rfl rfl rfl rfl rfl rfl ?_
        refine WQ.passG rfl rfl rfl rfl rfl rfl rfl ?_
        refine WQ.passG rfl rfl rfl rfl rfl rfl rfl ?_
        refine WQ.passG rfl rfl rfl rfl rfl rfl rfl ?_
        refine WQ.passG rfl rfl rfl rfl rfl rfl rfl ?_
        refine WQ.passG rfl rfl rfl rfl rfl rfl rfl ?_
        refine WQ.passG rfl rfl rfl rfl rfl rfl rfl ?_
        refine WQ.val rfl rfl rfl (Yld.pickT rfl rfl rfl) ?_
        refine WQ.val rfl rfl rfl (Yld.move rfl rfl) ?_
        refine WQ.passG rfl rfl rfl rfl rfl rfl rfl ?_
        refine WQ.passG rfl rfl rfl rfl rfl rfl rfl ?_
        refine WQ.passG rfl rfl rfl rfl rfl rfl rfl ?_
        refine WQ.passG rfl rfl rfl rfl rfl rfl rfl ?_
        refine WQ.passG rfl rfl rfl rfl rfl rfl rfl ?_
        refine WQ.passG rfl rfl rfl rfl rfl rfl rfl ?_
        refine WQ.passG rfl rfl rfl rfl rfl rfl rfl ?_
        refine WQ.passG rfl rfl rfl rfl rfl rfl rfl ?_
        refine WQ.passG rfl rfl rfl rfl rfl rfl rfl ?_
        refine WQ.val rfl rfl rfl (Yld.pickT rfl rfl rfl) ?_
        refine WQ.nil ?_
        refine WP.sub [(0, _), (4, _), (5, _), (6, _), (7, _), (11, _), (63, _)] ?_ ⟨rfl, rfl, rfl, rfl, rfl, rfl, rfl, trivial⟩
        refine WP.next ?_
        refine WP.condT rfl ?_
        refine WP.seq ?_
        refine WP.region [0, 1] rfl ?_
        refine WP.val rfl rfl rfl rfl (Yld.assign rfl rfl) ?_
        refine WP.val rfl rfl rfl rfl (Yld.assign rfl rfl) ?_
        refine WP.nil ?_
        refine WP.next ?_
        refine WP.ret ?_
        refine WP.fin .ret (.inr rfl) (res2 rfl rfl rfl) [] (by repeat (first | exact Take.nil | with_reducible apply Take.cons | apply Take.app | exact Rm.chunk | exact Rm.here | exact Rm.nil0 | apply Rm.skip | apply Rm.skipS | (focus (apply Take.all; (repeat (first | exact Rm.chunk | exact Rm.here | exact Rm.nil0 | apply Rm.skip | apply Rm.skipS)); done)) | apply Take.cons)) (by repeat (first | exact Leave.done | apply Leave.drop | apply Leave.dropS)) (Imm.le_refl _) ?_
        have e := pjoin_bad hi (fun g => (by have g2 := g.index; have g3 := g.parts; have g4 := g.no; have g5 := g.era; have g6 := g.place; omega))
        rw [e]; exact ⟨_, _, rfl, .none0, rfl⟩
      · refine WQ.val rfl rfl rfl (Yld.pickF rfl rfl rfl) ?_
        refine WQ.val rfl rfl rfl (Yld.move rfl rfl) ?_
        refine WQ.valG rfl rfl rfl rfl rfl rfl (Yld.fieldAddr rfl ty_fd_35_4 rfl) ?_
        refine WQ.valG rfl rfl rfl rfl rfl rfl (Yld.load (v := .int .i64 l[i].1.parts) rfl ty_sc_3 rfl (by repeat (first | exact There.h | exact There.i (by assumption) | apply There.t | apply There.s)) rfl) ?_
        refine WQ.valG rfl rfl rfl rfl rfl rfl (Yld.move rfl rfl) ?_
        refine WQ.valG rfl rfl rfl rfl rfl rfl (Yld.len rfl ty_sl_23 rfl) ?_
        refine WQ.splitG rfl rfl rfl rfl rfl rfl (Yld.neq rfl rfl rfl) (fun h3 => ?_) (fun h3 => ?_)
        · refine WQ.val rfl rfl rfl (Yld.pickF rfl rfl rfl) ?_
          refine WQ.val rfl rfl rfl (Yld.move rfl rfl) ?_
          refine WQ.passG rfl rfl rfl rfl rfl rfl rfl ?_
          refine WQ.passG rfl rfl rfl rfl rfl rfl rfl ?_
          refine WQ.passG rfl rfl rfl rfl rfl rfl rfl ?_
          refine WQ.passG rfl rfl rfl rfl rfl rfl rfl ?_
          refine WQ.passG rfl rfl rfl rfl rfl rfl rfl ?_
          refine WQ.passG rfl rfl rfl rfl rfl rfl rfl ?_
          refine WQ.passG rfl rfl rfl rfl rfl rfl rfl ?_
          refine WQ.val rfl rfl rfl (Yld.pickT rfl rfl rfl) ?_
          refine WQ.val rfl rfl rfl (Yld.move rfl rfl) ?_
          refine WQ.passG rfl rfl rfl rfl rfl rfl rfl ?_
          refine WQ.passG rfl rfl rfl rfl rfl rfl rfl ?_
          refine WQ.passG rfl rfl rfl rfl rfl rfl rfl ?_
          refine WQ.passG rfl rfl rfl rfl rfl rfl rfl ?_
          refine WQ.passG rfl rfl rfl rfl rfl rfl rfl ?_
          refine WQ.passG rfl rfl rfl rfl rfl rfl rfl ?_
          refine WQ.passG rfl rfl rfl rfl rfl rfl rfl ?_
          refine WQ.val rfl rfl rfl (Yld.pickT rfl rfl rfl) ?_
          refine WQ.val rfl rfl rfl (Yld.move rfl rfl) ?_
          refine WQ.passG rfl rfl rfl rfl rfl rfl rfl ?_
          refine WQ.passG rfl rfl rfl rfl rfl rfl rfl ?_
          refine WQ.passG rfl rfl rfl rfl rfl rfl rfl ?_
          refine WQ.passG rfl rfl rfl rfl rfl rfl rfl ?_
          refine WQ.passG rfl rfl rfl rfl rfl rfl rfl ?_
          refine WQ.passG rfl rfl rfl rfl rfl rfl rfl ?_
          refine WQ.passG rfl rfl rfl rfl rfl rfl rfl ?_
          refine WQ.passG rfl rfl rfl rfl rfl rfl rfl ?_
          refine WQ.passG rfl rfl rfl rfl rfl rfl rfl ?_
          refine WQ.val rfl rfl rfl (Yld.pickT rfl rfl rfl) ?_
          refine WQ.nil ?_
          refine WP.sub [(0, _), (4, _), (5, _), (6, _), (7, _), (11, _), (63, _)] ?_ ⟨rfl, rfl, rfl, rfl, rfl, rfl, rfl, trivial⟩
          refine WP.next ?_
          refine WP.condT rfl ?_
          refine WP.seq ?_
          refine WP.region [0, 1] rfl ?_
          refine WP.val rfl rfl rfl rfl (Yld.assign rfl rfl) ?_
          refine WP.val rfl rfl rfl rfl (Yld.assign rfl rfl) ?_
          refine WP.nil ?_
          refine WP.next ?_
          refine WP.ret ?_
          refine WP.fin .ret (.inr rfl) (res2 rfl rfl rfl) [] (by repeat (first | exact Take.nil | with_reducible apply Take.cons | apply Take.app | exact Rm.chunk | exact Rm.here | exact Rm.nil0 | apply Rm.skip | apply Rm.skipS | (focus (apply Take.all; (repeat (first | exact Rm.chunk | exact Rm.here | exact Rm.nil0 | apply Rm.skip | apply Rm.skipS)); done)) | apply Take.cons)) (by repeat (first | exact Leave.done | apply Leave.drop | apply Leave.dropS)) (Imm.le_refl _) ?_
          have e := pjoin_bad hi (fun g => (by have g2 := g.index; have g3 := g.parts; have g4 := g.no; have g5 := g.era; have g6 := g.place; omega))
          rw [e]; exact ⟨_, _, rfl, .none0, rfl⟩
        · refine WQ.val rfl rfl rfl (Yld.pickF rfl rfl rfl) ?_
          refine WQ.val rfl rfl rfl (Yld.move rfl rfl) ?_
          refine WQ.valG rfl rfl rfl rfl rfl rfl (Yld.fieldAddr rfl ty_fd_35_1 rfl) ?_
          refine WQ.valG rfl rfl rfl rfl rfl rfl (Yld.load (v := .int .i64 l[i].1.no) rfl ty_sc_3 rfl (by repeat (first | exact There.h | exact There.i (by assumption) | apply There.t | apply There.s)) rfl) ?_
          refine WQ.valG rfl rfl rfl rfl rfl rfl (Yld.move rfl rfl) ?_
          refine WQ.valG rfl rfl rfl rfl rfl rfl (Yld.indexAddr (i := 0) rfl ty_sl_23 rfl rfl (by omega)) ?_
          refine WQ.valG rfl rfl rfl rfl rfl rfl (Yld.fieldAddr rfl ty_fd_35_1 rfl) ?_
          refine WQ.valG rfl rfl rfl rfl rfl rfl (Yld.loadC rfl ty_sc_3 rfl (There.i hbl0) (hc0 1 _ rfl)) ?_
          refine WQ.splitG rfl rfl rfl rfl rfl rfl (Yld.neq rfl rfl rfl) (fun h4 => ?_) (fun h4 => ?_)
          · refine WQ.val rfl rfl rfl (Yld.pickF rfl rfl rfl) ?_
            refine WQ.val rfl rfl rfl (Yld.move rfl rfl) ?_
            refine WQ.passG rfl rfl rfl rfl rfl rfl rfl ?_
            refine WQ.passG rfl rfl rfl rfl rfl rfl rfl ?_
            refine WQ.passG rfl rfl rfl rfl rfl rfl rfl ?_
            refine WQ.passG rfl rfl rfl rfl rfl rfl rfl ?_
            refine WQ.passG rfl rfl rfl rfl rfl rfl rfl ?_
            refine WQ.passG rfl rfl rfl rfl rfl rfl rfl ?_
            refine WQ.passG rfl rfl rfl rfl rfl rfl rfl ?_
            refine WQ.val rfl rfl rfl (Yld.pickT rfl rfl rfl) ?_
            refine WQ.val rfl rfl rfl (Yld.move rfl rfl) ?_
            refine WQ.passG rfl rfl rfl rfl rfl rfl rfl ?_
            refine WQ.passG rfl rfl rfl rfl rfl rfl rfl ?_
            refine WQ.passG rfl rfl rfl rfl rfl rfl rfl ?_
            refine WQ.passG rfl rfl rfl rfl rfl rfl rfl ?_
            refine WQ.passG rfl rfl rfl rfl rfl rfl rfl ?_
            refine WQ.passG rfl rfl rfl rfl rfl rfl rfl ?_
            refine WQ.passG rfl rfl rfl rfl rfl rfl rfl ?_
            refine WQ.passG rfl rfl rfl rfl rfl rfl rfl ?_
            refine WQ.passG rfl rfl rfl rfl rfl rfl rfl ?_
            refine WQ.val rfl rfl rfl (Yld.pickT rfl rfl rfl) ?_
            refine WQ.nil ?_
            refine WP.sub [(0, _), (4, _), (5, _), (6, _), (7, _), (11, _), (63, _)] ?_ ⟨rfl, rfl, rfl, rfl, rfl, rfl, rfl, trivial⟩
            refine WP.next ?_
            refine WP.condT rfl ?_
            refine WP.seq ?_
            refine WP.region [0, 1] rfl ?_
            refine WP.val rfl rfl rfl rfl (Yld.assign rfl rfl) ?_
            refine WP.val rfl rfl rfl rfl (Yld.assign rfl rfl) ?_
            refine WP.nil ?_
            refine WP.next ?_
            refine WP.ret ?_
            refine WP.fin .ret (.inr rfl) (res2 rfl rfl rfl) [] (by repeat (first | exact Take.nil | with_reducible apply Take.cons | apply Take.app | exact Rm.chunk | exact Rm.here | exact Rm.nil0 | apply Rm.skip | apply Rm.skipS | (focus (apply Take.all; (repeat (first | exact Rm.chunk | exact Rm.here | exact Rm.nil0 | apply Rm.skip | apply Rm.skipS)); done)) | apply Take.cons)) (by repeat (first | exact Leave.done | apply Leave.drop | apply Leave.dropS)) (Imm.le_refl _) ?_
            have e := pjoin_bad hi (fun g => (by have g2 := g.index; have g3 := g.parts; have g4 := g.no; have g5 := g.era; have g6 := g.place; omega))
            rw [e]; exact ⟨_, _, rfl, .none0, rfl⟩
          · refine WQ.val rfl rfl rfl (Yld.pickF rfl rfl rfl) ?_
            refine WQ.val rfl rfl rfl (Yld.move rfl rfl) ?_
            refine WQ.valG rfl rfl rfl rfl rfl rfl (Yld.fieldAddr rfl ty_fd_35_3 rfl) ?_
            refine WQ.valG rfl rfl rfl rfl rfl rfl (Yld.load (v := .int .i64 l[i].1.era) rfl ty_sc_3 rfl (by repeat (first | exact There.h | exact There.i (by assumption) | apply There.t | apply There.s)) rfl) ?_
            refine WQ.valG rfl rfl rfl rfl rfl rfl (Yld.move rfl rfl) ?_
            refine WQ.valG rfl rfl rfl rfl rfl rfl (Yld.indexAddr (i := 0) rfl ty_sl_23 rfl rfl (by omega)) ?_
            refine WQ.valG rfl rfl rfl rfl rfl rfl (Yld.fieldAddr rfl ty_fd_35_3 rfl) ?_
            refine WQ.valG rfl rfl rfl rfl rfl rfl (Yld.loadC rfl ty_sc_3 rfl (There.i hbl0) (hc0 3 _ rfl)) ?_
            refine WQ.splitG rfl rfl rfl rfl rfl rfl (Yld.neq rfl rfl rfl) (fun h5 => ?_) (fun h5 => ?_)
            · refine WQ.val rfl rfl rfl (Yld.pickF rfl rfl rfl) ?_
              refine WQ.val rfl rfl rfl (Yld.move rfl rfl) ?_
              refine WQ.passG rfl rfl rfl rfl rfl rfl rfl ?_
              refine WQ.passG rfl rfl rfl rfl rfl rfl rfl ?_
              refine WQ.passG rfl rfl rfl rfl rfl rfl rfl ?_
              refine WQ.passG rfl rfl rfl rfl rfl rfl rfl ?_
              refine WQ.passG rfl rfl rfl rfl rfl rfl rfl ?_
              refine WQ.passG rfl rfl rfl rfl rfl rfl rfl ?_
              refine WQ.passG rfl rfl rfl rfl rfl rfl rfl ?_
              refine WQ.passG rfl rfl rfl rfl rfl rfl rfl ?_
              refine WQ.passG rfl rfl rfl rfl rfl rfl rfl ?_
              refine WQ.val rfl rfl rfl (Yld.pickT rfl rfl rfl) ?_
              refine WQ.nil ?_
              refine WP.sub [(0, _), (4, _), (5, _), (6, _), (7, _), (11, _), (63, _)] ?_ ⟨rfl, rfl, rfl, rfl, rfl, rfl, rfl, trivial⟩
              refine WP.next ?_
              refine WP.condT rfl ?_
              refine WP.seq ?_
              refine WP.region [0, 1] rfl ?_
              refine WP.val rfl rfl rfl rfl (Yld.assign rfl rfl) ?_
              refine WP.val rfl rfl rfl rfl (Yld.assign rfl rfl) ?_
              refine WP.nil ?_
              refine WP.next ?_
              refine WP.ret ?_
              refine WP.fin .ret (.inr rfl) (res2 rfl rfl rfl) [] (by repeat (first | exact Take.nil | with_reducible apply Take.cons | apply Take.app | exact Rm.chunk | exact Rm.here | exact Rm.nil0 | apply Rm.skip | apply Rm.skipS | (focus (apply Take.all; (repeat (first | exact Rm.chunk | exact Rm.here | exact Rm.nil0 | apply Rm.skip | apply Rm.skipS)); done)) | apply Take.cons)) (by repeat (first | exact Leave.done | apply Leave.drop | apply Leave.dropS)) (Imm.le_refl _) ?_
              have e := pjoin_bad hi (fun g => (by have g2 := g.index; have g3 := g.parts; have g4 := g.no; have g5 := g.era; have g6 := g.place; omega))
              rw [e]; exact ⟨_, _, rfl, .none0, rfl⟩
            · refine WQ.val rfl rfl rfl (Yld.pickF rfl rfl rfl) ?_
              refine WQ.val rfl rfl rfl (Yld.move rfl rfl) ?_
              refine WQ.valG rfl rfl rfl rfl rfl rfl (Yld.fieldAddr rfl ty_fd_35_0 rfl) ?_
              refine WQ.valG rfl rfl rfl rfl rfl rfl (Yld.load (v := .int .i64 l[i].1.place) rfl ty_sc_3 rfl (by repeat (first | exact There.h | exact There.i (by assumption) | apply There.t | apply There.s)) rfl) ?_
              refine WQ.valG rfl rfl rfl rfl rfl rfl (Yld.move rfl rfl) ?_
              refine WQ.valG rfl rfl rfl rfl rfl rfl (Yld.indexAddr (i := 0) rfl ty_sl_23 rfl rfl (by omega)) ?_
              refine WQ.valG rfl rfl rfl rfl rfl rfl (Yld.fieldAddr rfl ty_fd_35_0 rfl) ?_
              refine WQ.valG rfl rfl rfl rfl rfl rfl (Yld.loadC rfl ty_sc_3 rfl (There.i hbl0) (hc0 0 _ rfl)) ?_
              refine WQ.valG rfl rfl rfl rfl rfl rfl (Yld.move rfl rfl) ?_
              refine WQ.valG rfl rfl rfl rfl rfl rfl (Yld.add64 rfl rfl rfl (by have hm0 := h0m (of_decide_eq_true hmm); have := hm0.place; omega)) ?_
              refine WQ.splitG rfl rfl rfl rfl rfl rfl (Yld.neq rfl rfl rfl) (fun h6 => ?_) (fun h6 => ?_)
              · refine WQ.val rfl rfl rfl (Yld.pickF rfl rfl rfl) ?_
                refine WQ.nil ?_
                refine WP.sub [(0, _), (4, _), (5, _), (6, _), (7, _), (11, _), (63, _)] ?_ ⟨rfl, rfl, rfl, rfl, rfl, rfl, rfl, trivial⟩
                refine WP.next ?_
                refine WP.condT rfl ?_
                refine WP.seq ?_
                refine WP.region [0, 1] rfl ?_
                refine WP.val rfl rfl rfl rfl (Yld.assign rfl rfl) ?_
                refine WP.val rfl rfl rfl rfl (Yld.assign rfl rfl) ?_
                refine WP.nil ?_
                refine WP.next ?_
                refine WP.ret ?_
                refine WP.fin .ret (.inr rfl) (res2 rfl rfl rfl) [] (by repeat (first | exact Take.nil | with_reducible apply Take.cons | apply Take.app | exact Rm.chunk | exact Rm.here | exact Rm.nil0 | apply Rm.skip | apply Rm.skipS | (focus (apply Take.all; (repeat (first | exact Rm.chunk | exact Rm.here | exact Rm.nil0 | apply Rm.skip | apply Rm.skipS)); done)) | apply Take.cons)) (by repeat (first | exact Leave.done | apply Leave.drop | apply Leave.dropS)) (Imm.le_refl _) ?_
                have e := pjoin_bad hi (fun g => (by have g2 := g.index; have g3 := g.parts; have g4 := g.no; have g5 := g.era; have g6 := g.place; omega))
                rw [e]; exact ⟨_, _, rfl, .none0, rfl⟩
              · refine WQ.val rfl rfl rfl (Yld.pickF rfl rfl rfl) ?_
                refine WQ.nil ?_
                refine WP.sub [(0, _), (4, _), (5, _), (6, _), (7, _), (11, _), (63, _)] ?_ ⟨rfl, rfl, rfl, rfl, rfl, rfl, rfl, trivial⟩
                refine WP.next ?_
                refine WP.condF rfl ?_
                refine WP.skip ?_
                refine WP.next ?_
                have hmt := of_decide_eq_true hmm
                have hd198 := hdl hmt
                have hjd := jd_le (l := l) i (fun j hj hjl => (hprev j hj hjl).may.len.2) (by omega)
                have hp64 : l.length ≤ 64 := by have := hmt.parts; omega
                refine WP.region [0, 1, 2, 3, 4] rfl ?_
                refine WP.val rfl rfl rfl rfl (Yld.move rfl rfl) ?_
                refine WP.val rfl rfl rfl rfl (Yld.fieldAddr rfl ty_fd_35_5 rfl) ?_
                refine WP.val rfl rfl rfl rfl (Yld.load (v := l[i].2) rfl ty_sc_22 rfl (by repeat (first | exact There.h | exact There.i (by assumption) | apply There.t | apply There.s)) rfl) ?_
                refine WP.loud rfl rfl ?_
                refine Op.append rfl ty_sl_22 ty_el_22 rfl rfl rfl rfl rfl hout (hdat.mono (fun b o h => There.i h)) (by repeat (first | exact Take.nil | with_reducible apply Take.cons | apply Take.app | exact Rm.chunk | exact Rm.here | exact Rm.nil0 | apply Rm.skip | apply Rm.skipS | (focus (apply Take.all; (repeat (first | exact Rm.chunk | exact Rm.here | exact Rm.nil0 | apply Rm.skip | apply Rm.skipS)); done)) | apply Take.cons)) (bytesV_one _) (by omega) (by omega) (fun vn Ln hn => ?_)
                try simp only [List.cons_append, List.nil_append, List.append_assoc]
                have hnew : Own 5 1 vn (bytesV (((l.take (i + 1)).flatMap (·.1.data)))) (((l.take (i + 1)).flatMap (·.1.data))).length Ln := by rw [List.take_succ_eq_append_getElem hi, List.flatMap_append, bytesV_app, List.length_append]; simpa using hn
                have hprev2 : ∀ j (hj : j < i + 1), (hjl : j < l.length) → pgood (l[0]'(by omega)).1 l.length j l[j].1 := fun j hj hjl => by rcases Nat.lt_succ_iff_lt_or_eq.1 hj with h | rfl; exact hprev j h hjl; exact ⟨hmt, by omega, by omega, by omega, by omega, by omega⟩
                refine WP.val rfl rfl rfl rfl (Yld.assign rfl rfl) ?_
                refine WP.nil ?_
                refine WP.sub [(0, _), (4, _), (5, _), (6, _), (7, _), (11, _), (63, _)] ?_ ⟨rfl, rfl, rfl, rfl, rfl, rfl, rfl, trivial⟩
                refine WP.leave ?_
                refine WP.next ?_
                refine WP.region [0, 1, 2] rfl ?_
                refine WP.val rfl rfl rfl rfl (Yld.move rfl rfl) ?_
                refine WP.val rfl rfl rfl rfl (Yld.add64 rfl rfl rfl (by omega)) ?_
                refine WP.val rfl rfl rfl rfl (Yld.assign rfl rfl) ?_
                refine WP.nil ?_
                refine WP.sub [(0, _), (4, _), (5, _), (6, _), (7, _), (11, _), (63, _)] ?_ ⟨rfl, rfl, rfl, rfl, rfl, rfl, rfl, trivial⟩
                exact WP.again (i + 1, vn, Ln) ⟨(show i + 1 ≤ l.length by omega), hnew, hprev2⟩ (show l.length - (i + 1) < l.length - i by omega) ⟨rfl, rfl, rfl, trivial⟩ rfl (by (try dsimp only); repeat (first | exact Rm.chunk | exact Rm.here | exact Rm.nil0 | apply Rm.skip | apply Rm.skipS | apply PX.cons | (apply PX.done; (repeat (first | exact Leave.done | apply Leave.drop | apply Leave.dropS)); done) | apply PX.app))
    · have hmm : (decide l[i].1.may) = false := eq_false_of_ne_true hmm
      rw [hmm]
      refine WP.val rfl rfl rfl rfl (Yld.assign rfl rfl) ?_
      refine WP.nil ?_
      refine WP.sub [(0, _), (4, _), (5, _), (6, _), (7, _), (11, _)] ?_ ⟨rfl, rfl, rfl, rfl, rfl, rfl, trivial⟩
      refine WP.next ?_
      refine WP.seq ?_
      refine WP.seq ?_
      refine WQ.startAll Trymixed (by kernel_rfl) _ rfl ?_
      refine WQ.val rfl rfl rfl (Yld.move rfl rfl) ?_
      refine WQ.val rfl rfl rfl (Yld.not rfl rfl) ?_
      refine WQ.val rfl rfl rfl (Yld.move rfl rfl) ?_
      refine WQ.passG rfl rfl rfl rfl rfl rfl rfl ?_
      refine WQ.passG rfl rfl rfl rfl rfl rfl rfl ?_
      refine WQ.passG rfl rfl rfl rfl rfl rfl rfl ?_
      refine WQ.passG rfl rfl rfl rfl rfl rfl rfl ?_
      refine WQ.val rfl rfl rfl (Yld.pickT rfl rfl rfl) ?_
      refine WQ.val rfl rfl rfl (Yld.move rfl rfl) ?_
      refine WQ.passG rfl rfl rfl rfl rfl rfl rfl ?_
      refine WQ.passG rfl rfl rfl rfl rfl rfl rfl ?_
      refine WQ.passG rfl rfl rfl rfl rfl rfl rfl ?_
      refine WQ.passG rfl rfl rfl rfl rfl rfl rfl ?_
      refine WQ.passG rfl rfl rfl rfl rfl rfl rfl ?_
      refine WQ.val rfl rfl rfl (Yld.pickT rfl rfl rfl) ?_
      refine WQ.val rfl rfl rfl (Yld.move rfl rfl) ?_
      refine WQ.passG rfl rfl rfl rfl rfl rfl rfl ?_
      refine WQ.passG rfl rfl rfl rfl rfl rfl rfl ?_
      refine WQ.passG rfl rfl rfl rfl rfl rfl rfl ?_
      refine WQ.passG rfl rfl rfl rfl rfl rfl rfl ?_
      refine WQ.passG rfl rfl rfl rfl rfl rfl rfl ?_
      refine WQ.passG rfl rfl rfl rfl rfl rfl rfl ?_
      refine WQ.passG rfl rfl rfl rfl rfl rfl rfl ?_
      refine WQ.val rfl rfl rfl (Yld.pickT rfl rfl rfl) ?_
      refine WQ.val rfl rfl rfl (Yld.move rfl rfl) ?_
      refine WQ.passG rfl rfl rfl rfl rfl rfl rfl ?_
      refine WQ.passG rfl rfl rfl rfl rfl rfl rfl ?_
      refine WQ.passG rfl rfl rfl rfl rfl rfl rfl ?_
      refine WQ.passG rfl rfl rfl rfl rfl rfl rfl ?_
      refine WQ.passG rfl rfl rfl rfl rfl rfl rfl ?_
      refine WQ.passG rfl rfl rfl rfl rfl rfl rfl ?_
      refine WQ.passG rfl rfl rfl rfl rfl rfl rfl ?_
      refine WQ.val rfl rfl rfl (Yld.pickT rfl rfl rfl) ?_
      refine WQ.val rfl rfl rfl (Yld.move rfl rfl) ?_
      refine WQ.passG rfl rfl rfl rfl rfl rfl rfl ?_
      refine WQ.passG rfl rfl rfl rfl rfl rfl rfl ?_
      refine WQ.passG rfl rfl rfl rfl rfl rfl rfl ?_
      refine WQ.passG rfl rfl rfl rfl rfl rfl rfl ?_
      refine WQ.passG rfl rfl rfl rfl rfl rfl rfl ?_
      refine WQ.passG rfl rfl rfl rfl rfl rfl rfl ?_
      refine WQ.passG rfl rfl rfl rfl rfl rfl rfl ?_
      refine WQ.passG rfl rfl rfl rfl rfl rfl rfl ?_
      refine WQ.passG rfl rfl rfl rfl rfl rfl rfl ?_
      refine WQ.val rfl rfl rfl (Yld.pickT rfl rfl rfl) ?_
      refine WQ.nil ?_
      refine WP.sub [(0, _), (4, _), (5, _), (6, _), (7, _), (11, _), (63, _)] ?_ ⟨rfl, rfl, rfl, rfl, rfl, rfl, rfl, trivial⟩
      refine WP.next ?_
      refine WP.condT rfl ?_
      refine WP.seq ?_
      refine WP.region [0, 1] rfl ?_
      refine WP.val rfl rfl rfl rfl (Yld.assign rfl rfl) ?_
      refine WP.val rfl rfl rfl rfl (Yld.assign rfl rfl) ?_
      refine WP.nil ?_
      refine WP.next ?_
      refine WP.ret ?_
      refine WP.fin .ret (.inr rfl) (res2 rfl rfl rfl) [] (by repeat (first | exact Take.nil | with_reducible apply Take.cons | apply Take.app | exact Rm.chunk | exact Rm.here | exact Rm.nil0 | apply Rm.skip | apply Rm.skipS | (focus (apply Take.all; (repeat (first | exact Rm.chunk | exact Rm.here | exact Rm.nil0 | apply Rm.skip | apply Rm.skipS)); done)) | apply Take.cons)) (by repeat (first | exact Leave.done | apply Leave.drop | apply Leave.dropS)) (Imm.le_refl _) ?_
      have e := pjoin_bad hi (fun g => of_decide_eq_false hmm g.may)
      rw [e]; exact ⟨_, _, rfl, .none0, rfl⟩
  · obtain rfl : i = l.length := by omega
    have hprev : ∀ j (hj : j < l.length), pgood (l[0]'(by omega)).1 l.length j l[j].1 := fun j hj => hprev j hj hj
    refine WP.nil ?_
    refine WP.sub [(0, _), (4, _), (5, _), (11, _)] ?_ ⟨rfl, rfl, rfl, rfl, trivial⟩
    refine WP.next ?_
    refine WP.condF rfl ?_
    refine WP.exit ?_
    refine WP.thenE ?_
    refine WP.thenE ?_
    refine WP.hit ?_
    refine WP.next ?_
    refine WP.seq ?_
    refine WP.seq ?_
    refine WP.region [0, 1, 2] rfl ?_
    refine WP.val rfl rfl rfl rfl (Yld.move rfl rfl) ?_
    refine WP.val rfl rfl rfl rfl (Yld.len rfl ty_sl_23 rfl) ?_
    refine WP.split rfl rfl rfl rfl (Yld.eql rfl rfl rfl) (fun hz => ?_) (fun hz => ?_)
    · refine WP.nil ?_
      refine WP.sub [(0, _), (4, _), (5, _), (11, _), (70, _)] ?_ ⟨rfl, rfl, rfl, rfl, rfl, trivial⟩
      refine WP.next ?_
      refine WP.condT rfl ?_
      refine WP.seq ?_
      refine WP.region [0, 1] rfl ?_
      refine WP.val rfl rfl rfl rfl (Yld.assign rfl rfl) ?_
      refine WP.val rfl rfl rfl rfl (Yld.assign rfl rfl) ?_
      refine WP.nil ?_
      refine WP.next ?_
      refine WP.ret ?_
      refine WP.fin .ret (.inr rfl) (res2 rfl rfl rfl) [] (by repeat (first | exact Take.nil | with_reducible apply Take.cons | apply Take.app | exact Rm.chunk | exact Rm.here | exact Rm.nil0 | apply Rm.skip | apply Rm.skipS | (focus (apply Take.all; (repeat (first | exact Rm.chunk | exact Rm.here | exact Rm.nil0 | apply Rm.skip | apply Rm.skipS)); done)) | apply Take.cons)) (by repeat (first | exact Leave.done | apply Leave.drop | apply Leave.dropS)) (Imm.le_refl _) ?_
      obtain rfl : l = [] := List.eq_nil_of_length_eq_zero (by omega)
      exact ⟨_, _, rfl, .none0, rfl⟩
    · refine WP.nil ?_
      refine WP.sub [(0, _), (4, _), (5, _), (11, _), (70, _)] ?_ ⟨rfl, rfl, rfl, rfl, rfl, trivial⟩
      refine WP.next ?_
      refine WP.condF rfl ?_
      refine WP.skip ?_
      refine WP.next ?_
      refine WP.seq ?_
      refine WP.region [0, 1, 2] rfl ?_
      refine WP.val rfl rfl rfl rfl (Yld.move rfl rfl) ?_
      refine WP.val rfl rfl rfl rfl (Yld.assign rfl rfl) ?_
      refine WP.val rfl rfl rfl rfl (Yld.assign rfl rfl) ?_
      refine WP.nil ?_
      refine WP.sub [(0, _), (2, _), (3, _), (4, _), (5, _), (11, _), (70, _)] ?_ ⟨rfl, rfl, rfl, rfl, rfl, rfl, rfl, trivial⟩
      refine WP.next ?_
      refine WP.ret ?_
      refine WP.fin .ret (.inr rfl) (res2 rfl rfl rfl) Lo (by repeat (first | exact Take.nil | with_reducible apply Take.cons | apply Take.app | exact Rm.chunk | exact Rm.here | exact Rm.nil0 | apply Rm.skip | apply Rm.skipS | (focus (apply Take.all; (repeat (first | exact Rm.chunk | exact Rm.here | exact Rm.nil0 | apply Rm.skip | apply Rm.skipS)); done)) | apply Take.cons)) (by repeat (first | exact Leave.done | apply Leave.drop | apply Leave.dropS)) (Imm.le_refl _) ?_
      have e := pjoin_good (by omega) hprev
      rw [List.take_length] at hout
      rw [e]; exact ⟨_, _, rfl, hout, rfl⟩


end Go.Hp
