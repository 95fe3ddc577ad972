import Derived.Test.YtelkknmnnmmoaaaSupD
set_option linter.unusedVariables false
set_option linter.unusedSimpArgs false
namespace Go.Hp
open Go Go.Proofs

theorem super_Encode_ok {I : Imm} {s : Sp} (hm : s.may) : Spec Try.prog 9 [.agg (spV s).toArray] I [] (fun v J L => ∃ b vb, v = .tuple #[vb, .int .i64 0] ∧ SlAt vb b 0 64 ∧ L = [(b, row 61 (bytesV (enc s)))]) := super_Encode.mono (fun v J L _ h => (h.resolve_right (fun h => h.1 hm)).2)
theorem super_Encode_bad {I : Imm} {s : Sp} (hm : ¬ s.may) : Spec Try.prog 9 [.agg (spV s).toArray] I [] (fun v J L => v = .tuple #[.slice none 0 0, .int .i64 1] ∧ I = J ∧ L = []) := super_Encode.mono (fun v J L _ h => (h.resolve_left (fun h => hm h.1)).2)
theorem super_Write_ok {I : Imm} {d n : Nat} {x : Dk} {L : Chunks} (hd : IsDisk d n x L) {s : Sp} (hm : s.may) (hwb : x.waits.length + 8192 ≤ 1954687338000) : Spec Try.prog 17 [.pointer (some ⟨d, 0, none⟩), .agg (spV s).toArray] I L (fun v J L' => v = .int .i64 (x.write n (s.no % 2 * 4) (enc s)).2 ∧ IsDisk d n (x.write n (s.no % 2 * 4) (enc s)).1 L') := by
  refine Spec.of Try.func17 rfl Try.ntmps17 (Nat.le_of_ble_eq_true rfl) (fun F => ?_)
  try simp only [List.cons_append, List.nil_append, List.append_assoc]
  dsimp only [argsEnv]
  refine WP.seq ?_
  refine WP.region [0, 1] rfl ?_
  refine WP.loud rfl rfl ?_
  refine Op.box rfl rfl rfl rfl rfl (fun b3 => ?_)
  refine WP.val rfl rfl rfl rfl (Yld.assign rfl rfl) ?_
  refine WP.nil ?_
  refine WP.next ?_
  refine WP.seq ?_
  refine WP.region [0, 1, 2, 3, 4, 5, 6] rfl ?_
  refine WP.val rfl rfl rfl rfl (Yld.loadAll rfl ty_ag_23 rfl (by repeat (first | exact There.h | exact There.i (by assumption) | apply There.t | apply There.s)) rfl) ?_
  refine WP.loud rfl rfl ?_
  refine Op.call (super_Encode_ok hm) rfl Try.func9 rfl rfl rfl rfl (by repeat (first | exact Take.nil | with_reducible apply Take.cons | apply Take.app | exact Rm.chunk | exact Rm.here | exact Rm.nil0 | apply Rm.skip | apply Rm.skipS | (focus (apply Take.all; (repeat (first | exact Rm.chunk | exact Rm.here | exact Rm.nil0 | apply Rm.skip | apply Rm.skipS)); done)) | apply Take.cons)) ?_
  rintro v J2 L2 hJ2 ⟨b5, vb, rfl, hvb, rfl⟩
  try simp only [List.cons_append, List.nil_append, List.append_assoc]
  refine WP.share (fun J3 hJ3 hb5 => ?_)
  have hbs : SlRd (Im J3) vb (enc s).length 1 (bytesV (enc s)) := by have q := hvb.rdB (V := Im J3) (l := enc s) hb5 (by rw [enc_len]; exact Nat.le_refl _); rw [enc_len]; simpa [List.take_of_length_le (show (enc s).length ≤ 64 by rw [enc_len]; exact Nat.le_refl _)] using q
  refine WP.val rfl rfl rfl rfl (Yld.move rfl rfl) ?_
  refine WP.val rfl rfl rfl rfl (Yld.extract rfl rfl rfl) ?_
  refine WP.val rfl rfl rfl rfl (Yld.extract rfl rfl rfl) ?_
  refine WP.val rfl rfl rfl rfl (Yld.assign rfl rfl) ?_
  refine WP.val rfl rfl rfl rfl (Yld.assign rfl rfl) ?_
  refine WP.nil ?_
  refine WP.sub [(0, _), (1, _), (3, _), (4, _), (5, _), (6, _)] ?_ ⟨rfl, rfl, rfl, rfl, rfl, rfl, trivial⟩
  refine WP.next ?_
  refine WP.seq ?_
  refine WP.seq ?_
  refine WP.region [0, 1] rfl ?_
  refine WP.val rfl rfl rfl rfl (Yld.move rfl rfl) ?_
  refine WP.val rfl rfl rfl rfl (Yld.neq rfl rfl rfl false (decide_eq_false (by omega))) ?_
  refine WP.nil ?_
  refine WP.sub [(0, _), (1, _), (3, _), (4, _), (5, _), (6, _), (13, _)] ?_ ⟨rfl, rfl, rfl, rfl, rfl, rfl, rfl, trivial⟩
  refine WP.next ?_
  refine WP.condF rfl ?_
  refine WP.skip ?_
  refine WP.next ?_
  refine WP.seq ?_
  refine WP.region [0, 1, 2, 3, 4, 5, 6, 7] rfl ?_
  refine WP.val rfl rfl rfl rfl (Yld.move rfl rfl) ?_
  refine WP.val rfl rfl rfl rfl (Yld.fieldAddr rfl ty_fd_23_0 rfl) ?_
  refine WP.val rfl rfl rfl rfl (Yld.load rfl ty_sc_3 rfl (by repeat (first | exact There.h | exact There.i (by assumption) | apply There.t | apply There.s)) rfl) ?_
  refine WP.val rfl rfl rfl rfl (Yld.rem64 rfl rfl rfl ⟨by have := hm.no; omega, by decide⟩) ?_
  refine WP.val rfl rfl rfl rfl (Yld.mul64 rfl rfl rfl (by have := hm.no; omega)) ?_
  refine WP.val rfl rfl rfl rfl (Yld.move rfl rfl) ?_
  refine WP.loud rfl rfl ?_
  refine Op.call (disk_Write hd hbs hwb (by rw [enc_len]; decide)) rfl Try.func15 rfl rfl rfl rfl (by repeat (first | exact Take.nil | with_reducible apply Take.cons | apply Take.app | exact Rm.chunk | exact Rm.here | exact Rm.nil0 | apply Rm.skip | apply Rm.skipS | (focus (apply Take.all; (repeat (first | exact Rm.chunk | exact Rm.here | exact Rm.nil0 | apply Rm.skip | apply Rm.skipS)); done)) | apply Take.cons)) ?_
  rintro v J L9 hJ ⟨rfl, rfl, hd2⟩
  clear hJ; try simp only [List.cons_append, List.nil_append, List.append_assoc]
  refine WP.val rfl rfl rfl rfl (Yld.assign rfl rfl) ?_
  refine WP.nil ?_
  refine WP.sub [(0, _), (1, _), (3, _), (4, _), (5, _), (6, _), (13, _)] ?_ ⟨rfl, rfl, rfl, rfl, rfl, rfl, rfl, trivial⟩
  refine WP.next ?_
  refine WP.ret ?_
  refine WP.fin .ret (.inr rfl) (res1 rfl rfl) L9 (by repeat (first | exact Take.nil | with_reducible apply Take.cons | apply Take.app | exact Rm.chunk | exact Rm.here | exact Rm.nil0 | apply Rm.skip | apply Rm.skipS | (focus (apply Take.all; (repeat (first | exact Rm.chunk | exact Rm.here | exact Rm.nil0 | apply Rm.skip | apply Rm.skipS)); done)) | apply Take.cons)) (by repeat (first | exact Leave.done | apply Leave.drop | apply Leave.dropS)) (Imm.le_trans hJ2 hJ3) ?_
  exact ⟨rfl, hd2⟩

theorem super_Write_bad {I : Imm} {d n : Nat} {x : Dk} {L : Chunks} (hd : IsDisk d n x L) {s : Sp} (hm : ¬ s.may) : Spec Try.prog 17 [.pointer (some ⟨d, 0, none⟩), .agg (spV s).toArray] I L (fun v J L' => v = .int .i64 1 ∧ I = J ∧ L' = L) := by
  refine Spec.of Try.func17 rfl Try.ntmps17 (Nat.le_of_ble_eq_true rfl) (fun F => ?_)
  try simp only [List.cons_append, List.nil_append, List.append_assoc]
  dsimp only [argsEnv]
  refine WP.seq ?_
  refine WP.region [0, 1] rfl ?_
  refine WP.loud rfl rfl ?_
  refine Op.box rfl rfl rfl rfl rfl (fun b3 => ?_)
  refine WP.val rfl rfl rfl rfl (Yld.assign rfl rfl) ?_
  refine WP.nil ?_
  refine WP.next ?_
  refine WP.seq ?_
  refine WP.region [0, 1, 2, 3, 4, 5, 6] rfl ?_
  refine WP.val rfl rfl rfl rfl (Yld.loadAll rfl ty_ag_23 rfl (by repeat (first | exact There.h | exact There.i (by assumption) | apply There.t | apply There.s)) rfl) ?_
  refine WP.loud rfl rfl ?_
  refine Op.call (super_Encode_bad hm) rfl Try.func9 rfl rfl rfl rfl (by repeat (first | exact Take.nil | with_reducible apply Take.cons | apply Take.app | exact Rm.chunk | exact Rm.here | exact Rm.nil0 | apply Rm.skip | apply Rm.skipS | (focus (apply Take.all; (repeat (first | exact Rm.chunk | exact Rm.here | exact Rm.nil0 | apply Rm.skip | apply Rm.skipS)); done)) | apply Take.cons)) ?_
  rintro v J L1 hJ ⟨rfl, rfl, rfl⟩
  clear hJ; try simp only [List.cons_append, List.nil_append, List.append_assoc]
  refine WP.val rfl rfl rfl rfl (Yld.move rfl rfl) ?_
  refine WP.val rfl rfl rfl rfl (Yld.extract rfl rfl rfl) ?_
  refine WP.val rfl rfl rfl rfl (Yld.extract rfl rfl rfl) ?_
  refine WP.val rfl rfl rfl rfl (Yld.assign rfl rfl) ?_
  refine WP.val rfl rfl rfl rfl (Yld.assign rfl rfl) ?_
  refine WP.nil ?_
  refine WP.sub [(0, _), (1, _), (3, _), (4, _), (5, _), (6, _)] ?_ ⟨rfl, rfl, rfl, rfl, rfl, rfl, trivial⟩
  refine WP.next ?_
  refine WP.seq ?_
  refine WP.seq ?_
  refine WP.region [0, 1] rfl ?_
  refine WP.val rfl rfl rfl rfl (Yld.move rfl rfl) ?_
  refine WP.val rfl rfl rfl rfl (Yld.neq rfl rfl rfl true (decide_eq_true (by omega))) ?_
  refine WP.nil ?_
  refine WP.sub [(0, _), (1, _), (3, _), (4, _), (5, _), (6, _), (13, _)] ?_ ⟨rfl, rfl, rfl, rfl, rfl, rfl, rfl, trivial⟩
  refine WP.next ?_
  refine WP.condT rfl ?_
  refine WP.seq ?_
  refine WP.region [0, 1] rfl ?_
  refine WP.val rfl rfl rfl rfl (Yld.move rfl rfl) ?_
  refine WP.val rfl rfl rfl rfl (Yld.assign rfl rfl) ?_
  refine WP.nil ?_
  refine WP.sub [(0, _), (1, _), (3, _), (4, _), (5, _), (6, _), (13, _)] ?_ ⟨rfl, rfl, rfl, rfl, rfl, rfl, rfl, trivial⟩
  refine WP.next ?_
  refine WP.ret ?_
  refine WP.fin .ret (.inr rfl) (res1 rfl rfl) L (by repeat (first | exact Take.nil | with_reducible apply Take.cons | apply Take.app | exact Rm.chunk | exact Rm.here | exact Rm.nil0 | apply Rm.skip | apply Rm.skipS | (focus (apply Take.all; (repeat (first | exact Rm.chunk | exact Rm.here | exact Rm.nil0 | apply Rm.skip | apply Rm.skipS)); done)) | apply Take.cons)) (by repeat (first | exact Leave.done | apply Leave.drop | apply Leave.dropS)) (Imm.le_refl _) ?_
  exact ⟨rfl, rfl, rfl⟩


end Go.Hp
