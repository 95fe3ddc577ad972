import Derived.Test.YtelkknmnnmmoaaaSupR
set_option linter.unusedVariables false
set_option linter.unusedSimpArgs false
namespace Go.Hp
open Go Go.Proofs
theorem super_Forms_ok {I : Imm} {bs : List UInt8} {vb : Value} {s : Sp} (hb : SlRd (fun b o => I.blk b = some o) vb bs.length 1 (bytesV bs)) (hbl : bs.length ≤ 140737488351232) (hm : s.may) : Spec Try.prog 3 [.agg (spV s).toArray, vb] I [] (fun v J L => v = .bool true ∧ L = []) := by
  refine Spec.of Try.func3 rfl Try.ntmps3 (Nat.le_of_ble_eq_true rfl) (fun F => ?_)
  try simp only [List.cons_append, List.nil_append, List.append_assoc]
  dsimp only [argsEnv]
  refine WP.seq ?_
  refine WP.region [0, 1] rfl ?_
  refine WP.loud rfl rfl ?_
  refine Op.box rfl rfl rfl rfl rfl (fun b2 => ?_)
  refine WP.val rfl rfl rfl rfl (Yld.assign rfl rfl) ?_
  refine WP.nil ?_
  refine WP.next ?_
  refine WP.seq ?_
  refine WP.region [0, 1] rfl ?_
  refine WP.loud rfl rfl ?_
  refine Op.call super_awake rfl Try.func8 rfl rfl rfl rfl (by repeat (first | exact Take.nil | with_reducible apply Take.cons | apply Take.app | exact Rm.chunk | exact Rm.here | exact Rm.nil0 | apply Rm.skip | apply Rm.skipS | (focus (apply Take.all; (repeat (first | exact Rm.chunk | exact Rm.here | exact Rm.nil0 | apply Rm.skip | apply Rm.skipS)); done)) | apply Take.cons)) ?_
  rintro v Ja L1 hJa ⟨rfl, rfl⟩
  try simp only [List.cons_append, List.nil_append, List.append_assoc]
  have hb := hb.mono (fun b o h => hJa.2 b o h)
  refine WP.val rfl rfl rfl rfl (Yld.assign rfl rfl) ?_
  refine WP.nil ?_
  refine WP.sub [(0, _), (1, _), (2, _), (4, _), (5, _)] ?_ ⟨rfl, rfl, rfl, rfl, rfl, trivial⟩
  refine WP.next ?_
  refine WP.seq ?_
  refine WP.region [0, 1, 2, 3, 4, 5, 6] rfl ?_
  refine WP.val rfl rfl rfl rfl (Yld.loadAll rfl ty_ag_23 rfl (by repeat (first | exact There.h | exact There.i (by assumption) | apply There.t | apply There.s)) rfl) ?_
  refine WP.loud rfl rfl ?_
  refine Op.call (super_Encode_ok hm) rfl Try.func9 rfl rfl rfl rfl (by repeat (first | exact Take.nil | with_reducible apply Take.cons | apply Take.app | exact Rm.chunk | exact Rm.here | exact Rm.nil0 | apply Rm.skip | apply Rm.skipS | (focus (apply Take.all; (repeat (first | exact Rm.chunk | exact Rm.here | exact Rm.nil0 | apply Rm.skip | apply Rm.skipS)); done)) | apply Take.cons)) ?_
  rintro v J1 L1 hJ1 ⟨bx, vx, rfl, hvx, rfl⟩
  try simp only [List.cons_append, List.nil_append, List.append_assoc]
  refine WP.share (fun J2 hJ2 hbx => ?_)
  have hx : SlRd (fun b o => J2.blk b = some o) vx (enc s).length 1 (bytesV (enc s)) := by have q := hvx.rdB (V := fun b o => J2.blk b = some o) (l := enc s) hbx (by rw [enc_len]; exact Nat.le_refl _); rw [enc_len]; simpa [List.take_of_length_le (show (enc s).length ≤ 64 by rw [enc_len]; exact Nat.le_refl _)] using q
  have hb := hb.mono (fun b o h => hJ1.2 b o h)
  have hb := hb.mono (fun b o h => hJ2.2 b o h)
  refine WP.val rfl rfl rfl rfl (Yld.move rfl rfl) ?_
  refine WP.val rfl rfl rfl rfl (Yld.extract rfl rfl rfl) ?_
  refine WP.val rfl rfl rfl rfl (Yld.extract rfl rfl rfl) ?_
  refine WP.val rfl rfl rfl rfl (Yld.assign rfl rfl) ?_
  refine WP.val rfl rfl rfl rfl (Yld.assign rfl rfl) ?_
  refine WP.nil ?_
  refine WP.sub [(0, _), (1, _), (2, _), (4, _), (5, _), (6, _), (7, _)] ?_ ⟨rfl, rfl, rfl, rfl, rfl, rfl, rfl, trivial⟩
  refine WP.next ?_
  refine WP.seq ?_
  refine WP.region [0, 1, 2, 3, 4, 5, 6] rfl ?_
  refine WP.val rfl rfl rfl rfl (Yld.loadAll rfl ty_ag_23 rfl (by repeat (first | exact There.h | exact There.i (by assumption) | apply There.t | apply There.s)) rfl) ?_
  refine WP.loud rfl rfl ?_
  refine Op.call (ref_Encode_ok (s := s) hm) rfl Try.func10 rfl rfl rfl rfl (by repeat (first | exact Take.nil | with_reducible apply Take.cons | apply Take.app | exact Rm.chunk | exact Rm.here | exact Rm.nil0 | apply Rm.skip | apply Rm.skipS | (focus (apply Take.all; (repeat (first | exact Rm.chunk | exact Rm.here | exact Rm.nil0 | apply Rm.skip | apply Rm.skipS)); done)) | apply Take.cons)) ?_
  rintro v J3 Ly hJ3 ⟨vy, rfl, hy⟩
  try simp only [List.cons_append, List.nil_append, List.append_assoc]
  have hb := hb.mono (fun b o h => hJ3.2 b o h)
  have hx := hx.mono (fun b o h => hJ3.2 b o h)
  refine WP.val rfl rfl rfl rfl (Yld.move rfl rfl) ?_
  refine WP.val rfl rfl rfl rfl (Yld.extract rfl rfl rfl) ?_
  refine WP.val rfl rfl rfl rfl (Yld.extract rfl rfl rfl) ?_
  refine WP.val rfl rfl rfl rfl (Yld.assign rfl rfl) ?_
  refine WP.val rfl rfl rfl rfl (Yld.assign rfl rfl) ?_
  refine WP.nil ?_
  refine WP.sub [(0, _), (1, _), (2, _), (4, _), (5, _), (6, _), (7, _), (8, _), (9, _)] ?_ ⟨rfl, rfl, rfl, rfl, rfl, rfl, rfl, rfl, rfl, trivial⟩
  refine WP.next ?_
  refine WP.seq ?_
  refine WP.region [0, 1, 2] rfl ?_
  refine WP.val rfl rfl rfl rfl (Yld.move rfl rfl) ?_
  refine WP.loud rfl rfl ?_
  refine Op.append rfl ty_sl_24 ty_el_24 rfl rfl rfl rfl rfl .none0 (hb.mono (fun b o h => There.i h)) (by repeat (first | exact Take.nil | with_reducible apply Take.cons | apply Take.app | exact Rm.chunk | exact Rm.here | exact Rm.nil0 | apply Rm.skip | apply Rm.skipS | (focus (apply Take.all; (repeat (first | exact Rm.chunk | exact Rm.here | exact Rm.nil0 | apply Rm.skip | apply Rm.skipS)); done)) | apply Take.cons)) (bytesV_one _) (by omega) (by omega) (fun vp Lp hp => ?_)
  rw [List.nil_append, Nat.zero_add] at hp
  try simp only [List.cons_append, List.nil_append, List.append_assoc]
  refine WP.val rfl rfl rfl rfl (Yld.assign rfl rfl) ?_
  refine WP.nil ?_
  refine WP.sub [(0, _), (1, _), (2, _), (4, _), (5, _), (6, _), (7, _), (8, _), (9, _), (10, _)] ?_ ⟨rfl, rfl, rfl, rfl, rfl, rfl, rfl, rfl, rfl, rfl, trivial⟩
  refine WP.shareOwn hp (by repeat (first | exact Take.nil | with_reducible apply Take.cons | apply Take.app | exact Rm.chunk | exact Rm.here | exact Rm.nil0 | apply Rm.skip | apply Rm.skipS | (focus (apply Take.all; (repeat (first | exact Rm.chunk | exact Rm.here | exact Rm.nil0 | apply Rm.skip | apply Rm.skipS)); done)) | apply Take.cons)) (fun J4 hJ4 hq => ?_)
  have hb := hb.mono (fun b o h => hJ4.2 b o h)
  have hx := hx.mono (fun b o h => hJ4.2 b o h)
  refine WP.next ?_
  refine WP.seq ?_
  refine WP.region [0, 1, 2, 3, 4, 5, 6, 7] rfl ?_
  refine WP.val rfl rfl rfl rfl (Yld.move rfl rfl) ?_
  refine WP.loud rfl rfl ?_
  refine Op.call (super_Decode hq (by omega)) rfl Try.func11 rfl rfl rfl rfl (by repeat (first | exact Take.nil | with_reducible apply Take.cons | apply Take.app | exact Rm.chunk | exact Rm.here | exact Rm.nil0 | apply Rm.skip | apply Rm.skipS | (focus (apply Take.all; (repeat (first | exact Rm.chunk | exact Rm.here | exact Rm.nil0 | apply Rm.skip | apply Rm.skipS)); done)) | apply Take.cons)) ?_
  rintro v J5 L1 hJ5 ⟨rfl, rfl⟩
  try simp only [List.cons_append, List.nil_append, List.append_assoc]
  have hb := hb.mono (fun b o h => hJ5.2 b o h)
  have hx := hx.mono (fun b o h => hJ5.2 b o h)
  have hq := hq.mono (fun b o h => hJ5.2 b o h)
  refine WP.val rfl rfl rfl rfl (Yld.move rfl rfl) ?_
  refine WP.val rfl rfl rfl rfl (Yld.extract rfl rfl rfl) ?_
  refine WP.val rfl rfl rfl rfl (Yld.extract rfl rfl rfl) ?_
  refine WP.loud rfl rfl ?_
  refine Op.alloc rfl rfl rfl ty_zr_23 (fun b11 => ?_)
  refine WP.loud rfl rfl ?_
  refine Op.storeAll rfl rfl ty_sz_23 rfl rfl rfl rfl (by repeat (first | exact Upd.head | apply Upd.tail | apply Upd.tailS)) rfl ?_
  refine WP.val rfl rfl rfl rfl (Yld.assign rfl rfl) ?_
  refine WP.nil ?_
  refine WP.sub [(0, _), (1, _), (2, _), (4, _), (5, _), (6, _), (7, _), (8, _), (9, _), (10, _), (11, _), (12, _)] ?_ ⟨rfl, rfl, rfl, rfl, rfl, rfl, rfl, rfl, rfl, rfl, rfl, rfl, trivial⟩
  refine WP.next ?_
  refine WP.seq ?_
  refine WP.region [0, 1, 2, 3, 4, 5, 6, 7] rfl ?_
  refine WP.val rfl rfl rfl rfl (Yld.move rfl rfl) ?_
  refine WP.loud rfl rfl ?_
  refine Op.call (ref_Decode hb (by omega)) rfl Try.func12 rfl rfl rfl rfl (by repeat (first | exact Take.nil | with_reducible apply Take.cons | apply Take.app | exact Rm.chunk | exact Rm.here | exact Rm.nil0 | apply Rm.skip | apply Rm.skipS | (focus (apply Take.all; (repeat (first | exact Rm.chunk | exact Rm.here | exact Rm.nil0 | apply Rm.skip | apply Rm.skipS)); done)) | apply Take.cons)) ?_
  rintro v J6 L1 hJ6 ⟨rfl, rfl⟩
  try simp only [List.cons_append, List.nil_append, List.append_assoc]
  have hb := hb.mono (fun b o h => hJ6.2 b o h)
  have hx := hx.mono (fun b o h => hJ6.2 b o h)
  have hq := hq.mono (fun b o h => hJ6.2 b o h)
  refine WP.val rfl rfl rfl rfl (Yld.move rfl rfl) ?_
  refine WP.val rfl rfl rfl rfl (Yld.extract rfl rfl rfl) ?_
  refine WP.val rfl rfl rfl rfl (Yld.extract rfl rfl rfl) ?_
  refine WP.loud rfl rfl ?_
  refine Op.alloc rfl rfl rfl ty_zr_23 (fun b13 => ?_)
  refine WP.loud rfl rfl ?_
  refine Op.storeAll rfl rfl ty_sz_23 rfl rfl rfl rfl (by repeat (first | exact Upd.head | apply Upd.tail | apply Upd.tailS)) rfl ?_
  refine WP.val rfl rfl rfl rfl (Yld.assign rfl rfl) ?_
  refine WP.nil ?_
  refine WP.sub [(0, _), (1, _), (2, _), (4, _), (5, _), (6, _), (7, _), (8, _), (9, _), (10, _), (11, _), (12, _), (13, _), (14, _)] ?_ ⟨rfl, rfl, rfl, rfl, rfl, rfl, rfl, rfl, rfl, rfl, rfl, rfl, rfl, rfl, trivial⟩
  refine WP.next ?_
  refine WP.seq ?_
  refine WP.region [0, 1, 2, 3, 4, 5, 6, 7] rfl ?_
  refine WP.val rfl rfl rfl rfl (Yld.move rfl rfl) ?_
  refine WP.loud rfl rfl ?_
  refine Op.call (super_Decode hx (by rw [enc_len]; decide)) rfl Try.func11 rfl rfl rfl rfl (by repeat (first | exact Take.nil | with_reducible apply Take.cons | apply Take.app | exact Rm.chunk | exact Rm.here | exact Rm.nil0 | apply Rm.skip | apply Rm.skipS | (focus (apply Take.all; (repeat (first | exact Rm.chunk | exact Rm.here | exact Rm.nil0 | apply Rm.skip | apply Rm.skipS)); done)) | apply Take.cons)) ?_
  rintro v J7 L1 hJ7 ⟨rfl, rfl⟩
  try simp only [List.cons_append, List.nil_append, List.append_assoc]
  have hb := hb.mono (fun b o h => hJ7.2 b o h)
  have hx := hx.mono (fun b o h => hJ7.2 b o h)
  have hq := hq.mono (fun b o h => hJ7.2 b o h)
  rw [dec_enc hm]
  refine WP.val rfl rfl rfl rfl (Yld.move rfl rfl) ?_
  refine WP.val rfl rfl rfl rfl (Yld.extract rfl rfl rfl) ?_
  refine WP.val rfl rfl rfl rfl (Yld.extract rfl rfl rfl) ?_
  refine WP.loud rfl rfl ?_
  refine Op.alloc rfl rfl rfl ty_zr_23 (fun b15 => ?_)
  refine WP.loud rfl rfl ?_
  refine Op.storeAll rfl rfl ty_sz_23 rfl rfl rfl rfl (by repeat (first | exact Upd.head | apply Upd.tail | apply Upd.tailS)) rfl ?_
  refine WP.val rfl rfl rfl rfl (Yld.assign rfl rfl) ?_
  refine WP.nil ?_
  refine WP.sub [(0, _), (1, _), (2, _), (4, _), (5, _), (6, _), (7, _), (8, _), (9, _), (10, _), (11, _), (12, _), (13, _), (14, _), (15, _), (16, _)] ?_ ⟨rfl, rfl, rfl, rfl, rfl, rfl, rfl, rfl, rfl, rfl, rfl, rfl, rfl, rfl, rfl, rfl, trivial⟩
  refine WP.next ?_
  refine WP.seq ?_
  refine WP.seq ?_
  refine WP.region [0, 1, 2, 3, 4, 5, 6, 7, 8, 9, 10] rfl ?_
  refine WP.val rfl rfl rfl rfl (Yld.move rfl rfl) ?_
  refine WP.val rfl rfl rfl rfl (Yld.eql rfl rfl rfl true (decide_eq_true (by omega))) ?_
  refine WP.val rfl rfl rfl rfl (Yld.move rfl rfl) ?_
  refine WP.valG rfl rfl rfl rfl rfl rfl rfl (Yld.move rfl rfl) ?_
  refine WP.valG rfl rfl rfl rfl rfl rfl rfl (Yld.neq rfl rfl rfl false (decide_eq_false (by simp))) ?_
  refine WP.valG rfl rfl rfl rfl rfl rfl rfl (Yld.move rfl rfl) ?_
  refine WP.valG rfl rfl rfl rfl rfl rfl rfl (Yld.loadAll rfl ty_ag_23 rfl (by repeat (first | exact There.h | exact There.i (by assumption) | apply There.t | apply There.s)) rfl) ?_
  refine WP.valG rfl rfl rfl rfl rfl rfl rfl (Yld.loadAll rfl ty_ag_23 rfl (by repeat (first | exact There.h | exact There.i (by assumption) | apply There.t | apply There.s)) rfl) ?_
  refine WP.valG rfl rfl rfl rfl rfl rfl rfl (Yld.neqInts (m := 5) (us := ((some s).getD spZ).ints) (vs := s.ints) rfl (by kernel_rfl) rfl rfl rfl rfl false (by simp)) ?_
  refine WP.valG rfl rfl rfl rfl rfl rfl rfl (Yld.pickF rfl rfl rfl) ?_
  refine WP.val rfl rfl rfl rfl (Yld.pickT rfl rfl rfl) ?_
  refine WP.nil ?_
  refine WP.sub [(0, _), (1, _), (2, _), (4, _), (5, _), (6, _), (7, _), (8, _), (9, _), (10, _), (11, _), (12, _), (13, _), (14, _), (15, _), (16, _), (55, _)] ?_ ⟨rfl, rfl, rfl, rfl, rfl, rfl, rfl, rfl, rfl, rfl, rfl, rfl, rfl, rfl, rfl, rfl, rfl, trivial⟩
  refine WP.next ?_
  refine WP.condF rfl ?_
  refine WP.skip ?_
  refine WP.next ?_
  refine WP.seq ?_
  refine WP.region [0, 1, 2, 3, 4, 5, 6, 7, 8, 9, 10, 11, 12, 13, 14, 15, 16, 17, 18, 19, 20, 21, 22, 23, 24, 25, 26, 27, 28, 29, 30] rfl ?_
  refine WP.val rfl rfl rfl rfl (Yld.move rfl rfl) ?_
  refine WP.val rfl rfl rfl rfl (Yld.move rfl rfl) ?_
  refine WP.valG rfl rfl rfl rfl rfl rfl rfl (Yld.move rfl rfl) ?_
  refine WP.valG rfl rfl rfl rfl rfl rfl rfl (Yld.str (e := 5) rfl (by kernel_rfl) (by kernel_rfl) (by kernel_rfl) rfl (hx.mono (fun b o h => .inr h))) ?_
  refine WP.valG rfl rfl rfl rfl rfl rfl rfl (Yld.move rfl rfl) ?_
  refine WP.valG rfl rfl rfl rfl rfl rfl rfl (Yld.str (e := 5) rfl (by kernel_rfl) (by kernel_rfl) (by kernel_rfl) rfl (hy.rd (by intro p hp; simp [hp]))) ?_
  refine WP.valG rfl rfl rfl rfl rfl rfl rfl (Yld.eqlStr rfl rfl rfl true (by simp)) ?_
  refine WP.val rfl rfl rfl rfl (Yld.pickT rfl rfl rfl) ?_
  refine WP.val rfl rfl rfl rfl (Yld.move rfl rfl) ?_
  refine WP.valG rfl rfl rfl rfl rfl rfl rfl (Yld.move rfl rfl) ?_
  refine WP.valG rfl rfl rfl rfl rfl rfl rfl (Yld.move rfl rfl) ?_
  refine WP.valG rfl rfl rfl rfl rfl rfl rfl (Yld.eql rfl rfl rfl true (decide_eq_true (by omega))) ?_
  refine WP.val rfl rfl rfl rfl (Yld.pickT rfl rfl rfl) ?_
  refine WP.val rfl rfl rfl rfl (Yld.move rfl rfl) ?_
  refine WP.valG rfl rfl rfl rfl rfl rfl rfl (Yld.loadAll rfl ty_ag_23 rfl (by repeat (first | exact There.h | exact There.i (by assumption) | apply There.t | apply There.s)) rfl) ?_
  refine WP.valG rfl rfl rfl rfl rfl rfl rfl (Yld.loadAll rfl ty_ag_23 rfl (by repeat (first | exact There.h | exact There.i (by assumption) | apply There.t | apply There.s)) rfl) ?_
  refine WP.valG rfl rfl rfl rfl rfl rfl rfl (Yld.eqlInts (m := 5) (us := ((decS bs).getD spZ).ints) (vs := ((decS bs).getD spZ).ints) rfl (by kernel_rfl) rfl rfl rfl rfl true (by simp)) ?_
  refine WP.val rfl rfl rfl rfl (Yld.pickT rfl rfl rfl) ?_
  refine WP.val rfl rfl rfl rfl (Yld.move rfl rfl) ?_
  refine WP.valG rfl rfl rfl rfl rfl rfl rfl (Yld.move rfl rfl) ?_
  refine WP.valG rfl rfl rfl rfl rfl rfl rfl (Yld.move rfl rfl) ?_
  refine WP.valG rfl rfl rfl rfl rfl rfl rfl (Yld.eql rfl rfl rfl true (decide_eq_true (by rfl))) ?_
  refine WP.val rfl rfl rfl rfl (Yld.pickT rfl rfl rfl) ?_
  refine WP.val rfl rfl rfl rfl (Yld.move rfl rfl) ?_
  refine WP.valG rfl rfl rfl rfl rfl rfl rfl (Yld.move rfl rfl) ?_
  refine WP.valG rfl rfl rfl rfl rfl rfl rfl (Yld.str (e := 5) rfl (by kernel_rfl) (by kernel_rfl) (by kernel_rfl) rfl (hq.mono (fun b o h => .inr h))) ?_
  refine WP.valG rfl rfl rfl rfl rfl rfl rfl (Yld.move rfl rfl) ?_
  refine WP.valG rfl rfl rfl rfl rfl rfl rfl (Yld.str (e := 5) rfl (by kernel_rfl) (by kernel_rfl) (by kernel_rfl) rfl (hb.mono (fun b o h => .inr h))) ?_
  refine WP.valG rfl rfl rfl rfl rfl rfl rfl (Yld.eqlStr rfl rfl rfl true (by simp)) ?_
  refine WP.val rfl rfl rfl rfl (Yld.pickT rfl rfl rfl) ?_
  refine WP.val rfl rfl rfl rfl (Yld.assign rfl rfl) ?_
  refine WP.nil ?_
  refine WP.sub [(0, _), (1, _), (2, _), (4, _), (5, _), (6, _), (7, _), (8, _), (9, _), (10, _), (11, _), (12, _), (13, _), (14, _), (15, _), (16, _), (55, _)] ?_ ⟨rfl, rfl, rfl, rfl, rfl, rfl, rfl, rfl, rfl, rfl, rfl, rfl, rfl, rfl, rfl, rfl, rfl, trivial⟩
  refine WP.next ?_
  refine WP.ret ?_
  refine WP.fin .ret (.inr rfl) (res1 rfl rfl) [] (by repeat (first | exact Take.nil | with_reducible apply Take.cons | apply Take.app | exact Rm.chunk | exact Rm.here | exact Rm.nil0 | apply Rm.skip | apply Rm.skipS | (focus (apply Take.all; (repeat (first | exact Rm.chunk | exact Rm.here | exact Rm.nil0 | apply Rm.skip | apply Rm.skipS)); done)) | apply Take.cons)) (by repeat (first | exact Leave.done | apply Leave.drop | apply Leave.dropS)) (Imm.le_trans hJa (Imm.le_trans hJ1 (Imm.le_trans hJ2 (Imm.le_trans hJ3 (Imm.le_trans hJ4 (Imm.le_trans hJ5 (Imm.le_trans hJ6 hJ7))))))) ?_
  exact ⟨rfl, rfl⟩

theorem super_Forms_bad {I : Imm} {bs : List UInt8} {vb : Value} {s : Sp} (hb : SlRd (fun b o => I.blk b = some o) vb bs.length 1 (bytesV bs)) (hbl : bs.length ≤ 140737488351232) (hm : ¬ s.may) : Spec Try.prog 3 [.agg (spV s).toArray, vb] I [] (fun v J L => v = .bool true ∧ L = []) := by
  refine Spec.of Try.func3 rfl Try.ntmps3 (Nat.le_of_ble_eq_true rfl) (fun F => ?_)
  try simp only [List.cons_append, List.nil_append, List.append_assoc]
  dsimp only [argsEnv]
  refine WP.seq ?_
  refine WP.region [0, 1] rfl ?_
  refine WP.loud rfl rfl ?_
  refine Op.box rfl rfl rfl rfl rfl (fun b2 => ?_)
  refine WP.val rfl rfl rfl rfl (Yld.assign rfl rfl) ?_
  refine WP.nil ?_
  refine WP.next ?_
  refine WP.seq ?_
  refine WP.region [0, 1] rfl ?_
  refine WP.loud rfl rfl ?_
  refine Op.call super_awake rfl Try.func8 rfl rfl rfl rfl (by repeat (first | exact Take.nil | with_reducible apply Take.cons | apply Take.app | exact Rm.chunk | exact Rm.here | exact Rm.nil0 | apply Rm.skip | apply Rm.skipS | (focus (apply Take.all; (repeat (first | exact Rm.chunk | exact Rm.here | exact Rm.nil0 | apply Rm.skip | apply Rm.skipS)); done)) | apply Take.cons)) ?_
  rintro v Ja L1 hJa ⟨rfl, rfl⟩
  try simp only [List.cons_append, List.nil_append, List.append_assoc]
  have hb := hb.mono (fun b o h => hJa.2 b o h)
  refine WP.val rfl rfl rfl rfl (Yld.assign rfl rfl) ?_
  refine WP.nil ?_
  refine WP.sub [(0, _), (1, _), (2, _), (4, _), (5, _)] ?_ ⟨rfl, rfl, rfl, rfl, rfl, trivial⟩
  refine WP.next ?_
  refine WP.seq ?_
  refine WP.region [0, 1, 2, 3, 4, 5, 6] rfl ?_
  refine WP.val rfl rfl rfl rfl (Yld.loadAll rfl ty_ag_23 rfl (by repeat (first | exact There.h | exact There.i (by assumption) | apply There.t | apply There.s)) rfl) ?_
  refine WP.loud rfl rfl ?_
  refine Op.call (super_Encode_bad hm) rfl Try.func9 rfl rfl rfl rfl (by repeat (first | exact Take.nil | with_reducible apply Take.cons | apply Take.app | exact Rm.chunk | exact Rm.here | exact Rm.nil0 | apply Rm.skip | apply Rm.skipS | (focus (apply Take.all; (repeat (first | exact Rm.chunk | exact Rm.here | exact Rm.nil0 | apply Rm.skip | apply Rm.skipS)); done)) | apply Take.cons)) ?_
  rintro v J L1 hJ ⟨rfl, rfl, rfl⟩
  clear hJ; try simp only [List.cons_append, List.nil_append, List.append_assoc]
  have hx : SlRd (fun b o => Ja.blk b = some o) (.slice none 0 0) ([] : List UInt8).length 1 (bytesV []) := ⟨none, 0, rfl, Nat.le_refl _, rfl, .inl rfl⟩
  refine WP.val rfl rfl rfl rfl (Yld.move rfl rfl) ?_
  refine WP.val rfl rfl rfl rfl (Yld.extract rfl rfl rfl) ?_
  refine WP.val rfl rfl rfl rfl (Yld.extract rfl rfl rfl) ?_
  refine WP.val rfl rfl rfl rfl (Yld.assign rfl rfl) ?_
  refine WP.val rfl rfl rfl rfl (Yld.assign rfl rfl) ?_
  refine WP.nil ?_
  refine WP.sub [(0, _), (1, _), (2, _), (4, _), (5, _), (6, _), (7, _)] ?_ ⟨rfl, rfl, rfl, rfl, rfl, rfl, rfl, trivial⟩
  refine WP.next ?_
  refine WP.seq ?_
  refine WP.region [0, 1, 2, 3, 4, 5, 6] rfl ?_
  refine WP.val rfl rfl rfl rfl (Yld.loadAll rfl ty_ag_23 rfl (by repeat (first | exact There.h | exact There.i (by assumption) | apply There.t | apply There.s)) rfl) ?_
  refine WP.loud rfl rfl ?_
  refine Op.call (ref_Encode_bad (s := s) hm) rfl Try.func10 rfl rfl rfl rfl (by repeat (first | exact Take.nil | with_reducible apply Take.cons | apply Take.app | exact Rm.chunk | exact Rm.here | exact Rm.nil0 | apply Rm.skip | apply Rm.skipS | (focus (apply Take.all; (repeat (first | exact Rm.chunk | exact Rm.here | exact Rm.nil0 | apply Rm.skip | apply Rm.skipS)); done)) | apply Take.cons)) ?_
  rintro v J L1 hJ ⟨rfl, rfl, rfl⟩
  clear hJ; try simp only [List.cons_append, List.nil_append, List.append_assoc]
  refine WP.val rfl rfl rfl rfl (Yld.move rfl rfl) ?_
  refine WP.val rfl rfl rfl rfl (Yld.extract rfl rfl rfl) ?_
  refine WP.val rfl rfl rfl rfl (Yld.extract rfl rfl rfl) ?_
  refine WP.val rfl rfl rfl rfl (Yld.assign rfl rfl) ?_
  refine WP.val rfl rfl rfl rfl (Yld.assign rfl rfl) ?_
  refine WP.nil ?_
  refine WP.sub [(0, _), (1, _), (2, _), (4, _), (5, _), (6, _), (7, _), (8, _), (9, _)] ?_ ⟨rfl, rfl, rfl, rfl, rfl, rfl, rfl, rfl, rfl, trivial⟩
  refine WP.next ?_
  refine WP.seq ?_
  refine WP.region [0, 1, 2] rfl ?_
  refine WP.val rfl rfl rfl rfl (Yld.move rfl rfl) ?_
  refine WP.loud rfl rfl ?_
  refine Op.append rfl ty_sl_24 ty_el_24 rfl rfl rfl rfl rfl .none0 (hb.mono (fun b o h => There.i h)) (by repeat (first | exact Take.nil | with_reducible apply Take.cons | apply Take.app | exact Rm.chunk | exact Rm.here | exact Rm.nil0 | apply Rm.skip | apply Rm.skipS | (focus (apply Take.all; (repeat (first | exact Rm.chunk | exact Rm.here | exact Rm.nil0 | apply Rm.skip | apply Rm.skipS)); done)) | apply Take.cons)) (bytesV_one _) (by omega) (by omega) (fun vp Lp hp => ?_)
  rw [List.nil_append, Nat.zero_add] at hp
  try simp only [List.cons_append, List.nil_append, List.append_assoc]
  refine WP.val rfl rfl rfl rfl (Yld.assign rfl rfl) ?_
  refine WP.nil ?_
  refine WP.sub [(0, _), (1, _), (2, _), (4, _), (5, _), (6, _), (7, _), (8, _), (9, _), (10, _)] ?_ ⟨rfl, rfl, rfl, rfl, rfl, rfl, rfl, rfl, rfl, rfl, trivial⟩
  refine WP.shareOwn hp (by repeat (first | exact Take.nil | with_reducible apply Take.cons | apply Take.app | exact Rm.chunk | exact Rm.here | exact Rm.nil0 | apply Rm.skip | apply Rm.skipS | (focus (apply Take.all; (repeat (first | exact Rm.chunk | exact Rm.here | exact Rm.nil0 | apply Rm.skip | apply Rm.skipS)); done)) | apply Take.cons)) (fun J4 hJ4 hq => ?_)
  have hb := hb.mono (fun b o h => hJ4.2 b o h)
  have hx := hx.mono (fun b o h => hJ4.2 b o h)
  refine WP.next ?_
  refine WP.seq ?_
  refine WP.region [0, 1, 2, 3, 4, 5, 6, 7] rfl ?_
  refine WP.val rfl rfl rfl rfl (Yld.move rfl rfl) ?_
  refine WP.loud rfl rfl ?_
  refine Op.call (super_Decode hq (by omega)) rfl Try.func11 rfl rfl rfl rfl (by repeat (first | exact Take.nil | with_reducible apply Take.cons | apply Take.app | exact Rm.chunk | exact Rm.here | exact Rm.nil0 | apply Rm.skip | apply Rm.skipS | (focus (apply Take.all; (repeat (first | exact Rm.chunk | exact Rm.here | exact Rm.nil0 | apply Rm.skip | apply Rm.skipS)); done)) | apply Take.cons)) ?_
  rintro v J5 L1 hJ5 ⟨rfl, rfl⟩
  try simp only [List.cons_append, List.nil_append, List.append_assoc]
  have hb := hb.mono (fun b o h => hJ5.2 b o h)
  have hx := hx.mono (fun b o h => hJ5.2 b o h)
  have hq := hq.mono (fun b o h => hJ5.2 b o h)
  refine WP.val rfl rfl rfl rfl (Yld.move rfl rfl) ?_
  refine WP.val rfl rfl rfl rfl (Yld.extract rfl rfl rfl) ?_
  refine WP.val rfl rfl rfl rfl (Yld.extract rfl rfl rfl) ?_
  refine WP.loud rfl rfl ?_
  refine Op.alloc rfl rfl rfl ty_zr_23 (fun b11 => ?_)
  refine WP.loud rfl rfl ?_
  refine Op.storeAll rfl rfl ty_sz_23 rfl rfl rfl rfl (by repeat (first | exact Upd.head | apply Upd.tail | apply Upd.tailS)) rfl ?_
  refine WP.val rfl rfl rfl rfl (Yld.assign rfl rfl) ?_
  refine WP.nil ?_
  refine WP.sub [(0, _), (1, _), (2, _), (4, _), (5, _), (6, _), (7, _), (8, _), (9, _), (10, _), (11, _), (12, _)] ?_ ⟨rfl, rfl, rfl, rfl, rfl, rfl, rfl, rfl, rfl, rfl, rfl, rfl, trivial⟩
  refine WP.next ?_
  refine WP.seq ?_
  refine WP.region [0, 1, 2, 3, 4, 5, 6, 7] rfl ?_
  refine WP.val rfl rfl rfl rfl (Yld.move rfl rfl) ?_
  refine WP.loud rfl rfl ?_
  refine Op.call (ref_Decode hb (by omega)) rfl Try.func12 rfl rfl rfl rfl (by repeat (first | exact Take.nil | with_reducible apply Take.cons | apply Take.app | exact Rm.chunk | exact Rm.here | exact Rm.nil0 | apply Rm.skip | apply Rm.skipS | (focus (apply Take.all; (repeat (first | exact Rm.chunk | exact Rm.here | exact Rm.nil0 | apply Rm.skip | apply Rm.skipS)); done)) | apply Take.cons)) ?_
  rintro v J6 L1 hJ6 ⟨rfl, rfl⟩
  try simp only [List.cons_append, List.nil_append, List.append_assoc]
  have hb := hb.mono (fun b o h => hJ6.2 b o h)
  have hx := hx.mono (fun b o h => hJ6.2 b o h)
  have hq := hq.mono (fun b o h => hJ6.2 b o h)
  refine WP.val rfl rfl rfl rfl (Yld.move rfl rfl) ?_
  refine WP.val rfl rfl rfl rfl (Yld.extract rfl rfl rfl) ?_
  refine WP.val rfl rfl rfl rfl (Yld.extract rfl rfl rfl) ?_
  refine WP.loud rfl rfl ?_
  refine Op.alloc rfl rfl rfl ty_zr_23 (fun b13 => ?_)
  refine WP.loud rfl rfl ?_
  refine Op.storeAll rfl rfl ty_sz_23 rfl rfl rfl rfl (by repeat (first | exact Upd.head | apply Upd.tail | apply Upd.tailS)) rfl ?_
  refine WP.val rfl rfl rfl rfl (Yld.assign rfl rfl) ?_
  refine WP.nil ?_
  refine WP.sub [(0, _), (1, _), (2, _), (4, _), (5, _), (6, _), (7, _), (8, _), (9, _), (10, _), (11, _), (12, _), (13, _), (14, _)] ?_ ⟨rfl, rfl, rfl, rfl, rfl, rfl, rfl, rfl, rfl, rfl, rfl, rfl, rfl, rfl, trivial⟩
  refine WP.next ?_
  refine WP.seq ?_
  refine WP.region [0, 1, 2, 3, 4, 5, 6, 7] rfl ?_
  refine WP.val rfl rfl rfl rfl (Yld.move rfl rfl) ?_
  refine WP.loud rfl rfl ?_
  refine Op.call (super_Decode hx (by simp)) rfl Try.func11 rfl rfl rfl rfl (by repeat (first | exact Take.nil | with_reducible apply Take.cons | apply Take.app | exact Rm.chunk | exact Rm.here | exact Rm.nil0 | apply Rm.skip | apply Rm.skipS | (focus (apply Take.all; (repeat (first | exact Rm.chunk | exact Rm.here | exact Rm.nil0 | apply Rm.skip | apply Rm.skipS)); done)) | apply Take.cons)) ?_
  rintro v J7 L1 hJ7 ⟨rfl, rfl⟩
  try simp only [List.cons_append, List.nil_append, List.append_assoc]
  have hb := hb.mono (fun b o h => hJ7.2 b o h)
  have hx := hx.mono (fun b o h => hJ7.2 b o h)
  have hq := hq.mono (fun b o h => hJ7.2 b o h)
  refine WP.val rfl rfl rfl rfl (Yld.move rfl rfl) ?_
  refine WP.val rfl rfl rfl rfl (Yld.extract rfl rfl rfl) ?_
  refine WP.val rfl rfl rfl rfl (Yld.extract rfl rfl rfl) ?_
  refine WP.loud rfl rfl ?_
  refine Op.alloc rfl rfl rfl ty_zr_23 (fun b15 => ?_)
  refine WP.loud rfl rfl ?_
  refine Op.storeAll rfl rfl ty_sz_23 rfl rfl rfl rfl (by repeat (first | exact Upd.head | apply Upd.tail | apply Upd.tailS)) rfl ?_
  refine WP.val rfl rfl rfl rfl (Yld.assign rfl rfl) ?_
  refine WP.nil ?_
  refine WP.sub [(0, _), (1, _), (2, _), (4, _), (5, _), (6, _), (7, _), (8, _), (9, _), (10, _), (11, _), (12, _), (13, _), (14, _), (15, _), (16, _)] ?_ ⟨rfl, rfl, rfl, rfl, rfl, rfl, rfl, rfl, rfl, rfl, rfl, rfl, rfl, rfl, rfl, rfl, trivial⟩
  refine WP.next ?_
  refine WP.seq ?_
  refine WP.seq ?_
  refine WP.region [0, 1, 2, 3, 4, 5, 6, 7, 8, 9, 10] rfl ?_
  refine WP.val rfl rfl rfl rfl (Yld.move rfl rfl) ?_
  refine WP.val rfl rfl rfl rfl (Yld.eql rfl rfl rfl false (decide_eq_false (by omega))) ?_
  refine WP.val rfl rfl rfl rfl (Yld.move rfl rfl) ?_
  refine WP.passG rfl rfl rfl rfl rfl rfl rfl rfl ?_
  refine WP.passG rfl rfl rfl rfl rfl rfl rfl rfl ?_
  refine WP.passG rfl rfl rfl rfl rfl rfl rfl rfl ?_
  refine WP.passG rfl rfl rfl rfl rfl rfl rfl rfl ?_
  refine WP.passG rfl rfl rfl rfl rfl rfl rfl rfl ?_
  refine WP.passG rfl rfl rfl rfl rfl rfl rfl rfl ?_
  refine WP.passG rfl rfl rfl rfl rfl rfl rfl rfl ?_
  refine WP.val rfl rfl rfl rfl (Yld.pickF rfl rfl rfl) ?_
  refine WP.nil ?_
  refine WP.sub [(0, _), (1, _), (2, _), (4, _), (5, _), (6, _), (7, _), (8, _), (9, _), (10, _), (11, _), (12, _), (13, _), (14, _), (15, _), (16, _), (55, _)] ?_ ⟨rfl, rfl, rfl, rfl, rfl, rfl, rfl, rfl, rfl, rfl, rfl, rfl, rfl, rfl, rfl, rfl, rfl, trivial⟩
  refine WP.next ?_
  refine WP.condF rfl ?_
  refine WP.skip ?_
  refine WP.next ?_
  refine WP.seq ?_
  refine WP.region [0, 1, 2, 3, 4, 5, 6, 7, 8, 9, 10, 11, 12, 13, 14, 15, 16, 17, 18, 19, 20, 21, 22, 23, 24, 25, 26, 27, 28, 29, 30] rfl ?_
  refine WP.val rfl rfl rfl rfl (Yld.move rfl rfl) ?_
  refine WP.val rfl rfl rfl rfl (Yld.move rfl rfl) ?_
  refine WP.valG rfl rfl rfl rfl rfl rfl rfl (Yld.move rfl rfl) ?_
  refine WP.valG rfl rfl rfl rfl rfl rfl rfl (Yld.str (e := 5) rfl (by kernel_rfl) (by kernel_rfl) (by kernel_rfl) rfl (hx.mono (fun b o h => .inr h))) ?_
  refine WP.valG rfl rfl rfl rfl rfl rfl rfl (Yld.move rfl rfl) ?_
  refine WP.valG rfl rfl rfl rfl rfl rfl rfl (Yld.str (e := 5) rfl (by kernel_rfl) (by kernel_rfl) (by kernel_rfl) rfl (hx.mono (fun b o h => .inr h))) ?_
  refine WP.valG rfl rfl rfl rfl rfl rfl rfl (Yld.eqlStr rfl rfl rfl true (by simp)) ?_
  refine WP.val rfl rfl rfl rfl (Yld.pickT rfl rfl rfl) ?_
  refine WP.val rfl rfl rfl rfl (Yld.move rfl rfl) ?_
  refine WP.valG rfl rfl rfl rfl rfl rfl rfl (Yld.move rfl rfl) ?_
  refine WP.valG rfl rfl rfl rfl rfl rfl rfl (Yld.move rfl rfl) ?_
  refine WP.valG rfl rfl rfl rfl rfl rfl rfl (Yld.eql rfl rfl rfl true (decide_eq_true (by omega))) ?_
  refine WP.val rfl rfl rfl rfl (Yld.pickT rfl rfl rfl) ?_
  refine WP.val rfl rfl rfl rfl (Yld.move rfl rfl) ?_
  refine WP.valG rfl rfl rfl rfl rfl rfl rfl (Yld.loadAll rfl ty_ag_23 rfl (by repeat (first | exact There.h | exact There.i (by assumption) | apply There.t | apply There.s)) rfl) ?_
  refine WP.valG rfl rfl rfl rfl rfl rfl rfl (Yld.loadAll rfl ty_ag_23 rfl (by repeat (first | exact There.h | exact There.i (by assumption) | apply There.t | apply There.s)) rfl) ?_
  refine WP.valG rfl rfl rfl rfl rfl rfl rfl (Yld.eqlInts (m := 5) (us := ((decS bs).getD spZ).ints) (vs := ((decS bs).getD spZ).ints) rfl (by kernel_rfl) rfl rfl rfl rfl true (by simp)) ?_
  refine WP.val rfl rfl rfl rfl (Yld.pickT rfl rfl rfl) ?_
  refine WP.val rfl rfl rfl rfl (Yld.move rfl rfl) ?_
  refine WP.valG rfl rfl rfl rfl rfl rfl rfl (Yld.move rfl rfl) ?_
  refine WP.valG rfl rfl rfl rfl rfl rfl rfl (Yld.move rfl rfl) ?_
  refine WP.valG rfl rfl rfl rfl rfl rfl rfl (Yld.eql rfl rfl rfl true (decide_eq_true (by rfl))) ?_
  refine WP.val rfl rfl rfl rfl (Yld.pickT rfl rfl rfl) ?_
  refine WP.val rfl rfl rfl rfl (Yld.move rfl rfl) ?_
  refine WP.valG rfl rfl rfl rfl rfl rfl rfl (Yld.move rfl rfl) ?_
  refine WP.valG rfl rfl rfl rfl rfl rfl rfl (Yld.str (e := 5) rfl (by kernel_rfl) (by kernel_rfl) (by kernel_rfl) rfl (hq.mono (fun b o h => .inr h))) ?_
  refine WP.valG rfl rfl rfl rfl rfl rfl rfl (Yld.move rfl rfl) ?_
  refine WP.valG rfl rfl rfl rfl rfl rfl rfl (Yld.str (e := 5) rfl (by kernel_rfl) (by kernel_rfl) (by kernel_rfl) rfl (hb.mono (fun b o h => .inr h))) ?_
  refine WP.valG rfl rfl rfl rfl rfl rfl rfl (Yld.eqlStr rfl rfl rfl true (by simp)) ?_
  refine WP.val rfl rfl rfl rfl (Yld.pickT rfl rfl rfl) ?_
  refine WP.val rfl rfl rfl rfl (Yld.assign rfl rfl) ?_
  refine WP.nil ?_
  refine WP.sub [(0, _), (1, _), (2, _), (4, _), (5, _), (6, _), (7, _), (8, _), (9, _), (10, _), (11, _), (12, _), (13, _), (14, _), (15, _), (16, _), (55, _)] ?_ ⟨rfl, rfl, rfl, rfl, rfl, rfl, rfl, rfl, rfl, rfl, rfl, rfl, rfl, rfl, rfl, rfl, rfl, trivial⟩
  refine WP.next ?_
  refine WP.ret ?_
  refine WP.fin .ret (.inr rfl) (res1 rfl rfl) [] (by repeat (first | exact Take.nil | with_reducible apply Take.cons | apply Take.app | exact Rm.chunk | exact Rm.here | exact Rm.nil0 | apply Rm.skip | apply Rm.skipS | (focus (apply Take.all; (repeat (first | exact Rm.chunk | exact Rm.here | exact Rm.nil0 | apply Rm.skip | apply Rm.skipS)); done)) | apply Take.cons)) (by repeat (first | exact Leave.done | apply Leave.drop | apply Leave.dropS)) (Imm.le_trans hJa (Imm.le_trans hJ4 (Imm.le_trans hJ5 (Imm.le_trans hJ6 hJ7)))) ?_
  exact ⟨rfl, rfl⟩


theorem super_Forms {I : Imm} {bs : List UInt8} {vb : Value} {s : Sp} (hb : SlRd (fun b o => I.blk b = some o) vb bs.length 1 (bytesV bs)) (hbl : bs.length ≤ 140737488351232) : Spec Try.prog 3 [.agg (spV s).toArray, vb] I [] (fun v J L => v = .bool true ∧ L = []) := by
  by_cases hm : s.may
  · exact super_Forms_ok hb hbl hm
  · exact super_Forms_bad hb hbl hm

end Go.Hp
