import Derived.Test.YtelkknmnnmmoaaaSupH
set_option linter.unusedVariables false
set_option linter.unusedSimpArgs false
namespace Go.Hp
open Go Go.Proofs

def s1 : Sp := ⟨1, 9, 1, 1, 3⟩
theorem s1_may : s1.may := ⟨by decide, by decide, by decide, by decide, by decide⟩
theorem aw16a : (Dk.new 8).write 8 (s1.no % 2 * 4) (enc s1) = ((Dk.new 8).write1 4 (enc s1), 0) :=
  write_one (at_ := 4) rfl (by decide) (by decide) (by decide) (enc_len _)
theorem aw16b : supR ((Dk.new 8).write1 4 (enc s1)) 8 = (s1, 0) := by
  have ok := Dk.new_ok (n := 8) (by decide) (by decide)
  have e4 : sec ((Dk.new 8).write1 4 (enc s1)).now 4 = enc s1 := sec_same (enc_len _) (by rw [ok.ln]; decide)
  have e0 : sec ((Dk.new 8).write1 4 (enc s1)).now 0 = List.replicate 64 0 := (sec_ne (m := 64) (enc_len _) (Nat.le_refl _) (by rw [ok.ln]; decide) (by decide)).trans (new_sec 8 0 (by decide))
  rw [supR8 rfl (by decide), e0, e4]
  unfold sup8
  rw [zero_dec, dec_enc s1_may]
  have : upS (upS spZ none) (some s1) = s1 := rfl
  rw [this, if_neg (fun h => absurd h.1 (by decide))]
theorem super_awake {I : Imm} : Spec Try.prog 8 [] I [] (fun v J L => v = .bool true ∧ L = []) := by
  refine Spec.of Try.func8 rfl Try.ntmps8 (Nat.le_of_ble_eq_true rfl) (fun F => ?_)
  try simp only [List.cons_append, List.nil_append, List.append_assoc]
  dsimp only [argsEnv]
  refine WP.seq ?_
  refine WP.region [0] rfl ?_
  refine WP.val rfl rfl rfl rfl (Yld.assign rfl rfl) ?_
  refine WP.nil ?_
  refine WP.next ?_
  refine WP.seq ?_
  refine WP.region [0, 1, 2, 3, 4, 5] rfl ?_
  refine WP.loud rfl rfl ?_
  refine Op.call (disk_New (n := 8) (by decide) (by decide)) rfl Try.func13 rfl rfl rfl rfl (by repeat (first | exact Take.nil | with_reducible apply Take.cons | apply Take.app | exact Rm.chunk | exact Rm.here | exact Rm.nil0 | apply Rm.skip | apply Rm.skipS | (focus (apply Take.all; (repeat (first | exact Rm.chunk | exact Rm.here | exact Rm.nil0 | apply Rm.skip | apply Rm.skipS)); done)) | apply Take.cons)) ?_
  rintro v J Ld hJ ⟨rfl, d, rfl, hd⟩
  clear hJ; try simp only [List.cons_append, List.nil_append, List.append_assoc]
  refine WP.val rfl rfl rfl rfl (Yld.move rfl rfl) ?_
  refine WP.val rfl rfl rfl rfl (Yld.extract rfl rfl rfl) ?_
  refine WP.val rfl rfl rfl rfl (Yld.extract rfl rfl rfl) ?_
  refine WP.val rfl rfl rfl rfl (Yld.assign rfl rfl) ?_
  refine WP.val rfl rfl rfl rfl (Yld.assign rfl rfl) ?_
  refine WP.nil ?_
  refine WP.sub [(0, _), (1, _), (2, _)] ?_ ⟨rfl, rfl, rfl, trivial⟩
  refine WP.next ?_
  refine WP.seq ?_
  refine WP.seq ?_
  refine WP.region [0, 1, 2, 3, 4, 5] rfl ?_
  refine WP.val rfl rfl rfl rfl (Yld.move rfl rfl) ?_
  refine WP.val rfl rfl rfl rfl (Yld.eqlNil rfl ty_pt_32 rfl rfl) ?_
  refine WP.val rfl rfl rfl rfl (Yld.move rfl rfl) ?_
  refine WP.valG rfl rfl rfl rfl rfl rfl rfl (Yld.move rfl rfl) ?_
  refine WP.valG rfl rfl rfl rfl rfl rfl rfl (Yld.neq rfl rfl rfl false (decide_eq_false (by omega))) ?_
  refine WP.val rfl rfl rfl rfl (Yld.pickF rfl rfl rfl) ?_
  refine WP.nil ?_
  refine WP.sub [(0, _), (1, _), (2, _), (18, _)] ?_ ⟨rfl, rfl, rfl, rfl, trivial⟩
  refine WP.next ?_
  refine WP.condF rfl ?_
  refine WP.skip ?_
  refine WP.next ?_
  refine WP.seq ?_
  refine WP.region [0, 1, 2, 3, 4, 5, 6, 7] rfl ?_
  refine WP.val rfl rfl rfl rfl (Yld.move rfl rfl) ?_
  refine WP.loud rfl rfl ?_
  refine Op.call (super_Read hd) rfl Try.func18 rfl rfl rfl rfl (by repeat (first | exact Take.nil | with_reducible apply Take.cons | apply Take.app | exact Rm.chunk | exact Rm.here | exact Rm.nil0 | apply Rm.skip | apply Rm.skipS | (focus (apply Take.all; (repeat (first | exact Rm.chunk | exact Rm.here | exact Rm.nil0 | apply Rm.skip | apply Rm.skipS)); done)) | apply Take.cons)) ?_
  rintro v J1 Ld hJ1 ⟨rfl, rfl⟩
  try simp only [List.cons_append, List.nil_append, List.append_assoc]
  rw [supR_new (by decide)]
  refine WP.val rfl rfl rfl rfl (Yld.move rfl rfl) ?_
  refine WP.val rfl rfl rfl rfl (Yld.extract rfl rfl rfl) ?_
  refine WP.val rfl rfl rfl rfl (Yld.extract rfl rfl rfl) ?_
  refine WP.loud rfl rfl ?_
  refine Op.alloc rfl rfl rfl ty_zr_23 (fun b3 => ?_)
  refine WP.loud rfl rfl ?_
  refine Op.storeAll rfl rfl ty_sz_23 rfl rfl rfl rfl (by repeat (first | exact Upd.head | apply Upd.tail | apply Upd.tailS)) rfl ?_
  refine WP.val rfl rfl rfl rfl (Yld.assign rfl rfl) ?_
  refine WP.nil ?_
  refine WP.sub [(0, _), (1, _), (2, _), (3, _), (4, _), (18, _)] ?_ ⟨rfl, rfl, rfl, rfl, rfl, rfl, trivial⟩
  refine WP.next ?_
  refine WP.seq ?_
  refine WP.region [0, 1, 2] rfl ?_
  refine WP.val rfl rfl rfl rfl (Yld.buildS (pl := [(0, 0, 1), (1, 1, 1), (2, 2, 1), (3, 3, 1), (4, 4, 1)]) rfl ty_zr_23 ty_zd_23 (by kernel_rfl) rfl (vs := [_, _, _, _, _]) rfl (segs := [(0, [_]), (1, [_]), (2, [_]), (3, [_]), (4, [_])]) rfl rfl (by repeat (first | exact SetSeg.nil | apply SetSeg.one | exact SetAt.zero | apply SetAt.succ))) ?_
  refine WP.loud rfl rfl ?_
  refine Op.alloc rfl rfl rfl ty_zr_23 (fun b5 => ?_)
  refine WP.loud rfl rfl ?_
  refine Op.storeAll rfl rfl ty_sz_23 rfl rfl rfl rfl (by repeat (first | exact Upd.head | apply Upd.tail | apply Upd.tailS)) rfl ?_
  refine WP.nil ?_
  refine WP.sub [(0, _), (1, _), (2, _), (3, _), (4, _), (5, _), (18, _)] ?_ ⟨rfl, rfl, rfl, rfl, rfl, rfl, rfl, trivial⟩
  refine WP.next ?_
  refine WP.seq ?_
  refine WP.region [0, 1, 2, 3] rfl ?_
  refine WP.val rfl rfl rfl rfl (Yld.move rfl rfl) ?_
  refine WP.val rfl rfl rfl rfl (Yld.loadAll rfl ty_ag_23 rfl (by repeat (first | exact There.h | exact There.i (by assumption) | apply There.t | apply There.s)) rfl) ?_
  refine WP.loud rfl rfl ?_
  refine Op.call (super_Write_ok (s := s1) hd s1_may (by decide)) rfl Try.func17 rfl rfl rfl rfl (by repeat (first | exact Take.nil | with_reducible apply Take.cons | apply Take.app | exact Rm.chunk | exact Rm.here | exact Rm.nil0 | apply Rm.skip | apply Rm.skipS | (focus (apply Take.all; (repeat (first | exact Rm.chunk | exact Rm.here | exact Rm.nil0 | apply Rm.skip | apply Rm.skipS)); done)) | apply Take.cons)) ?_
  rintro v J2 Le hJ2 ⟨rfl, hd2⟩
  try simp only [List.cons_append, List.nil_append, List.append_assoc]
  rw [aw16a] at hd2 ⊢
  refine WP.val rfl rfl rfl rfl (Yld.assign rfl rfl) ?_
  refine WP.nil ?_
  refine WP.sub [(0, _), (1, _), (2, _), (3, _), (4, _), (5, _), (6, _), (18, _)] ?_ ⟨rfl, rfl, rfl, rfl, rfl, rfl, rfl, rfl, trivial⟩
  refine WP.next ?_
  refine WP.seq ?_
  refine WP.region [0, 1, 2, 3, 4, 5, 6, 7] rfl ?_
  refine WP.val rfl rfl rfl rfl (Yld.move rfl rfl) ?_
  refine WP.loud rfl rfl ?_
  refine Op.call (super_Read hd2) rfl Try.func18 rfl rfl rfl rfl (by repeat (first | exact Take.nil | with_reducible apply Take.cons | apply Take.app | exact Rm.chunk | exact Rm.here | exact Rm.nil0 | apply Rm.skip | apply Rm.skipS | (focus (apply Take.all; (repeat (first | exact Rm.chunk | exact Rm.here | exact Rm.nil0 | apply Rm.skip | apply Rm.skipS)); done)) | apply Take.cons)) ?_
  rintro v J3 Le hJ3 ⟨rfl, rfl⟩
  try simp only [List.cons_append, List.nil_append, List.append_assoc]
  rw [aw16b]
  refine WP.val rfl rfl rfl rfl (Yld.move rfl rfl) ?_
  refine WP.val rfl rfl rfl rfl (Yld.extract rfl rfl rfl) ?_
  refine WP.val rfl rfl rfl rfl (Yld.extract rfl rfl rfl) ?_
  refine WP.loud rfl rfl ?_
  refine Op.alloc rfl rfl rfl ty_zr_23 (fun b7 => ?_)
  refine WP.loud rfl rfl ?_
  refine Op.storeAll rfl rfl ty_sz_23 rfl rfl rfl rfl (by repeat (first | exact Upd.head | apply Upd.tail | apply Upd.tailS)) rfl ?_
  refine WP.val rfl rfl rfl rfl (Yld.assign rfl rfl) ?_
  refine WP.nil ?_
  refine WP.sub [(0, _), (1, _), (2, _), (3, _), (4, _), (5, _), (6, _), (7, _), (8, _), (18, _)] ?_ ⟨rfl, rfl, rfl, rfl, rfl, rfl, rfl, rfl, rfl, rfl, trivial⟩
  refine WP.next ?_
  refine WP.seq ?_
  refine WP.region [0, 1, 2, 3, 4, 5, 6, 7, 8, 9, 10, 11, 12, 13, 14, 15, 16, 17, 18, 19, 20, 21, 22, 23, 24, 25, 26] rfl ?_
  refine WP.val rfl rfl rfl rfl (Yld.move rfl rfl) ?_
  refine WP.val rfl rfl rfl rfl (Yld.eql rfl rfl rfl true (decide_eq_true (by omega))) ?_
  refine WP.val rfl rfl rfl rfl (Yld.move rfl rfl) ?_
  refine WP.valG rfl rfl rfl rfl rfl rfl rfl (Yld.loadAll rfl ty_ag_23 rfl (by repeat (first | exact There.h | exact There.i (by assumption) | apply There.t | apply There.s)) rfl) ?_
  refine WP.valG rfl rfl rfl rfl rfl rfl rfl (Yld.buildS (pl := []) rfl ty_zr_23 ty_zd_23 (by kernel_rfl) rfl (vs := []) rfl (segs := []) rfl rfl (by repeat (first | exact SetSeg.nil | apply SetSeg.one | exact SetAt.zero | apply SetAt.succ))) ?_
  refine WP.valG rfl rfl rfl rfl rfl rfl rfl (Yld.eqlInts (m := 5) (us := spZ.ints) (vs := spZ.ints) rfl (by kernel_rfl) rfl rfl rfl rfl true (by decide)) ?_
  refine WP.val rfl rfl rfl rfl (Yld.pickT rfl rfl rfl) ?_
  refine WP.val rfl rfl rfl rfl (Yld.move rfl rfl) ?_
  refine WP.valG rfl rfl rfl rfl rfl rfl rfl (Yld.move rfl rfl) ?_
  refine WP.valG rfl rfl rfl rfl rfl rfl rfl (Yld.eql rfl rfl rfl true (decide_eq_true (by omega))) ?_
  refine WP.val rfl rfl rfl rfl (Yld.pickT rfl rfl rfl) ?_
  refine WP.val rfl rfl rfl rfl (Yld.move rfl rfl) ?_
  refine WP.valG rfl rfl rfl rfl rfl rfl rfl (Yld.move rfl rfl) ?_
  refine WP.valG rfl rfl rfl rfl rfl rfl rfl (Yld.eql rfl rfl rfl true (decide_eq_true (by omega))) ?_
  refine WP.val rfl rfl rfl rfl (Yld.pickT rfl rfl rfl) ?_
  refine WP.val rfl rfl rfl rfl (Yld.move rfl rfl) ?_
  refine WP.valG rfl rfl rfl rfl rfl rfl rfl (Yld.loadAll rfl ty_ag_23 rfl (by repeat (first | exact There.h | exact There.i (by assumption) | apply There.t | apply There.s)) rfl) ?_
  refine WP.valG rfl rfl rfl rfl rfl rfl rfl (Yld.loadAll rfl ty_ag_23 rfl (by repeat (first | exact There.h | exact There.i (by assumption) | apply There.t | apply There.s)) rfl) ?_
  refine WP.valG rfl rfl rfl rfl rfl rfl rfl (Yld.eqlInts (m := 5) (us := s1.ints) (vs := s1.ints) rfl (by kernel_rfl) rfl rfl rfl rfl true (by decide)) ?_
  refine WP.val rfl rfl rfl rfl (Yld.pickT rfl rfl rfl) ?_
  refine WP.val rfl rfl rfl rfl (Yld.move rfl rfl) ?_
  refine WP.valG rfl rfl rfl rfl rfl rfl rfl (Yld.move rfl rfl) ?_
  refine WP.valG rfl rfl rfl rfl rfl rfl rfl (Yld.buildS (pl := []) rfl ty_zr_23 ty_zd_23 (by kernel_rfl) rfl (vs := []) rfl (segs := []) rfl rfl (by repeat (first | exact SetSeg.nil | apply SetSeg.one | exact SetAt.zero | apply SetAt.succ))) ?_
  refine WP.loudG rfl rfl rfl rfl rfl ?_
  refine Op.call (super_Write_bad (s := spZ) hd2 (by decide)) rfl Try.func17 rfl rfl rfl rfl (by repeat (first | exact Take.nil | with_reducible apply Take.cons | apply Take.app | exact Rm.chunk | exact Rm.here | exact Rm.nil0 | apply Rm.skip | apply Rm.skipS | (focus (apply Take.all; (repeat (first | exact Rm.chunk | exact Rm.here | exact Rm.nil0 | apply Rm.skip | apply Rm.skipS)); done)) | apply Take.cons)) ?_
  rintro v J4 Le hJ ⟨rfl, rfl, rfl⟩
  clear hJ; try simp only [List.cons_append, List.nil_append, List.append_assoc]
  refine WP.valG rfl rfl rfl rfl rfl rfl rfl (Yld.eql rfl rfl rfl true (decide_eq_true (by omega))) ?_
  refine WP.val rfl rfl rfl rfl (Yld.pickT rfl rfl rfl) ?_
  refine WP.val rfl rfl rfl rfl (Yld.assign rfl rfl) ?_
  refine WP.nil ?_
  refine WP.sub [(0, _), (1, _), (2, _), (3, _), (4, _), (5, _), (6, _), (7, _), (8, _), (18, _)] ?_ ⟨rfl, rfl, rfl, rfl, rfl, rfl, rfl, rfl, rfl, rfl, trivial⟩
  refine WP.next ?_
  refine WP.ret ?_
  refine WP.fin .ret (.inr rfl) (res1 rfl rfl) [] (by repeat (first | exact Take.nil | with_reducible apply Take.cons | apply Take.app | exact Rm.chunk | exact Rm.here | exact Rm.nil0 | apply Rm.skip | apply Rm.skipS | (focus (apply Take.all; (repeat (first | exact Rm.chunk | exact Rm.here | exact Rm.nil0 | apply Rm.skip | apply Rm.skipS)); done)) | apply Take.cons)) (by repeat (first | exact Leave.done | apply Leave.drop | apply Leave.dropS)) (Imm.le_trans hJ1 (Imm.le_trans hJ2 hJ3)) ?_
  exact ⟨rfl, rfl⟩

theorem ref16_May {I : Imm} {s : Sp} : Spec Try.prog 14 [.agg (spV s).toArray] I [] (fun v J L => ∃ b, v = .bool b ∧ (b = true ↔ s.may) ∧ I = J ∧ L = []) := by
  refine Spec.of Try.func14 rfl Try.ntmps14 (Nat.le_of_ble_eq_true rfl) (fun F => ?_)
  try simp only [List.cons_append, List.nil_append, List.append_assoc]
  dsimp only [argsEnv]
  refine WP.seq ?_
  refine WP.region [0, 1] rfl ?_
  refine WP.loud rfl rfl ?_
  refine Op.box rfl rfl rfl rfl rfl (fun b1 => ?_)
  refine WP.val rfl rfl rfl rfl (Yld.assign rfl rfl) ?_
  refine WP.nil ?_
  refine WP.next ?_
  refine WP.seq ?_
  refine WP.seq ?_
  refine WP.region [0, 1, 2, 3, 4, 5, 6, 7, 8, 9, 10, 11, 12, 13, 14, 15, 16, 17] rfl ?_
  refine WP.val rfl rfl rfl rfl (Yld.fieldAddr rfl ty_fd_23_0 rfl) ?_
  refine WP.val rfl rfl rfl rfl (Yld.load rfl ty_sc_3 rfl (by repeat (first | exact There.h | exact There.i (by assumption) | apply There.t | apply There.s)) rfl) ?_
  refine WP.split rfl rfl rfl rfl (Yld.lss rfl rfl rfl) (fun c1_2 => ?_) (fun c1_2 => ?_)
  · refine WP.val rfl rfl rfl rfl (Yld.move rfl rfl) ?_
    refine WP.passG rfl rfl rfl rfl rfl rfl rfl rfl ?_
    refine WP.passG rfl rfl rfl rfl rfl rfl rfl rfl ?_
    refine WP.passG rfl rfl rfl rfl rfl rfl rfl rfl ?_
    refine WP.val rfl rfl rfl rfl (Yld.pickT rfl rfl rfl) ?_
    refine WP.val rfl rfl rfl rfl (Yld.move rfl rfl) ?_
    refine WP.passG rfl rfl rfl rfl rfl rfl rfl rfl ?_
    refine WP.passG rfl rfl rfl rfl rfl rfl rfl rfl ?_
    refine WP.passG rfl rfl rfl rfl rfl rfl rfl rfl ?_
    refine WP.val rfl rfl rfl rfl (Yld.pickT rfl rfl rfl) ?_
    refine WP.val rfl rfl rfl rfl (Yld.move rfl rfl) ?_
    refine WP.passG rfl rfl rfl rfl rfl rfl rfl rfl ?_
    refine WP.passG rfl rfl rfl rfl rfl rfl rfl rfl ?_
    refine WP.passG rfl rfl rfl rfl rfl rfl rfl rfl ?_
    refine WP.val rfl rfl rfl rfl (Yld.pickT rfl rfl rfl) ?_
    refine WP.nil ?_
    refine WP.sub [(0, _), (1, _), (2, _), (20, _)] ?_ ⟨rfl, rfl, rfl, rfl, trivial⟩
    refine WP.next ?_
    refine WP.condT rfl ?_
    refine WP.seq ?_
    refine WP.region [0] rfl ?_
    refine WP.val rfl rfl rfl rfl (Yld.assign rfl rfl) ?_
    refine WP.nil ?_
    refine WP.next ?_
    refine WP.ret ?_
    refine WP.fin .ret (.inr rfl) (res1 rfl rfl) [] (by repeat (first | exact Take.nil | with_reducible apply Take.cons | apply Take.app | exact Rm.chunk | exact Rm.here | exact Rm.nil0 | apply Rm.skip | apply Rm.skipS | (focus (apply Take.all; (repeat (first | exact Rm.chunk | exact Rm.here | exact Rm.nil0 | apply Rm.skip | apply Rm.skipS)); done)) | apply Take.cons)) (by repeat (first | exact Leave.done | apply Leave.drop | apply Leave.dropS)) (Imm.le_refl _) ?_
    exact ⟨_, rfl, ⟨fun h => Bool.noConfusion h, fun h => (by obtain ⟨q1, q2, q3, q4, q5⟩ := h; omega)⟩, rfl, rfl⟩
  · refine WP.val rfl rfl rfl rfl (Yld.move rfl rfl) ?_
    refine WP.valG rfl rfl rfl rfl rfl rfl rfl (Yld.fieldAddr rfl ty_fd_23_0 rfl) ?_
    refine WP.valG rfl rfl rfl rfl rfl rfl rfl (Yld.load rfl ty_sc_3 rfl (by repeat (first | exact There.h | exact There.i (by assumption) | apply There.t | apply There.s)) rfl) ?_
    refine WP.splitG rfl rfl rfl rfl rfl rfl rfl (Yld.gtr rfl rfl rfl) (fun c1_6 => ?_) (fun c1_6 => ?_)
    · refine WP.val rfl rfl rfl rfl (Yld.pickF rfl rfl rfl) ?_
      refine WP.val rfl rfl rfl rfl (Yld.move rfl rfl) ?_
      refine WP.passG rfl rfl rfl rfl rfl rfl rfl rfl ?_
      refine WP.passG rfl rfl rfl rfl rfl rfl rfl rfl ?_
      refine WP.passG rfl rfl rfl rfl rfl rfl rfl rfl ?_
      refine WP.val rfl rfl rfl rfl (Yld.pickT rfl rfl rfl) ?_
      refine WP.val rfl rfl rfl rfl (Yld.move rfl rfl) ?_
      refine WP.passG rfl rfl rfl rfl rfl rfl rfl rfl ?_
      refine WP.passG rfl rfl rfl rfl rfl rfl rfl rfl ?_
      refine WP.passG rfl rfl rfl rfl rfl rfl rfl rfl ?_
      refine WP.val rfl rfl rfl rfl (Yld.pickT rfl rfl rfl) ?_
      refine WP.nil ?_
      refine WP.sub [(0, _), (1, _), (2, _), (20, _)] ?_ ⟨rfl, rfl, rfl, rfl, trivial⟩
      refine WP.next ?_
      refine WP.condT rfl ?_
      refine WP.seq ?_
      refine WP.region [0] rfl ?_
      refine WP.val rfl rfl rfl rfl (Yld.assign rfl rfl) ?_
      refine WP.nil ?_
      refine WP.next ?_
      refine WP.ret ?_
      refine WP.fin .ret (.inr rfl) (res1 rfl rfl) [] (by repeat (first | exact Take.nil | with_reducible apply Take.cons | apply Take.app | exact Rm.chunk | exact Rm.here | exact Rm.nil0 | apply Rm.skip | apply Rm.skipS | (focus (apply Take.all; (repeat (first | exact Rm.chunk | exact Rm.here | exact Rm.nil0 | apply Rm.skip | apply Rm.skipS)); done)) | apply Take.cons)) (by repeat (first | exact Leave.done | apply Leave.drop | apply Leave.dropS)) (Imm.le_refl _) ?_
      exact ⟨_, rfl, ⟨fun h => Bool.noConfusion h, fun h => (by obtain ⟨q1, q2, q3, q4, q5⟩ := h; omega)⟩, rfl, rfl⟩
    · refine WP.val rfl rfl rfl rfl (Yld.pickF rfl rfl rfl) ?_
      refine WP.val rfl rfl rfl rfl (Yld.move rfl rfl) ?_
      refine WP.valG rfl rfl rfl rfl rfl rfl rfl (Yld.fieldAddr rfl ty_fd_23_3 rfl) ?_
      refine WP.valG rfl rfl rfl rfl rfl rfl rfl (Yld.load rfl ty_sc_3 rfl (by repeat (first | exact There.h | exact There.i (by assumption) | apply There.t | apply There.s)) rfl) ?_
      refine WP.splitG rfl rfl rfl rfl rfl rfl rfl (Yld.lss rfl rfl rfl) (fun c1_11 => ?_) (fun c1_11 => ?_)
      · refine WP.val rfl rfl rfl rfl (Yld.pickF rfl rfl rfl) ?_
        refine WP.val rfl rfl rfl rfl (Yld.move rfl rfl) ?_
        refine WP.passG rfl rfl rfl rfl rfl rfl rfl rfl ?_
        refine WP.passG rfl rfl rfl rfl rfl rfl rfl rfl ?_
        refine WP.passG rfl rfl rfl rfl rfl rfl rfl rfl ?_
        refine WP.val rfl rfl rfl rfl (Yld.pickT rfl rfl rfl) ?_
        refine WP.nil ?_
        refine WP.sub [(0, _), (1, _), (2, _), (20, _)] ?_ ⟨rfl, rfl, rfl, rfl, trivial⟩
        refine WP.next ?_
        refine WP.condT rfl ?_
        refine WP.seq ?_
        refine WP.region [0] rfl ?_
        refine WP.val rfl rfl rfl rfl (Yld.assign rfl rfl) ?_
        refine WP.nil ?_
        refine WP.next ?_
        refine WP.ret ?_
        refine WP.fin .ret (.inr rfl) (res1 rfl rfl) [] (by repeat (first | exact Take.nil | with_reducible apply Take.cons | apply Take.app | exact Rm.chunk | exact Rm.here | exact Rm.nil0 | apply Rm.skip | apply Rm.skipS | (focus (apply Take.all; (repeat (first | exact Rm.chunk | exact Rm.here | exact Rm.nil0 | apply Rm.skip | apply Rm.skipS)); done)) | apply Take.cons)) (by repeat (first | exact Leave.done | apply Leave.drop | apply Leave.dropS)) (Imm.le_refl _) ?_
        exact ⟨_, rfl, ⟨fun h => Bool.noConfusion h, fun h => (by obtain ⟨q1, q2, q3, q4, q5⟩ := h; omega)⟩, rfl, rfl⟩
      · refine WP.val rfl rfl rfl rfl (Yld.pickF rfl rfl rfl) ?_
        refine WP.val rfl rfl rfl rfl (Yld.move rfl rfl) ?_
        refine WP.valG rfl rfl rfl rfl rfl rfl rfl (Yld.fieldAddr rfl ty_fd_23_3 rfl) ?_
        refine WP.valG rfl rfl rfl rfl rfl rfl rfl (Yld.load rfl ty_sc_3 rfl (by repeat (first | exact There.h | exact There.i (by assumption) | apply There.t | apply There.s)) rfl) ?_
        refine WP.splitG rfl rfl rfl rfl rfl rfl rfl (Yld.gtr rfl rfl rfl) (fun c1_16 => ?_) (fun c1_16 => ?_)
        · refine WP.val rfl rfl rfl rfl (Yld.pickF rfl rfl rfl) ?_
          refine WP.nil ?_
          refine WP.sub [(0, _), (1, _), (2, _), (20, _)] ?_ ⟨rfl, rfl, rfl, rfl, trivial⟩
          refine WP.next ?_
          refine WP.condT rfl ?_
          refine WP.seq ?_
          refine WP.region [0] rfl ?_
          refine WP.val rfl rfl rfl rfl (Yld.assign rfl rfl) ?_
          refine WP.nil ?_
          refine WP.next ?_
          refine WP.ret ?_
          refine WP.fin .ret (.inr rfl) (res1 rfl rfl) [] (by repeat (first | exact Take.nil | with_reducible apply Take.cons | apply Take.app | exact Rm.chunk | exact Rm.here | exact Rm.nil0 | apply Rm.skip | apply Rm.skipS | (focus (apply Take.all; (repeat (first | exact Rm.chunk | exact Rm.here | exact Rm.nil0 | apply Rm.skip | apply Rm.skipS)); done)) | apply Take.cons)) (by repeat (first | exact Leave.done | apply Leave.drop | apply Leave.dropS)) (Imm.le_refl _) ?_
          exact ⟨_, rfl, ⟨fun h => Bool.noConfusion h, fun h => (by obtain ⟨q1, q2, q3, q4, q5⟩ := h; omega)⟩, rfl, rfl⟩
        · refine WP.val rfl rfl rfl rfl (Yld.pickF rfl rfl rfl) ?_
          refine WP.nil ?_
          refine WP.sub [(0, _), (1, _), (2, _), (20, _)] ?_ ⟨rfl, rfl, rfl, rfl, trivial⟩
          refine WP.next ?_
          refine WP.condF rfl ?_
          refine WP.skip ?_
          refine WP.next ?_
          refine WP.seq ?_
          refine WP.region [0, 1, 2, 3, 4, 5, 6, 7, 8, 9, 10, 11, 12, 13, 14, 15, 16, 17, 18, 19, 20, 21, 22, 23, 24, 25, 26, 27, 28] rfl ?_
          refine WP.val rfl rfl rfl rfl (Yld.fieldAddr rfl ty_fd_23_1 rfl) ?_
          refine WP.val rfl rfl rfl rfl (Yld.load rfl ty_sc_3 rfl (by repeat (first | exact There.h | exact There.i (by assumption) | apply There.t | apply There.s)) rfl) ?_
          refine WP.split rfl rfl rfl rfl (Yld.geq rfl rfl rfl) (fun c3_2 => ?_) (fun c3_2 => ?_)
          · refine WP.val rfl rfl rfl rfl (Yld.move rfl rfl) ?_
            refine WP.valG rfl rfl rfl rfl rfl rfl rfl (Yld.fieldAddr rfl ty_fd_23_1 rfl) ?_
            refine WP.valG rfl rfl rfl rfl rfl rfl rfl (Yld.load rfl ty_sc_3 rfl (by repeat (first | exact There.h | exact There.i (by assumption) | apply There.t | apply There.s)) rfl) ?_
            refine WP.splitG rfl rfl rfl rfl rfl rfl rfl (Yld.leq rfl rfl rfl) (fun c3_6 => ?_) (fun c3_6 => ?_)
            · refine WP.val rfl rfl rfl rfl (Yld.pickT rfl rfl rfl) ?_
              refine WP.val rfl rfl rfl rfl (Yld.move rfl rfl) ?_
              refine WP.valG rfl rfl rfl rfl rfl rfl rfl (Yld.fieldAddr rfl ty_fd_23_4 rfl) ?_
              refine WP.valG rfl rfl rfl rfl rfl rfl rfl (Yld.load rfl ty_sc_3 rfl (by repeat (first | exact There.h | exact There.i (by assumption) | apply There.t | apply There.s)) rfl) ?_
              refine WP.splitG rfl rfl rfl rfl rfl rfl rfl (Yld.geq rfl rfl rfl) (fun c3_11 => ?_) (fun c3_11 => ?_)
              · refine WP.val rfl rfl rfl rfl (Yld.pickT rfl rfl rfl) ?_
                refine WP.val rfl rfl rfl rfl (Yld.move rfl rfl) ?_
                refine WP.valG rfl rfl rfl rfl rfl rfl rfl (Yld.fieldAddr rfl ty_fd_23_4 rfl) ?_
                refine WP.valG rfl rfl rfl rfl rfl rfl rfl (Yld.load rfl ty_sc_3 rfl (by repeat (first | exact There.h | exact There.i (by assumption) | apply There.t | apply There.s)) rfl) ?_
                refine WP.splitG rfl rfl rfl rfl rfl rfl rfl (Yld.leq rfl rfl rfl) (fun c3_16 => ?_) (fun c3_16 => ?_)
                · refine WP.val rfl rfl rfl rfl (Yld.pickT rfl rfl rfl) ?_
                  refine WP.val rfl rfl rfl rfl (Yld.move rfl rfl) ?_
                  refine WP.valG rfl rfl rfl rfl rfl rfl rfl (Yld.fieldAddr rfl ty_fd_23_2 rfl) ?_
                  refine WP.valG rfl rfl rfl rfl rfl rfl rfl (Yld.load rfl ty_sc_3 rfl (by repeat (first | exact There.h | exact There.i (by assumption) | apply There.t | apply There.s)) rfl) ?_
                  refine WP.splitG rfl rfl rfl rfl rfl rfl rfl (Yld.geq rfl rfl rfl) (fun c3_21 => ?_) (fun c3_21 => ?_)
                  · refine WP.val rfl rfl rfl rfl (Yld.pickT rfl rfl rfl) ?_
                    refine WP.val rfl rfl rfl rfl (Yld.move rfl rfl) ?_
                    refine WP.valG rfl rfl rfl rfl rfl rfl rfl (Yld.fieldAddr rfl ty_fd_23_2 rfl) ?_
                    refine WP.valG rfl rfl rfl rfl rfl rfl rfl (Yld.load rfl ty_sc_3 rfl (by repeat (first | exact There.h | exact There.i (by assumption) | apply There.t | apply There.s)) rfl) ?_
                    refine WP.splitG rfl rfl rfl rfl rfl rfl rfl (Yld.leq rfl rfl rfl) (fun c3_26 => ?_) (fun c3_26 => ?_)
                    · refine WP.val rfl rfl rfl rfl (Yld.pickT rfl rfl rfl) ?_
                      refine WP.val rfl rfl rfl rfl (Yld.assign rfl rfl) ?_
                      refine WP.nil ?_
                      refine WP.sub [(0, _), (1, _), (2, _), (20, _)] ?_ ⟨rfl, rfl, rfl, rfl, trivial⟩
                      refine WP.next ?_
                      refine WP.ret ?_
                      refine WP.fin .ret (.inr rfl) (res1 rfl rfl) [] (by repeat (first | exact Take.nil | with_reducible apply Take.cons | apply Take.app | exact Rm.chunk | exact Rm.here | exact Rm.nil0 | apply Rm.skip | apply Rm.skipS | (focus (apply Take.all; (repeat (first | exact Rm.chunk | exact Rm.here | exact Rm.nil0 | apply Rm.skip | apply Rm.skipS)); done)) | apply Take.cons)) (by repeat (first | exact Leave.done | apply Leave.drop | apply Leave.dropS)) (Imm.le_refl _) ?_
                      exact ⟨_, rfl, ⟨fun _ => ⟨(by omega), (by omega), (by omega), (by omega), (by omega)⟩, fun _ => rfl⟩, rfl, rfl⟩
                    · refine WP.val rfl rfl rfl rfl (Yld.pickT rfl rfl rfl) ?_
                      refine WP.val rfl rfl rfl rfl (Yld.assign rfl rfl) ?_
                      refine WP.nil ?_
                      refine WP.sub [(0, _), (1, _), (2, _), (20, _)] ?_ ⟨rfl, rfl, rfl, rfl, trivial⟩
                      refine WP.next ?_
                      refine WP.ret ?_
                      refine WP.fin .ret (.inr rfl) (res1 rfl rfl) [] (by repeat (first | exact Take.nil | with_reducible apply Take.cons | apply Take.app | exact Rm.chunk | exact Rm.here | exact Rm.nil0 | apply Rm.skip | apply Rm.skipS | (focus (apply Take.all; (repeat (first | exact Rm.chunk | exact Rm.here | exact Rm.nil0 | apply Rm.skip | apply Rm.skipS)); done)) | apply Take.cons)) (by repeat (first | exact Leave.done | apply Leave.drop | apply Leave.dropS)) (Imm.le_refl _) ?_
                      exact ⟨_, rfl, ⟨fun h => Bool.noConfusion h, fun h => (by obtain ⟨q1, q2, q3, q4, q5⟩ := h; omega)⟩, rfl, rfl⟩
                  · refine WP.val rfl rfl rfl rfl (Yld.pickT rfl rfl rfl) ?_
                    refine WP.val rfl rfl rfl rfl (Yld.move rfl rfl) ?_
                    refine WP.passG rfl rfl rfl rfl rfl rfl rfl rfl ?_
                    refine WP.passG rfl rfl rfl rfl rfl rfl rfl rfl ?_
                    refine WP.passG rfl rfl rfl rfl rfl rfl rfl rfl ?_
                    refine WP.val rfl rfl rfl rfl (Yld.pickF rfl rfl rfl) ?_
                    refine WP.val rfl rfl rfl rfl (Yld.assign rfl rfl) ?_
                    refine WP.nil ?_
                    refine WP.sub [(0, _), (1, _), (2, _), (20, _)] ?_ ⟨rfl, rfl, rfl, rfl, trivial⟩
                    refine WP.next ?_
                    refine WP.ret ?_
                    refine WP.fin .ret (.inr rfl) (res1 rfl rfl) [] (by repeat (first | exact Take.nil | with_reducible apply Take.cons | apply Take.app | exact Rm.chunk | exact Rm.here | exact Rm.nil0 | apply Rm.skip | apply Rm.skipS | (focus (apply Take.all; (repeat (first | exact Rm.chunk | exact Rm.here | exact Rm.nil0 | apply Rm.skip | apply Rm.skipS)); done)) | apply Take.cons)) (by repeat (first | exact Leave.done | apply Leave.drop | apply Leave.dropS)) (Imm.le_refl _) ?_
                    exact ⟨_, rfl, ⟨fun h => Bool.noConfusion h, fun h => (by obtain ⟨q1, q2, q3, q4, q5⟩ := h; omega)⟩, rfl, rfl⟩
                · refine WP.val rfl rfl rfl rfl (Yld.pickT rfl rfl rfl) ?_
                  refine WP.val rfl rfl rfl rfl (Yld.move rfl rfl) ?_
                  refine WP.passG rfl rfl rfl rfl rfl rfl rfl rfl ?_
                  refine WP.passG rfl rfl rfl rfl rfl rfl rfl rfl ?_
                  refine WP.passG rfl rfl rfl rfl rfl rfl rfl rfl ?_
                  refine WP.val rfl rfl rfl rfl (Yld.pickF rfl rfl rfl) ?_
                  refine WP.val rfl rfl rfl rfl (Yld.move rfl rfl) ?_
                  refine WP.passG rfl rfl rfl rfl rfl rfl rfl rfl ?_
                  refine WP.passG rfl rfl rfl rfl rfl rfl rfl rfl ?_
                  refine WP.passG rfl rfl rfl rfl rfl rfl rfl rfl ?_
                  refine WP.val rfl rfl rfl rfl (Yld.pickF rfl rfl rfl) ?_
                  refine WP.val rfl rfl rfl rfl (Yld.assign rfl rfl) ?_
                  refine WP.nil ?_
                  refine WP.sub [(0, _), (1, _), (2, _), (20, _)] ?_ ⟨rfl, rfl, rfl, rfl, trivial⟩
                  refine WP.next ?_
                  refine WP.ret ?_
                  refine WP.fin .ret (.inr rfl) (res1 rfl rfl) [] (by repeat (first | exact Take.nil | with_reducible apply Take.cons | apply Take.app | exact Rm.chunk | exact Rm.here | exact Rm.nil0 | apply Rm.skip | apply Rm.skipS | (focus (apply Take.all; (repeat (first | exact Rm.chunk | exact Rm.here | exact Rm.nil0 | apply Rm.skip | apply Rm.skipS)); done)) | apply Take.cons)) (by repeat (first | exact Leave.done | apply Leave.drop | apply Leave.dropS)) (Imm.le_refl _) ?_
                  exact ⟨_, rfl, ⟨fun h => Bool.noConfusion h, fun h => (by obtain ⟨q1, q2, q3, q4, q5⟩ := h; omega)⟩, rfl, rfl⟩
              · refine WP.val rfl rfl rfl rfl (Yld.pickT rfl rfl rfl) ?_
                refine WP.val rfl rfl rfl rfl (Yld.move rfl rfl) ?_
                refine WP.passG rfl rfl rfl rfl rfl rfl rfl rfl ?_
                refine WP.passG rfl rfl rfl rfl rfl rfl rfl rfl ?_
                refine WP.passG rfl rfl rfl rfl rfl rfl rfl rfl ?_
                refine WP.val rfl rfl rfl rfl (Yld.pickF rfl rfl rfl) ?_
                refine WP.val rfl rfl rfl rfl (Yld.move rfl rfl) ?_
                refine WP.passG rfl rfl rfl rfl rfl rfl rfl rfl ?_
                refine WP.passG rfl rfl rfl rfl rfl rfl rfl rfl ?_
                refine WP.passG rfl rfl rfl rfl rfl rfl rfl rfl ?_
                refine WP.val rfl rfl rfl rfl (Yld.pickF rfl rfl rfl) ?_
                refine WP.val rfl rfl rfl rfl (Yld.move rfl rfl) ?_
                refine WP.passG rfl rfl rfl rfl rfl rfl rfl rfl ?_
                refine WP.passG rfl rfl rfl rfl rfl rfl rfl rfl ?_
                refine WP.passG rfl rfl rfl rfl rfl rfl rfl rfl ?_
                refine WP.val rfl rfl rfl rfl (Yld.pickF rfl rfl rfl) ?_
                refine WP.val rfl rfl rfl rfl (Yld.assign rfl rfl) ?_
                refine WP.nil ?_
                refine WP.sub [(0, _), (1, _), (2, _), (20, _)] ?_ ⟨rfl, rfl, rfl, rfl, trivial⟩
                refine WP.next ?_
                refine WP.ret ?_
                refine WP.fin .ret (.inr rfl) (res1 rfl rfl) [] (by repeat (first | exact Take.nil | with_reducible apply Take.cons | apply Take.app | exact Rm.chunk | exact Rm.here | exact Rm.nil0 | apply Rm.skip | apply Rm.skipS | (focus (apply Take.all; (repeat (first | exact Rm.chunk | exact Rm.here | exact Rm.nil0 | apply Rm.skip | apply Rm.skipS)); done)) | apply Take.cons)) (by repeat (first | exact Leave.done | apply Leave.drop | apply Leave.dropS)) (Imm.le_refl _) ?_
                exact ⟨_, rfl, ⟨fun h => Bool.noConfusion h, fun h => (by obtain ⟨q1, q2, q3, q4, q5⟩ := h; omega)⟩, rfl, rfl⟩
            · refine WP.val rfl rfl rfl rfl (Yld.pickT rfl rfl rfl) ?_
              refine WP.val rfl rfl rfl rfl (Yld.move rfl rfl) ?_
              refine WP.passG rfl rfl rfl rfl rfl rfl rfl rfl ?_
              refine WP.passG rfl rfl rfl rfl rfl rfl rfl rfl ?_
              refine WP.passG rfl rfl rfl rfl rfl rfl rfl rfl ?_
              refine WP.val rfl rfl rfl rfl (Yld.pickF rfl rfl rfl) ?_
              refine WP.val rfl rfl rfl rfl (Yld.move rfl rfl) ?_
              refine WP.passG rfl rfl rfl rfl rfl rfl rfl rfl ?_
              refine WP.passG rfl rfl rfl rfl rfl rfl rfl rfl ?_
              refine WP.passG rfl rfl rfl rfl rfl rfl rfl rfl ?_
              refine WP.val rfl rfl rfl rfl (Yld.pickF rfl rfl rfl) ?_
              refine WP.val rfl rfl rfl rfl (Yld.move rfl rfl) ?_
              refine WP.passG rfl rfl rfl rfl rfl rfl rfl rfl ?_
              refine WP.passG rfl rfl rfl rfl rfl rfl rfl rfl ?_
              refine WP.passG rfl rfl rfl rfl rfl rfl rfl rfl ?_
              refine WP.val rfl rfl rfl rfl (Yld.pickF rfl rfl rfl) ?_
              refine WP.val rfl rfl rfl rfl (Yld.move rfl rfl) ?_
              refine WP.passG rfl rfl rfl rfl rfl rfl rfl rfl ?_
              refine WP.passG rfl rfl rfl rfl rfl rfl rfl rfl ?_
              refine WP.passG rfl rfl rfl rfl rfl rfl rfl rfl ?_
              refine WP.val rfl rfl rfl rfl (Yld.pickF rfl rfl rfl) ?_
              refine WP.val rfl rfl rfl rfl (Yld.assign rfl rfl) ?_
              refine WP.nil ?_
              refine WP.sub [(0, _), (1, _), (2, _), (20, _)] ?_ ⟨rfl, rfl, rfl, rfl, trivial⟩
              refine WP.next ?_
              refine WP.ret ?_
              refine WP.fin .ret (.inr rfl) (res1 rfl rfl) [] (by repeat (first | exact Take.nil | with_reducible apply Take.cons | apply Take.app | exact Rm.chunk | exact Rm.here | exact Rm.nil0 | apply Rm.skip | apply Rm.skipS | (focus (apply Take.all; (repeat (first | exact Rm.chunk | exact Rm.here | exact Rm.nil0 | apply Rm.skip | apply Rm.skipS)); done)) | apply Take.cons)) (by repeat (first | exact Leave.done | apply Leave.drop | apply Leave.dropS)) (Imm.le_refl _) ?_
              exact ⟨_, rfl, ⟨fun h => Bool.noConfusion h, fun h => (by obtain ⟨q1, q2, q3, q4, q5⟩ := h; omega)⟩, rfl, rfl⟩
          · refine WP.val rfl rfl rfl rfl (Yld.move rfl rfl) ?_
            refine WP.passG rfl rfl rfl rfl rfl rfl rfl rfl ?_
            refine WP.passG rfl rfl rfl rfl rfl rfl rfl rfl ?_
            refine WP.passG rfl rfl rfl rfl rfl rfl rfl rfl ?_
            refine WP.val rfl rfl rfl rfl (Yld.pickF rfl rfl rfl) ?_
            refine WP.val rfl rfl rfl rfl (Yld.move rfl rfl) ?_
            refine WP.passG rfl rfl rfl rfl rfl rfl rfl rfl ?_
            refine WP.passG rfl rfl rfl rfl rfl rfl rfl rfl ?_
            refine WP.passG rfl rfl rfl rfl rfl rfl rfl rfl ?_
            refine WP.val rfl rfl rfl rfl (Yld.pickF rfl rfl rfl) ?_
            refine WP.val rfl rfl rfl rfl (Yld.move rfl rfl) ?_
            refine WP.passG rfl rfl rfl rfl rfl rfl rfl rfl ?_
            refine WP.passG rfl rfl rfl rfl rfl rfl rfl rfl ?_
            refine WP.passG rfl rfl rfl rfl rfl rfl rfl rfl ?_
            refine WP.val rfl rfl rfl rfl (Yld.pickF rfl rfl rfl) ?_
            refine WP.val rfl rfl rfl rfl (Yld.move rfl rfl) ?_
            refine WP.passG rfl rfl rfl rfl rfl rfl rfl rfl ?_
            refine WP.passG rfl rfl rfl rfl rfl rfl rfl rfl ?_
            refine WP.passG rfl rfl rfl rfl rfl rfl rfl rfl ?_
            refine WP.val rfl rfl rfl rfl (Yld.pickF rfl rfl rfl) ?_
            refine WP.val rfl rfl rfl rfl (Yld.move rfl rfl) ?_
            refine WP.passG rfl rfl rfl rfl rfl rfl rfl rfl ?_
            refine WP.passG rfl rfl rfl rfl rfl rfl rfl rfl ?_
            refine WP.passG rfl rfl rfl rfl rfl rfl rfl rfl ?_
            refine WP.val rfl rfl rfl rfl (Yld.pickF rfl rfl rfl) ?_
            refine WP.val rfl rfl rfl rfl (Yld.assign rfl rfl) ?_
            refine WP.nil ?_
            refine WP.sub [(0, _), (1, _), (2, _), (20, _)] ?_ ⟨rfl, rfl, rfl, rfl, trivial⟩
            refine WP.next ?_
            refine WP.ret ?_
            refine WP.fin .ret (.inr rfl) (res1 rfl rfl) [] (by repeat (first | exact Take.nil | with_reducible apply Take.cons | apply Take.app | exact Rm.chunk | exact Rm.here | exact Rm.nil0 | apply Rm.skip | apply Rm.skipS | (focus (apply Take.all; (repeat (first | exact Rm.chunk | exact Rm.here | exact Rm.nil0 | apply Rm.skip | apply Rm.skipS)); done)) | apply Take.cons)) (by repeat (first | exact Leave.done | apply Leave.drop | apply Leave.dropS)) (Imm.le_refl _) ?_
            exact ⟨_, rfl, ⟨fun h => Bool.noConfusion h, fun h => (by obtain ⟨q1, q2, q3, q4, q5⟩ := h; omega)⟩, rfl, rfl⟩


end Go.Hp
