import Derived.Test.YtcnfcdlapbjgeaaSegA
import Derived.Test.YtcnfcdlapbjgeaaHpEq
import Derived.Test.YtcnfcdlapbjgeaaHpFull
set_option linter.unusedVariables false
set_option linter.unusedSimpArgs false
namespace Go.Hp
open Go Go.Proofs
theorem seg_may {I : Imm} {p : Pt} {v : Value} (hv : SlRd (Im I) v p.data.length 1 (bytesV p.data)) : Spec Try.prog 50 [.agg (ptV p v).toArray] I [] (fun v J L => ∃ b, v = .bool b ∧ (b = true ↔ p.may) ∧ I = J ∧ L = []) := by
 refine Spec.of Try.func50 rfl Try.ntmps50 (Nat.le_of_ble_eq_true rfl) (fun F => ?_)
 try simp only [nf]
 dsimp only [argsEnv]
 refine WP.seq ?_
 refine WP.region [0, 1] rfl ?_
 refine WP.loud rfl rfl ?_
 refine Op.box rfl rfl rfl rfl rfl (fun b1 => ?_)
 refine WP.mv rfl rfl ?_
 refine WP.nil ?_
 refine WP.next ?_
 refine WP.seq ?_
 refine WP.region [0] rfl ?_
 refine WP.mv rfl rfl ?_
 refine WP.nil ?_
 refine WP.next ?_
 refine WP.seq ?_
 refine WP.seq ?_
 refine WP.region [0, 1, 2, 3, 4, 5, 6, 7, 8, 9, 10, 11, 12, 13, 14, 15, 16, 17, 18, 19, 20, 21, 22, 23, 24, 25, 26, 27, 28, 29, 30, 31, 32, 33, 34, 35] rfl ?_
 refine WP.mv rfl rfl ?_
 refine WP.vl rfl (Yld.fieldAddr rfl ty_fd_52_0 rfl) ?_
 refine WP.vl rfl (Yld.ld rfl ty_sc_3 rfl rfl) ?_
 refine WP.loud rfl rfl ?_
 refine Op.callE super_in (Enters.closure rfl Try.func56 rfl (us := []) rfl (vs := [_, _, _]) rfl) rfl rfl (by repeat (first | exact Take.nil | with_reducible apply Take.cons | apply Take.app | exact Rm.chunk | exact Rm.here | exact Rm.nil0 | apply Rm.skip | apply Rm.skipS | (focus (apply Take.all; (repeat (first | exact Rm.chunk | exact Rm.here | exact Rm.nil0 | apply Rm.skip | apply Rm.skipS)); done)) | apply Take.cons)) ?_
 rintro v J L1 - ⟨rfl, rfl, rfl⟩
 try simp only [nf]
 by_cases h1 : (decide (0 ≤ p.place ∧ p.place ≤ 1099511627776)) = true
 ·rw [h1]
  refine WP.vl rfl (Yld.not rfl rfl) ?_
  refine WP.mv rfl rfl ?_
  refine WP.valG rfl rfl rfl rfl rfl rfl rfl (Yld.move rfl rfl) ?_
  refine WP.valG rfl rfl rfl rfl rfl rfl rfl (Yld.fieldAddr rfl ty_fd_52_1 rfl) ?_
  refine WP.valG rfl rfl rfl rfl rfl rfl rfl (Yld.ld rfl ty_sc_3 rfl rfl) ?_
  refine WP.loudG rfl rfl rfl rfl rfl ?_
  refine Op.callE super_in (Enters.closure rfl Try.func56 rfl (us := []) rfl (vs := [_, _, _]) rfl) rfl rfl (by repeat (first | exact Take.nil | with_reducible apply Take.cons | apply Take.app | exact Rm.chunk | exact Rm.here | exact Rm.nil0 | apply Rm.skip | apply Rm.skipS | (focus (apply Take.all; (repeat (first | exact Rm.chunk | exact Rm.here | exact Rm.nil0 | apply Rm.skip | apply Rm.skipS)); done)) | apply Take.cons)) ?_
  rintro v J L1 - ⟨rfl, rfl, rfl⟩
  try simp only [nf]
  by_cases h2 : (decide (1 ≤ p.no ∧ p.no ≤ 1099511627776)) = true
  ·rw [h2]
   refine WP.valG rfl rfl rfl rfl rfl rfl rfl (Yld.not rfl rfl) ?_
   refine WP.vl rfl (Yld.pickF rfl rfl rfl) ?_
   refine WP.mv rfl rfl ?_
   refine WP.valG rfl rfl rfl rfl rfl rfl rfl (Yld.move rfl rfl) ?_
   refine WP.valG rfl rfl rfl rfl rfl rfl rfl (Yld.fieldAddr rfl ty_fd_52_3 rfl) ?_
   refine WP.valG rfl rfl rfl rfl rfl rfl rfl (Yld.ld rfl ty_sc_3 rfl rfl) ?_
   refine WP.loudG rfl rfl rfl rfl rfl ?_
   refine Op.callE super_in (Enters.closure rfl Try.func56 rfl (us := []) rfl (vs := [_, _, _]) rfl) rfl rfl (by repeat (first | exact Take.nil | with_reducible apply Take.cons | apply Take.app | exact Rm.chunk | exact Rm.here | exact Rm.nil0 | apply Rm.skip | apply Rm.skipS | (focus (apply Take.all; (repeat (first | exact Rm.chunk | exact Rm.here | exact Rm.nil0 | apply Rm.skip | apply Rm.skipS)); done)) | apply Take.cons)) ?_
   rintro v J L1 - ⟨rfl, rfl, rfl⟩
   try simp only [nf]
   by_cases h3 : (decide (1 ≤ p.era ∧ p.era ≤ 4294967295)) = true
   ·rw [h3]
    refine WP.valG rfl rfl rfl rfl rfl rfl rfl (Yld.not rfl rfl) ?_
    refine WP.vl rfl (Yld.pickF rfl rfl rfl) ?_
    refine WP.mv rfl rfl ?_
    refine WP.valG rfl rfl rfl rfl rfl rfl rfl (Yld.move rfl rfl) ?_
    refine WP.valG rfl rfl rfl rfl rfl rfl rfl (Yld.fieldAddr rfl ty_fd_52_4 rfl) ?_
    refine WP.valG rfl rfl rfl rfl rfl rfl rfl (Yld.ld rfl ty_sc_3 rfl rfl) ?_
    refine WP.loudG rfl rfl rfl rfl rfl ?_
    refine Op.callE super_in (Enters.closure rfl Try.func56 rfl (us := []) rfl (vs := [_, _, _]) rfl) rfl rfl (by repeat (first | exact Take.nil | with_reducible apply Take.cons | apply Take.app | exact Rm.chunk | exact Rm.here | exact Rm.nil0 | apply Rm.skip | apply Rm.skipS | (focus (apply Take.all; (repeat (first | exact Rm.chunk | exact Rm.here | exact Rm.nil0 | apply Rm.skip | apply Rm.skipS)); done)) | apply Take.cons)) ?_
    rintro v J L1 - ⟨rfl, rfl, rfl⟩
    try simp only [nf]
    by_cases h4 : (decide (1 ≤ p.parts ∧ p.parts ≤ 64)) = true
    ·rw [h4]
     refine WP.valG rfl rfl rfl rfl rfl rfl rfl (Yld.not rfl rfl) ?_
     refine WP.vl rfl (Yld.pickF rfl rfl rfl) ?_
     refine WP.mv rfl rfl ?_
     refine WP.valG rfl rfl rfl rfl rfl rfl rfl (Yld.move rfl rfl) ?_
     refine WP.valG rfl rfl rfl rfl rfl rfl rfl (Yld.fieldAddr rfl ty_fd_52_2 rfl) ?_
     refine WP.valG rfl rfl rfl rfl rfl rfl rfl (Yld.ld rfl ty_sc_3 rfl rfl) ?_
     refine WP.valG rfl rfl rfl rfl rfl rfl rfl (Yld.fieldAddr rfl ty_fd_52_4 rfl) ?_
     refine WP.valG rfl rfl rfl rfl rfl rfl rfl (Yld.ld rfl ty_sc_3 rfl rfl) ?_
     refine WP.valG rfl rfl rfl rfl rfl rfl rfl (Yld.sub64 rfl rfl rfl (by have := of_decide_eq_true h4; omega)) ?_
     refine WP.loudG rfl rfl rfl rfl rfl ?_
     refine Op.callE super_in (Enters.closure rfl Try.func56 rfl (us := []) rfl (vs := [_, _, _]) rfl) rfl rfl (by repeat (first | exact Take.nil | with_reducible apply Take.cons | apply Take.app | exact Rm.chunk | exact Rm.here | exact Rm.nil0 | apply Rm.skip | apply Rm.skipS | (focus (apply Take.all; (repeat (first | exact Rm.chunk | exact Rm.here | exact Rm.nil0 | apply Rm.skip | apply Rm.skipS)); done)) | apply Take.cons)) ?_
     rintro v J L1 - ⟨rfl, rfl, rfl⟩
     try simp only [nf]
     by_cases h5 : (decide (0 ≤ p.index ∧ p.index ≤ p.parts - 1)) = true
     ·rw [h5]
      refine WP.valG rfl rfl rfl rfl rfl rfl rfl (Yld.not rfl rfl) ?_
      refine WP.vl rfl (Yld.pickF rfl rfl rfl) ?_
      refine WP.nil ?_
      refine WP.sub [(0, _), (1, _), (2, _), (3, _), (39, _)] ?_ ⟨rfl, rfl, rfl, rfl, rfl, trivial⟩
      refine WP.next ?_
      refine WP.condF rfl ?_
      refine WP.skip ?_
      refine WP.next ?_
      refine WP.seq ?_
      refine WP.region [0, 1, 2, 3, 4, 5, 6, 7, 8, 9, 10, 11, 12, 13, 14, 15, 16, 17, 18, 19] rfl ?_
      refine WP.vl rfl (Yld.fieldAddr rfl ty_fd_52_5 rfl) ?_
      refine WP.vl rfl (Yld.ld rfl ty_sc_46 rfl rfl) ?_
      refine WP.vl rfl (Yld.lenR hv rfl ty_sl_46 rfl) ?_
      refine WP.split rfl rfl rfl rfl (Yld.eql rfl rfl rfl) (fun h6 => ?_) (fun h6 => ?_)
      ·refine WP.mv rfl rfl ?_
       refine WP.passG rfl rfl rfl rfl rfl rfl rfl rfl ?_
       refine WP.passG rfl rfl rfl rfl rfl rfl rfl rfl ?_
       refine WP.passG rfl rfl rfl rfl rfl rfl rfl rfl ?_
       refine WP.passG rfl rfl rfl rfl rfl rfl rfl rfl ?_
       refine WP.passG rfl rfl rfl rfl rfl rfl rfl rfl ?_
       refine WP.passG rfl rfl rfl rfl rfl rfl rfl rfl ?_
       refine WP.passG rfl rfl rfl rfl rfl rfl rfl rfl ?_
       refine WP.passG rfl rfl rfl rfl rfl rfl rfl rfl ?_
       refine WP.passG rfl rfl rfl rfl rfl rfl rfl rfl ?_
       refine WP.passG rfl rfl rfl rfl rfl rfl rfl rfl ?_
       refine WP.passG rfl rfl rfl rfl rfl rfl rfl rfl ?_
       refine WP.passG rfl rfl rfl rfl rfl rfl rfl rfl ?_
       refine WP.passG rfl rfl rfl rfl rfl rfl rfl rfl ?_
       refine WP.vl rfl (Yld.pickT rfl rfl rfl) ?_
       refine WP.mv rfl rfl ?_
       refine WP.nil ?_
       refine WP.sub [(0, _), (1, _), (2, _), (3, _), (39, _)] ?_ ⟨rfl, rfl, rfl, rfl, rfl, trivial⟩
       refine WP.next ?_
       refine WP.ret ?_
       refine WP.fn .ret (.inr rfl) (res1 rfl rfl) [] (Imm.le_refl _) ?_
       have h1 := of_decide_eq_true h1
       have h2 := of_decide_eq_true h2
       have h3 := of_decide_eq_true h3
       have h4 := of_decide_eq_true h4
       have h5 := of_decide_eq_true h5
       exact ⟨_, rfl, ⟨fun _ => ⟨h1, h2, h3, h4, h5, .inl (by omega)⟩, fun _ => rfl⟩, rfl, rfl⟩
      ·refine WP.mv rfl rfl ?_
       refine WP.valG rfl rfl rfl rfl rfl rfl rfl (Yld.fieldAddr rfl ty_fd_52_2 rfl) ?_
       refine WP.valG rfl rfl rfl rfl rfl rfl rfl (Yld.ld rfl ty_sc_3 rfl rfl) ?_
       refine WP.valG rfl rfl rfl rfl rfl rfl rfl (Yld.fieldAddr rfl ty_fd_52_4 rfl) ?_
       refine WP.valG rfl rfl rfl rfl rfl rfl rfl (Yld.ld rfl ty_sc_3 rfl rfl) ?_
       refine WP.valG rfl rfl rfl rfl rfl rfl rfl (Yld.sub64 rfl rfl rfl (by have := of_decide_eq_true h4; omega)) ?_
       refine WP.splitG rfl rfl rfl rfl rfl rfl rfl (Yld.eql rfl rfl rfl) (fun h7 => ?_) (fun h7 => ?_)
       ·refine WP.valG rfl rfl rfl rfl rfl rfl rfl (Yld.move rfl rfl) ?_
        refine WP.valG rfl rfl rfl rfl rfl rfl rfl (Yld.move rfl rfl) ?_
        refine WP.valG rfl rfl rfl rfl rfl rfl rfl (Yld.fieldAddr rfl ty_fd_52_5 rfl) ?_
        refine WP.valG rfl rfl rfl rfl rfl rfl rfl (Yld.ld rfl ty_sc_46 rfl rfl) ?_
        refine WP.valG rfl rfl rfl rfl rfl rfl rfl (Yld.lenR hv rfl ty_sl_46 rfl) ?_
        refine WP.loudG rfl rfl rfl rfl rfl ?_
        refine Op.callE super_in (Enters.closure rfl Try.func56 rfl (us := []) rfl (vs := [_, _, _]) rfl) rfl rfl (by repeat (first | exact Take.nil | with_reducible apply Take.cons | apply Take.app | exact Rm.chunk | exact Rm.here | exact Rm.nil0 | apply Rm.skip | apply Rm.skipS | (focus (apply Take.all; (repeat (first | exact Rm.chunk | exact Rm.here | exact Rm.nil0 | apply Rm.skip | apply Rm.skipS)); done)) | apply Take.cons)) ?_
        rintro v J L1 - ⟨rfl, rfl, rfl⟩
        try simp only [nf]
        by_cases h8 : (decide (1 ≤ (p.data.length : Int) ∧ (p.data.length : Int) ≤ 198)) = true
        ·rw [h8]
         refine WP.valG rfl rfl rfl rfl rfl rfl rfl (Yld.pickT rfl rfl rfl) ?_
         refine WP.vl rfl (Yld.pickF rfl rfl rfl) ?_
         refine WP.mv rfl rfl ?_
         refine WP.nil ?_
         refine WP.sub [(0, _), (1, _), (2, _), (3, _), (39, _)] ?_ ⟨rfl, rfl, rfl, rfl, rfl, trivial⟩
         refine WP.next ?_
         refine WP.ret ?_
         refine WP.fn .ret (.inr rfl) (res1 rfl rfl) [] (Imm.le_refl _) ?_
         have h1 := of_decide_eq_true h1
         have h2 := of_decide_eq_true h2
         have h3 := of_decide_eq_true h3
         have h4 := of_decide_eq_true h4
         have h5 := of_decide_eq_true h5
         have h8 := of_decide_eq_true h8
         exact ⟨_, rfl, ⟨fun _ => ⟨h1, h2, h3, h4, h5, .inr ⟨h7, by omega, by omega⟩⟩, fun _ => rfl⟩, rfl, rfl⟩
        ·have h8 : (decide (1 ≤ (p.data.length : Int) ∧ (p.data.length : Int) ≤ 198)) = false := eq_false_of_ne_true h8
         rw [h8]
         refine WP.valG rfl rfl rfl rfl rfl rfl rfl (Yld.pickT rfl rfl rfl) ?_
         refine WP.vl rfl (Yld.pickF rfl rfl rfl) ?_
         refine WP.mv rfl rfl ?_
         refine WP.nil ?_
         refine WP.sub [(0, _), (1, _), (2, _), (3, _), (39, _)] ?_ ⟨rfl, rfl, rfl, rfl, rfl, trivial⟩
         refine WP.next ?_
         refine WP.ret ?_
         refine WP.fn .ret (.inr rfl) (res1 rfl rfl) [] (Imm.le_refl _) ?_
         have h1 := of_decide_eq_true h1
         have h2 := of_decide_eq_true h2
         have h3 := of_decide_eq_true h3
         have h4 := of_decide_eq_true h4
         have h5 := of_decide_eq_true h5
         have h8 := of_decide_eq_false h8
         exact ⟨_, rfl, ⟨fun h => Bool.noConfusion h, fun h => (by obtain ⟨q1, q2, q3, q4, q5, q6⟩ := h; omega)⟩, rfl, rfl⟩
       ·refine WP.valG rfl rfl rfl rfl rfl rfl rfl (Yld.move rfl rfl) ?_
        refine WP.passG rfl rfl rfl rfl rfl rfl rfl rfl ?_
        refine WP.passG rfl rfl rfl rfl rfl rfl rfl rfl ?_
        refine WP.passG rfl rfl rfl rfl rfl rfl rfl rfl ?_
        refine WP.passG rfl rfl rfl rfl rfl rfl rfl rfl ?_
        refine WP.passG rfl rfl rfl rfl rfl rfl rfl rfl ?_
        refine WP.valG rfl rfl rfl rfl rfl rfl rfl (Yld.pickF rfl rfl rfl) ?_
        refine WP.vl rfl (Yld.pickF rfl rfl rfl) ?_
        refine WP.mv rfl rfl ?_
        refine WP.nil ?_
        refine WP.sub [(0, _), (1, _), (2, _), (3, _), (39, _)] ?_ ⟨rfl, rfl, rfl, rfl, rfl, trivial⟩
        refine WP.next ?_
        refine WP.ret ?_
        refine WP.fn .ret (.inr rfl) (res1 rfl rfl) [] (Imm.le_refl _) ?_
        have h1 := of_decide_eq_true h1
        have h2 := of_decide_eq_true h2
        have h3 := of_decide_eq_true h3
        have h4 := of_decide_eq_true h4
        have h5 := of_decide_eq_true h5
        exact ⟨_, rfl, ⟨fun h => Bool.noConfusion h, fun h => (by obtain ⟨q1, q2, q3, q4, q5, q6⟩ := h; omega)⟩, rfl, rfl⟩
     ·have h5 : (decide (0 ≤ p.index ∧ p.index ≤ p.parts - 1)) = false := eq_false_of_ne_true h5
      rw [h5]
      refine WP.valG rfl rfl rfl rfl rfl rfl rfl (Yld.not rfl rfl) ?_
      refine WP.vl rfl (Yld.pickF rfl rfl rfl) ?_
      refine WP.nil ?_
      refine WP.sub [(0, _), (1, _), (2, _), (3, _), (39, _)] ?_ ⟨rfl, rfl, rfl, rfl, rfl, trivial⟩
      refine WP.next ?_
      refine WP.condT rfl ?_
      refine WP.seq ?_
      refine WP.region [0] rfl ?_
      refine WP.mv rfl rfl ?_
      refine WP.nil ?_
      refine WP.next ?_
      refine WP.ret ?_
      refine WP.fn .ret (.inr rfl) (res1 rfl rfl) [] (Imm.le_refl _) ?_
      have h1 := of_decide_eq_true h1
      have h2 := of_decide_eq_true h2
      have h3 := of_decide_eq_true h3
      have h4 := of_decide_eq_true h4
      have h5 := of_decide_eq_false h5
      exact ⟨_, rfl, ⟨fun h => Bool.noConfusion h, fun h => (by obtain ⟨q1, q2, q3, q4, q5, q6⟩ := h; omega)⟩, rfl, rfl⟩
    ·have h4 : (decide (1 ≤ p.parts ∧ p.parts ≤ 64)) = false := eq_false_of_ne_true h4
     rw [h4]
     refine WP.valG rfl rfl rfl rfl rfl rfl rfl (Yld.not rfl rfl) ?_
     refine WP.vl rfl (Yld.pickF rfl rfl rfl) ?_
     refine WP.mv rfl rfl ?_
     refine WP.passG rfl rfl rfl rfl rfl rfl rfl rfl ?_
     refine WP.passG rfl rfl rfl rfl rfl rfl rfl rfl ?_
     refine WP.passG rfl rfl rfl rfl rfl rfl rfl rfl ?_
     refine WP.passG rfl rfl rfl rfl rfl rfl rfl rfl ?_
     refine WP.passG rfl rfl rfl rfl rfl rfl rfl rfl ?_
     refine WP.passG rfl rfl rfl rfl rfl rfl rfl rfl ?_
     refine WP.passG rfl rfl rfl rfl rfl rfl rfl rfl ?_
     refine WP.passG rfl rfl rfl rfl rfl rfl rfl rfl ?_
     refine WP.vl rfl (Yld.pickT rfl rfl rfl) ?_
     refine WP.nil ?_
     refine WP.sub [(0, _), (1, _), (2, _), (3, _), (39, _)] ?_ ⟨rfl, rfl, rfl, rfl, rfl, trivial⟩
     refine WP.next ?_
     refine WP.condT rfl ?_
     refine WP.seq ?_
     refine WP.region [0] rfl ?_
     refine WP.mv rfl rfl ?_
     refine WP.nil ?_
     refine WP.next ?_
     refine WP.ret ?_
     refine WP.fn .ret (.inr rfl) (res1 rfl rfl) [] (Imm.le_refl _) ?_
     have h1 := of_decide_eq_true h1
     have h2 := of_decide_eq_true h2
     have h3 := of_decide_eq_true h3
     have h4 := of_decide_eq_false h4
     exact ⟨_, rfl, ⟨fun h => Bool.noConfusion h, fun h => (by obtain ⟨q1, q2, q3, q4, q5, q6⟩ := h; omega)⟩, rfl, rfl⟩
   ·have h3 : (decide (1 ≤ p.era ∧ p.era ≤ 4294967295)) = false := eq_false_of_ne_true h3
    rw [h3]
    refine WP.valG rfl rfl rfl rfl rfl rfl rfl (Yld.not rfl rfl) ?_
    refine WP.vl rfl (Yld.pickF rfl rfl rfl) ?_
    refine WP.mv rfl rfl ?_
    refine WP.passG rfl rfl rfl rfl rfl rfl rfl rfl ?_
    refine WP.passG rfl rfl rfl rfl rfl rfl rfl rfl ?_
    refine WP.passG rfl rfl rfl rfl rfl rfl rfl rfl ?_
    refine WP.passG rfl rfl rfl rfl rfl rfl rfl rfl ?_
    refine WP.passG rfl rfl rfl rfl rfl rfl rfl rfl ?_
    refine WP.vl rfl (Yld.pickT rfl rfl rfl) ?_
    refine WP.mv rfl rfl ?_
    refine WP.passG rfl rfl rfl rfl rfl rfl rfl rfl ?_
    refine WP.passG rfl rfl rfl rfl rfl rfl rfl rfl ?_
    refine WP.passG rfl rfl rfl rfl rfl rfl rfl rfl ?_
    refine WP.passG rfl rfl rfl rfl rfl rfl rfl rfl ?_
    refine WP.passG rfl rfl rfl rfl rfl rfl rfl rfl ?_
    refine WP.passG rfl rfl rfl rfl rfl rfl rfl rfl ?_
    refine WP.passG rfl rfl rfl rfl rfl rfl rfl rfl ?_
    refine WP.passG rfl rfl rfl rfl rfl rfl rfl rfl ?_
    refine WP.vl rfl (Yld.pickT rfl rfl rfl) ?_
    refine WP.nil ?_
    refine WP.sub [(0, _), (1, _), (2, _), (3, _), (39, _)] ?_ ⟨rfl, rfl, rfl, rfl, rfl, trivial⟩
    refine WP.next ?_
    refine WP.condT rfl ?_
    refine WP.seq ?_
    refine WP.region [0] rfl ?_
    refine WP.mv rfl rfl ?_
    refine WP.nil ?_
    refine WP.next ?_
    refine WP.ret ?_
    refine WP.fn .ret (.inr rfl) (res1 rfl rfl) [] (Imm.le_refl _) ?_
    have h1 := of_decide_eq_true h1
    have h2 := of_decide_eq_true h2
    have h3 := of_decide_eq_false h3
    exact ⟨_, rfl, ⟨fun h => Bool.noConfusion h, fun h => (by obtain ⟨q1, q2, q3, q4, q5, q6⟩ := h; omega)⟩, rfl, rfl⟩
  ·have h2 : (decide (1 ≤ p.no ∧ p.no ≤ 1099511627776)) = false := eq_false_of_ne_true h2
   rw [h2]
   refine WP.valG rfl rfl rfl rfl rfl rfl rfl (Yld.not rfl rfl) ?_
   refine WP.vl rfl (Yld.pickF rfl rfl rfl) ?_
   refine WP.mv rfl rfl ?_
   refine WP.passG rfl rfl rfl rfl rfl rfl rfl rfl ?_
   refine WP.passG rfl rfl rfl rfl rfl rfl rfl rfl ?_
   refine WP.passG rfl rfl rfl rfl rfl rfl rfl rfl ?_
   refine WP.passG rfl rfl rfl rfl rfl rfl rfl rfl ?_
   refine WP.passG rfl rfl rfl rfl rfl rfl rfl rfl ?_
   refine WP.vl rfl (Yld.pickT rfl rfl rfl) ?_
   refine WP.mv rfl rfl ?_
   refine WP.passG rfl rfl rfl rfl rfl rfl rfl rfl ?_
   refine WP.passG rfl rfl rfl rfl rfl rfl rfl rfl ?_
   refine WP.passG rfl rfl rfl rfl rfl rfl rfl rfl ?_
   refine WP.passG rfl rfl rfl rfl rfl rfl rfl rfl ?_
   refine WP.passG rfl rfl rfl rfl rfl rfl rfl rfl ?_
   refine WP.vl rfl (Yld.pickT rfl rfl rfl) ?_
   refine WP.mv rfl rfl ?_
   refine WP.passG rfl rfl rfl rfl rfl rfl rfl rfl ?_
   refine WP.passG rfl rfl rfl rfl rfl rfl rfl rfl ?_
   refine WP.passG rfl rfl rfl rfl rfl rfl rfl rfl ?_
   refine WP.passG rfl rfl rfl rfl rfl rfl rfl rfl ?_
   refine WP.passG rfl rfl rfl rfl rfl rfl rfl rfl ?_
   refine WP.passG rfl rfl rfl rfl rfl rfl rfl rfl ?_
   refine WP.passG rfl rfl rfl rfl rfl rfl rfl rfl ?_
   refine WP.passG rfl rfl rfl rfl rfl rfl rfl rfl ?_
   refine WP.vl rfl (Yld.pickT rfl rfl rfl) ?_
   refine WP.nil ?_
   refine WP.sub [(0, _), (1, _), (2, _), (3, _), (39, _)] ?_ ⟨rfl, rfl, rfl, rfl, rfl, trivial⟩
   refine WP.next ?_
   refine WP.condT rfl ?_
   refine WP.seq ?_
   refine WP.region [0] rfl ?_
   refine WP.mv rfl rfl ?_
   refine WP.nil ?_
   refine WP.next ?_
   refine WP.ret ?_
   refine WP.fn .ret (.inr rfl) (res1 rfl rfl) [] (Imm.le_refl _) ?_
   have h1 := of_decide_eq_true h1
   have h2 := of_decide_eq_false h2
   exact ⟨_, rfl, ⟨fun h => Bool.noConfusion h, fun h => (by obtain ⟨q1, q2, q3, q4, q5, q6⟩ := h; omega)⟩, rfl, rfl⟩
 ·have h1 : (decide (0 ≤ p.place ∧ p.place ≤ 1099511627776)) = false := eq_false_of_ne_true h1
  rw [h1]
  refine WP.vl rfl (Yld.not rfl rfl) ?_
  refine WP.mv rfl rfl ?_
  refine WP.passG rfl rfl rfl rfl rfl rfl rfl rfl ?_
  refine WP.passG rfl rfl rfl rfl rfl rfl rfl rfl ?_
  refine WP.passG rfl rfl rfl rfl rfl rfl rfl rfl ?_
  refine WP.passG rfl rfl rfl rfl rfl rfl rfl rfl ?_
  refine WP.passG rfl rfl rfl rfl rfl rfl rfl rfl ?_
  refine WP.vl rfl (Yld.pickT rfl rfl rfl) ?_
  refine WP.mv rfl rfl ?_
  refine WP.passG rfl rfl rfl rfl rfl rfl rfl rfl ?_
  refine WP.passG rfl rfl rfl rfl rfl rfl rfl rfl ?_
  refine WP.passG rfl rfl rfl rfl rfl rfl rfl rfl ?_
  refine WP.passG rfl rfl rfl rfl rfl rfl rfl rfl ?_
  refine WP.passG rfl rfl rfl rfl rfl rfl rfl rfl ?_
  refine WP.vl rfl (Yld.pickT rfl rfl rfl) ?_
  refine WP.mv rfl rfl ?_
  refine WP.passG rfl rfl rfl rfl rfl rfl rfl rfl ?_
  refine WP.passG rfl rfl rfl rfl rfl rfl rfl rfl ?_
  refine WP.passG rfl rfl rfl rfl rfl rfl rfl rfl ?_
  refine WP.passG rfl rfl rfl rfl rfl rfl rfl rfl ?_
  refine WP.passG rfl rfl rfl rfl rfl rfl rfl rfl ?_
  refine WP.vl rfl (Yld.pickT rfl rfl rfl) ?_
  refine WP.mv rfl rfl ?_
  refine WP.passG rfl rfl rfl rfl rfl rfl rfl rfl ?_
  refine WP.passG rfl rfl rfl rfl rfl rfl rfl rfl ?_
  refine WP.passG rfl rfl rfl rfl rfl rfl rfl rfl ?_
  refine WP.passG rfl rfl rfl rfl rfl rfl rfl rfl ?_
  refine WP.passG rfl rfl rfl rfl rfl rfl rfl rfl ?_
  refine WP.passG rfl rfl rfl rfl rfl rfl rfl rfl ?_
  refine WP.passG rfl rfl rfl rfl rfl rfl rfl rfl ?_
  refine WP.passG rfl rfl rfl rfl rfl rfl rfl rfl ?_
  refine WP.vl rfl (Yld.pickT rfl rfl rfl) ?_
  refine WP.nil ?_
  refine WP.sub [(0, _), (1, _), (2, _), (3, _), (39, _)] ?_ ⟨rfl, rfl, rfl, rfl, rfl, trivial⟩
  refine WP.next ?_
  refine WP.condT rfl ?_
  refine WP.seq ?_
  refine WP.region [0] rfl ?_
  refine WP.mv rfl rfl ?_
  refine WP.nil ?_
  refine WP.next ?_
  refine WP.ret ?_
  refine WP.fn .ret (.inr rfl) (res1 rfl rfl) [] (Imm.le_refl _) ?_
  have h1 := of_decide_eq_false h1
  exact ⟨_, rfl, ⟨fun h => Bool.noConfusion h, fun h => (by obtain ⟨q1, q2, q3, q4, q5, q6⟩ := h; omega)⟩, rfl, rfl⟩

theorem slices_Clone {I : Imm} {bs : List UInt8} {vb : Value} (hb : SlRd (fun b o => I.blk b = some o) vb bs.length 1 (bytesV bs)) (hbl : bs.length ≤ 140737488351232) : Spec Try.prog 36 [vb] I [] (fun v J L => I = J ∧ Own 5 1 v (bytesV bs) bs.length L) := by
 obtain ⟨A, c, rfl, hc, _, _⟩ := id hb
 refine Spec.of Try.func36 rfl Try.ntmps36 (Nat.le_of_ble_eq_true rfl) (fun F => ?_)
 try simp only [nf]
 dsimp only [argsEnv]
 refine WP.seq ?_
 refine WP.region [0] rfl ?_
 refine WP.mv rfl rfl ?_
 refine WP.nil ?_
 refine WP.next ?_
 refine WP.seq ?_
 refine WP.seq ?_
 refine WP.region [0, 1] rfl ?_
 refine WP.mv rfl rfl ?_
 refine WP.vl rfl (Yld.eqlSlNil rfl ty_sl_46 rfl rfl) ?_
 by_cases hA : A.isNone = true
 ·rw [hA]
  refine WP.nil ?_
  refine WP.sub [(0, _), (2, _), (4, _)] ?_ ⟨rfl, rfl, rfl, trivial⟩
  refine WP.next ?_
  refine WP.condT rfl ?_
  refine WP.seq ?_
  refine WP.region [0] rfl ?_
  refine WP.mv rfl rfl ?_
  refine WP.nil ?_
  refine WP.next ?_
  refine WP.ret ?_
  refine WP.fn .ret (.inr rfl) (res1 rfl rfl) [] (Imm.le_refl _) ?_
  obtain rfl : bs = [] := by obtain ⟨A', c', e, _, _, h3⟩ := hb; cases e; rcases h3 with h3 | ⟨b, k, T, fr, arr, rfl, _, _⟩; exact List.eq_nil_of_length_eq_zero h3; cases hA
  exact ⟨rfl, .none0⟩
 ·have hA : A.isNone = false := eq_false_of_ne_true hA
  rw [hA]
  refine WP.nil ?_
  refine WP.sub [(0, _), (2, _), (4, _)] ?_ ⟨rfl, rfl, rfl, trivial⟩
  refine WP.next ?_
  refine WP.condF rfl ?_
  refine WP.skip ?_
  refine WP.next ?_
  refine WP.seq ?_
  refine WP.region [0, 1, 2, 3] rfl ?_
  refine WP.loud rfl rfl ?_
  refine Op.buildSlice rfl ty_sl_46 ty_el2_46 rfl rfl rfl rfl (vs := []) rfl (segs := []) (cs := []) rfl rfl .nil (fun be => ?_)
  refine WP.mv rfl rfl ?_
  refine WP.loud rfl rfl ?_
  refine Op.append rfl ty_sl_46 ty_el_46 rfl rfl rfl rfl rfl (Own.blk (T := 5) (sz := 1) (b := be) (cap := 0) (n := 0) (xs := []) (sp := []) rfl rfl (Nat.le_refl _)) (hb.mono (fun b o h => There.i h)) (by repeat (first | exact Take.nil | with_reducible apply Take.cons | apply Take.app | exact Rm.chunk | exact Rm.here | exact Rm.nil0 | apply Rm.skip | apply Rm.skipS | (focus (apply Take.all; (repeat (first | exact Rm.chunk | exact Rm.here | exact Rm.nil0 | apply Rm.skip | apply Rm.skipS)); done)) | apply Take.cons)) (bytesV_one _) (by omega) (by omega) (fun vp Lp hp => ?_)
  rw [List.nil_append, Nat.zero_add] at hp
  try simp only [nf]
  refine WP.mv rfl rfl ?_
  refine WP.nil ?_
  refine WP.sub [(0, _), (2, _), (4, _)] ?_ ⟨rfl, rfl, rfl, trivial⟩
  refine WP.next ?_
  refine WP.ret ?_
  refine WP.fn .ret (.inr rfl) (res1 rfl rfl) Lp (Imm.le_refl _) ?_
  exact ⟨rfl, hp⟩

theorem bytes_Equal {I : Imm} {a b : List UInt8} {va vb : Value} (ha : SlRd (fun b o => I.blk b = some o) va a.length 1 (bytesV a)) (hb : SlRd (fun b o => I.blk b = some o) vb b.length 1 (bytesV b)) : Spec Try.prog 65 [va, vb] I [] (fun v J L => v = .bool (decide (a = b)) ∧ I = J ∧ L = []) := by
 refine Spec.of Try.func65 rfl Try.ntmps65 (Nat.le_of_ble_eq_true rfl) (fun F => ?_)
 try simp only [nf]
 dsimp only [argsEnv]
 refine WP.seq ?_
 refine WP.region [0] rfl ?_
 refine WP.mv rfl rfl ?_
 refine WP.nil ?_
 refine WP.next ?_
 refine WP.seq ?_
 refine WP.region [0, 1, 2, 3, 4, 5] rfl ?_
 refine WP.mv rfl rfl ?_
 refine WP.vl rfl (Yld.str (e := 5) rfl (by kernel_rfl) (by kernel_rfl) (by kernel_rfl) rfl (ha.mono (fun b o h => .inr h))) ?_
 refine WP.mv rfl rfl ?_
 refine WP.vl rfl (Yld.str (e := 5) rfl (by kernel_rfl) (by kernel_rfl) (by kernel_rfl) rfl (hb.mono (fun b o h => .inr h))) ?_
 refine WP.vl rfl (Yld.eqlStr rfl rfl rfl (decide (a = b)) (by simp)) ?_
 refine WP.mv rfl rfl ?_
 refine WP.nil ?_
 refine WP.sub [(0, _), (1, _), (4, _)] ?_ ⟨rfl, rfl, rfl, trivial⟩
 refine WP.next ?_
 refine WP.ret ?_
 refine WP.fn .ret (.inr rfl) (res1 rfl rfl) [] (Imm.le_refl _) ?_
 exact ⟨rfl, rfl, rfl⟩


theorem crc_OfOwn {I : Imm} {bs : List UInt8} {v : Value} {Lo : Chunks} (ho : Own 5 1 v (bytesV bs) bs.length Lo) (hbl : bs.length ≤ 1152921504606846976) :
  Spec Try.prog 70 [v] I Lo (fun v' J L' => I = J ∧ L' = Lo ∧ v' = .int .u32 ((crcOf bs).toNat : Int)) := by
 generalize hx : bytesV bs = xs at ho
 generalize hn : bs.length = m at ho
 cases ho with
 | none0 =>
  obtain rfl : bs = [] := List.eq_nil_of_length_eq_zero hn
  exact (crc_Of (bs := []) ⟨none, 0, rfl, Nat.le_refl _, rfl, .inl rfl⟩ hbl).mono (by rintro v J L' _ ⟨h1, h2, h3⟩; exact ⟨h2, h3, h1⟩)
 | @blk b cap _ _ sp h h2 h3 =>
  subst hx hn
  exact (Spec.lend (R := fun v _ L1 => v = .int .u32 ((crcOf bs).toNat : Int) ∧ L1 = []) fun J hJ hb => (crc_Of (Im_lit hb h3) hbl).mono (by rintro v J' L' _ ⟨h1, h2, h3⟩; exact ⟨h2, h1, h3⟩)).mono (by rintro v J L' _ ⟨h1, L1, rfl, h3, rfl⟩; exact ⟨h1, rfl, h3⟩)

end Go.Hp
