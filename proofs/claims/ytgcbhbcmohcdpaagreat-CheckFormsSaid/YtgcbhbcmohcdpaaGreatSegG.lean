import Derived.Test.YtgcbhbcmohcdpaaGreatSegA
import Derived.Test.YtgcbhbcmohcdpaaGreatHpEq
import Derived.Test.YtgcbhbcmohcdpaaGreatHpFull
import Derived.Test.YtgcbhbcmohcdpaaGreatHpFlat
set_option linter.unusedVariables false
set_option linter.unusedSimpArgs false
namespace Go.Hp
open Go Go.Proofs

theorem seg_may {I : Imm} {p : Pt} {v : Value} (hv : SlRd (Im I) v p.data.length 1 (bytesV p.data)) : Spec Tryz.prog 116 [.agg (ptV p v).toArray] I [] (fun v J L => ∃ b, v = .bool b ∧ (b = true ↔ p.may) ∧ I = J ∧ L = []) := by
 refine Spec.of Tryz.func116 rfl Tryz.ntmps116 (Nat.le_of_ble_eq_true rfl) (fun F => ?_)
 try simp only [nf]
 dsimp only [argsEnv]
 refine WP.seq ?_; refine WP.region [0, 1] rfl ?_; refine WP.loud rfl rfl ?_; refine Op.box rfl rfl rfl rfl rfl (fun b1 => ?_)
 refine WP.mv rfl rfl ?_; refine WP.nil (WP.next (WP.seq ?_))
 refine WP.region [0] rfl ?_; refine WP.mv rfl rfl ?_; refine WP.nil (WP.next (WP.seq (WP.seq ?_)))
 refine WP.region [0, 1, 2, 3, 4, 5, 6, 7, 8, 9, 10, 11, 12, 13, 14, 15, 16, 17, 18, 19, 20, 21, 22, 23, 24, 25, 26, 27, 28, 29, 30, 31, 32, 33, 34, 35] rfl ?_; refine WP.mv rfl rfl ?_; refine WP.vl rfl (Yld.fieldAddr rfl ty_fd_223_0 rfl) ?_; refine WP.vl rfl (Yld.ld rfl ty_sc_3 rfl rfl) ?_; refine WP.loud rfl rfl ?_; refine Op.callE super_in (Enters.closure rfl Tryz.func130 rfl (us := []) rfl (vs := [_, _, _]) rfl) rfl rfl zT ?_; rintro v J L1 - ⟨rfl, rfl, rfl⟩
 try simp only [nf]
 by_cases h1 : (decide (0 ≤ p.place ∧ p.place ≤ 1099511627776)) = true
 ·try rw [h1]
  refine WP.vl rfl (Yld.not rfl rfl) ?_; refine WP.mv rfl rfl ?_; refine WP.valG rfl rfl rfl rfl rfl rfl rfl (Yld.move rfl rfl) ?_; refine WP.valG rfl rfl rfl rfl rfl rfl rfl (Yld.fieldAddr rfl ty_fd_223_1 rfl) ?_; refine WP.valG rfl rfl rfl rfl rfl rfl rfl (Yld.ld rfl ty_sc_3 rfl rfl) ?_; refine WP.loudG rfl rfl rfl rfl rfl ?_; refine Op.callE super_in (Enters.closure rfl Tryz.func130 rfl (us := []) rfl (vs := [_, _, _]) rfl) rfl rfl zT ?_; rintro v J L1 - ⟨rfl, rfl, rfl⟩
  try simp only [nf]
  by_cases h2 : (decide (1 ≤ p.no ∧ p.no ≤ 1099511627776)) = true
  ·try rw [h2]
   refine WP.valG rfl rfl rfl rfl rfl rfl rfl (Yld.not rfl rfl) ?_; refine WP.vl rfl (Yld.pickF rfl rfl rfl) ?_; refine WP.mv rfl rfl ?_; refine WP.valG rfl rfl rfl rfl rfl rfl rfl (Yld.move rfl rfl) ?_; refine WP.valG rfl rfl rfl rfl rfl rfl rfl (Yld.fieldAddr rfl ty_fd_223_3 rfl) ?_; refine WP.valG rfl rfl rfl rfl rfl rfl rfl (Yld.ld rfl ty_sc_3 rfl rfl) ?_; refine WP.loudG rfl rfl rfl rfl rfl ?_; refine Op.callE super_in (Enters.closure rfl Tryz.func130 rfl (us := []) rfl (vs := [_, _, _]) rfl) rfl rfl zT ?_; rintro v J L1 - ⟨rfl, rfl, rfl⟩
   try simp only [nf]
   by_cases h3 : (decide (1 ≤ p.era ∧ p.era ≤ 4294967295)) = true
   ·try rw [h3]
    refine WP.valG rfl rfl rfl rfl rfl rfl rfl (Yld.not rfl rfl) ?_; refine WP.vl rfl (Yld.pickF rfl rfl rfl) ?_; refine WP.mv rfl rfl ?_; refine WP.valG rfl rfl rfl rfl rfl rfl rfl (Yld.move rfl rfl) ?_; refine WP.valG rfl rfl rfl rfl rfl rfl rfl (Yld.fieldAddr rfl ty_fd_223_4 rfl) ?_; refine WP.valG rfl rfl rfl rfl rfl rfl rfl (Yld.ld rfl ty_sc_3 rfl rfl) ?_; refine WP.loudG rfl rfl rfl rfl rfl ?_; refine Op.callE super_in (Enters.closure rfl Tryz.func130 rfl (us := []) rfl (vs := [_, _, _]) rfl) rfl rfl zT ?_; rintro v J L1 - ⟨rfl, rfl, rfl⟩
    try simp only [nf]
    by_cases h4 : (decide (1 ≤ p.parts ∧ p.parts ≤ 64)) = true
    ·try rw [h4]
     refine WP.valG rfl rfl rfl rfl rfl rfl rfl (Yld.not rfl rfl) ?_; refine WP.vl rfl (Yld.pickF rfl rfl rfl) ?_; refine WP.mv rfl rfl ?_; refine WP.valG rfl rfl rfl rfl rfl rfl rfl (Yld.move rfl rfl) ?_; refine WP.valG rfl rfl rfl rfl rfl rfl rfl (Yld.fieldAddr rfl ty_fd_223_2 rfl) ?_; refine WP.valG rfl rfl rfl rfl rfl rfl rfl (Yld.ld rfl ty_sc_3 rfl rfl) ?_; refine WP.valG rfl rfl rfl rfl rfl rfl rfl (Yld.fieldAddr rfl ty_fd_223_4 rfl) ?_; refine WP.valG rfl rfl rfl rfl rfl rfl rfl (Yld.ld rfl ty_sc_3 rfl rfl) ?_; refine WP.valG rfl rfl rfl rfl rfl rfl rfl (Yld.sub64 rfl rfl rfl (by have := of_decide_eq_true h4; omega)) ?_; refine WP.loudG rfl rfl rfl rfl rfl ?_; refine Op.callE super_in (Enters.closure rfl Tryz.func130 rfl (us := []) rfl (vs := [_, _, _]) rfl) rfl rfl zT ?_; rintro v J L1 - ⟨rfl, rfl, rfl⟩
     try simp only [nf]
     by_cases h5 : (decide (0 ≤ p.index ∧ p.index ≤ p.parts - 1)) = true
     ·try rw [h5]
      refine WP.valG rfl rfl rfl rfl rfl rfl rfl (Yld.not rfl rfl) ?_; refine WP.vl rfl (Yld.pickF rfl rfl rfl) ?_; refine WP.nil ?_; refine WP.sub [(0, _), (1, _), (2, _), (3, _), (39, _)] ?_ ⟨rfl, rfl, rfl, rfl, rfl, trivial⟩
      refine WP.next ?_; refine WP.condF rfl ?_; refine WP.skip (WP.next (WP.seq ?_))
      refine WP.region [0, 1, 2, 3, 4, 5, 6, 7, 8, 9, 10, 11, 12, 13, 14, 15, 16, 17, 18, 19] rfl ?_; refine WP.vl rfl (Yld.fieldAddr rfl ty_fd_223_5 rfl) ?_; refine WP.vl rfl (Yld.ld rfl ty_sc_25 rfl rfl) ?_; refine WP.vl rfl (Yld.lenR hv rfl ty_sl_25 rfl) ?_; refine WP.split rfl rfl rfl rfl (Yld.eql rfl rfl rfl) (fun h6 => ?_) (fun h6 => ?_)
      ·refine WP.mv rfl rfl ?_
       iterate 13 refine WP.passG rfl rfl rfl rfl rfl rfl rfl rfl ?_
       refine WP.vl rfl (Yld.pickT rfl rfl rfl) ?_; refine WP.mv rfl rfl ?_; refine WP.nil ?_; refine WP.sub [(0, _), (1, _), (2, _), (3, _), (39, _)] ?_ ⟨rfl, rfl, rfl, rfl, rfl, trivial⟩
       refine WP.next (WP.ret ?_)
       refine WP.fn .ret (.inr rfl) (res1 rfl rfl) [] (Imm.le_refl _) ?_; have h1 := of_decide_eq_true h1
       have h2 := of_decide_eq_true h2
       have h3 := of_decide_eq_true h3
       have h4 := of_decide_eq_true h4
       have h5 := of_decide_eq_true h5
       exact ⟨_, rfl, ⟨fun _ => ⟨h1, h2, h3, h4, h5, .inl (by omega)⟩, fun _ => rfl⟩, rfl, rfl⟩
      ·refine WP.mv rfl rfl ?_
       refine WP.valG rfl rfl rfl rfl rfl rfl rfl (Yld.fieldAddr rfl ty_fd_223_2 rfl) ?_; refine WP.valG rfl rfl rfl rfl rfl rfl rfl (Yld.ld rfl ty_sc_3 rfl rfl) ?_; refine WP.valG rfl rfl rfl rfl rfl rfl rfl (Yld.fieldAddr rfl ty_fd_223_4 rfl) ?_; refine WP.valG rfl rfl rfl rfl rfl rfl rfl (Yld.ld rfl ty_sc_3 rfl rfl) ?_; refine WP.valG rfl rfl rfl rfl rfl rfl rfl (Yld.sub64 rfl rfl rfl (by have := of_decide_eq_true h4; omega)) ?_; refine WP.splitG rfl rfl rfl rfl rfl rfl rfl (Yld.eql rfl rfl rfl) (fun h7 => ?_) (fun h7 => ?_)
       ·refine WP.valG rfl rfl rfl rfl rfl rfl rfl (Yld.move rfl rfl) ?_
        refine WP.valG rfl rfl rfl rfl rfl rfl rfl (Yld.move rfl rfl) ?_; refine WP.valG rfl rfl rfl rfl rfl rfl rfl (Yld.fieldAddr rfl ty_fd_223_5 rfl) ?_; refine WP.valG rfl rfl rfl rfl rfl rfl rfl (Yld.ld rfl ty_sc_25 rfl rfl) ?_; refine WP.valG rfl rfl rfl rfl rfl rfl rfl (Yld.lenR hv rfl ty_sl_25 rfl) ?_; refine WP.loudG rfl rfl rfl rfl rfl ?_; refine Op.callE super_in (Enters.closure rfl Tryz.func130 rfl (us := []) rfl (vs := [_, _, _]) rfl) rfl rfl zT ?_; rintro v J L1 - ⟨rfl, rfl, rfl⟩
        try simp only [nf]
        by_cases h8 : (decide (1 ≤ (p.data.length : Int) ∧ (p.data.length : Int) ≤ 198)) = true
        ·try rw [h8]
         refine WP.valG rfl rfl rfl rfl rfl rfl rfl (Yld.pickT rfl rfl rfl) ?_; refine WP.vl rfl (Yld.pickF rfl rfl rfl) ?_; refine WP.mv rfl rfl ?_; refine WP.nil ?_; refine WP.sub [(0, _), (1, _), (2, _), (3, _), (39, _)] ?_ ⟨rfl, rfl, rfl, rfl, rfl, trivial⟩
         refine WP.next (WP.ret ?_)
         refine WP.fn .ret (.inr rfl) (res1 rfl rfl) [] (Imm.le_refl _) ?_; have h1 := of_decide_eq_true h1
         have h2 := of_decide_eq_true h2
         have h3 := of_decide_eq_true h3
         have h4 := of_decide_eq_true h4
         have h5 := of_decide_eq_true h5
         have h8 := of_decide_eq_true h8
         exact ⟨_, rfl, ⟨fun _ => ⟨h1, h2, h3, h4, h5, .inr ⟨h7, by omega, by omega⟩⟩, fun _ => rfl⟩, rfl, rfl⟩
        ·have h8 : (decide (1 ≤ (p.data.length : Int) ∧ (p.data.length : Int) ≤ 198)) = false := eq_false_of_ne_true h8
         try rw [h8]
         refine WP.valG rfl rfl rfl rfl rfl rfl rfl (Yld.pickT rfl rfl rfl) ?_; refine WP.vl rfl (Yld.pickF rfl rfl rfl) ?_; refine WP.mv rfl rfl ?_; refine WP.nil ?_; refine WP.sub [(0, _), (1, _), (2, _), (3, _), (39, _)] ?_ ⟨rfl, rfl, rfl, rfl, rfl, trivial⟩
         refine WP.next (WP.ret ?_)
         refine WP.fn .ret (.inr rfl) (res1 rfl rfl) [] (Imm.le_refl _) ?_; have h1 := of_decide_eq_true h1
         have h2 := of_decide_eq_true h2
         have h3 := of_decide_eq_true h3
         have h4 := of_decide_eq_true h4
         have h5 := of_decide_eq_true h5
         have h8 := of_decide_eq_false h8
         exact ⟨_, rfl, ⟨fun h => Bool.noConfusion h, fun h => (by obtain ⟨q1, q2, q3, q4, q5, q6⟩ := h; omega)⟩, rfl, rfl⟩
       ·refine WP.valG rfl rfl rfl rfl rfl rfl rfl (Yld.move rfl rfl) ?_
        iterate 5 refine WP.passG rfl rfl rfl rfl rfl rfl rfl rfl ?_
        refine WP.valG rfl rfl rfl rfl rfl rfl rfl (Yld.pickF rfl rfl rfl) ?_; refine WP.vl rfl (Yld.pickF rfl rfl rfl) ?_; refine WP.mv rfl rfl ?_; refine WP.nil ?_; refine WP.sub [(0, _), (1, _), (2, _), (3, _), (39, _)] ?_ ⟨rfl, rfl, rfl, rfl, rfl, trivial⟩
        refine WP.next (WP.ret ?_)
        refine WP.fn .ret (.inr rfl) (res1 rfl rfl) [] (Imm.le_refl _) ?_; have h1 := of_decide_eq_true h1
        have h2 := of_decide_eq_true h2
        have h3 := of_decide_eq_true h3
        have h4 := of_decide_eq_true h4
        have h5 := of_decide_eq_true h5
        exact ⟨_, rfl, ⟨fun h => Bool.noConfusion h, fun h => (by obtain ⟨q1, q2, q3, q4, q5, q6⟩ := h; omega)⟩, rfl, rfl⟩
     ·have h5 : (decide (0 ≤ p.index ∧ p.index ≤ p.parts - 1)) = false := eq_false_of_ne_true h5
      try rw [h5]
      refine WP.valG rfl rfl rfl rfl rfl rfl rfl (Yld.not rfl rfl) ?_; refine WP.vl rfl (Yld.pickF rfl rfl rfl) ?_; refine WP.nil ?_; refine WP.sub [(0, _), (1, _), (2, _), (3, _), (39, _)] ?_ ⟨rfl, rfl, rfl, rfl, rfl, trivial⟩
      refine WP.next ?_; refine WP.condT rfl ?_; refine WP.seq ?_; refine WP.region [0] rfl ?_; refine WP.mv rfl rfl ?_; refine WP.nil (WP.next (WP.ret ?_))
      refine WP.fn .ret (.inr rfl) (res1 rfl rfl) [] (Imm.le_refl _) ?_; have h1 := of_decide_eq_true h1
      have h2 := of_decide_eq_true h2
      have h3 := of_decide_eq_true h3
      have h4 := of_decide_eq_true h4
      have h5 := of_decide_eq_false h5
      exact ⟨_, rfl, ⟨fun h => Bool.noConfusion h, fun h => (by obtain ⟨q1, q2, q3, q4, q5, q6⟩ := h; omega)⟩, rfl, rfl⟩
    ·have h4 : (decide (1 ≤ p.parts ∧ p.parts ≤ 64)) = false := eq_false_of_ne_true h4
     try rw [h4]
     refine WP.valG rfl rfl rfl rfl rfl rfl rfl (Yld.not rfl rfl) ?_; refine WP.vl rfl (Yld.pickF rfl rfl rfl) ?_; refine WP.mv rfl rfl ?_; iterate 8 refine WP.passG rfl rfl rfl rfl rfl rfl rfl rfl ?_
     refine WP.vl rfl (Yld.pickT rfl rfl rfl) ?_; refine WP.nil ?_; refine WP.sub [(0, _), (1, _), (2, _), (3, _), (39, _)] ?_ ⟨rfl, rfl, rfl, rfl, rfl, trivial⟩
     refine WP.next ?_; refine WP.condT rfl ?_; refine WP.seq ?_; refine WP.region [0] rfl ?_; refine WP.mv rfl rfl ?_; refine WP.nil (WP.next (WP.ret ?_))
     refine WP.fn .ret (.inr rfl) (res1 rfl rfl) [] (Imm.le_refl _) ?_; have h1 := of_decide_eq_true h1
     have h2 := of_decide_eq_true h2
     have h3 := of_decide_eq_true h3
     have h4 := of_decide_eq_false h4
     exact ⟨_, rfl, ⟨fun h => Bool.noConfusion h, fun h => (by obtain ⟨q1, q2, q3, q4, q5, q6⟩ := h; omega)⟩, rfl, rfl⟩
   ·have h3 : (decide (1 ≤ p.era ∧ p.era ≤ 4294967295)) = false := eq_false_of_ne_true h3
    try rw [h3]
    refine WP.valG rfl rfl rfl rfl rfl rfl rfl (Yld.not rfl rfl) ?_; refine WP.vl rfl (Yld.pickF rfl rfl rfl) ?_; refine WP.mv rfl rfl ?_; iterate 5 refine WP.passG rfl rfl rfl rfl rfl rfl rfl rfl ?_
    refine WP.vl rfl (Yld.pickT rfl rfl rfl) ?_; refine WP.mv rfl rfl ?_; iterate 8 refine WP.passG rfl rfl rfl rfl rfl rfl rfl rfl ?_
    refine WP.vl rfl (Yld.pickT rfl rfl rfl) ?_; refine WP.nil ?_; refine WP.sub [(0, _), (1, _), (2, _), (3, _), (39, _)] ?_ ⟨rfl, rfl, rfl, rfl, rfl, trivial⟩
    refine WP.next ?_; refine WP.condT rfl ?_; refine WP.seq ?_; refine WP.region [0] rfl ?_; refine WP.mv rfl rfl ?_; refine WP.nil (WP.next (WP.ret ?_))
    refine WP.fn .ret (.inr rfl) (res1 rfl rfl) [] (Imm.le_refl _) ?_; have h1 := of_decide_eq_true h1
    have h2 := of_decide_eq_true h2
    have h3 := of_decide_eq_false h3
    exact ⟨_, rfl, ⟨fun h => Bool.noConfusion h, fun h => (by obtain ⟨q1, q2, q3, q4, q5, q6⟩ := h; omega)⟩, rfl, rfl⟩
  ·have h2 : (decide (1 ≤ p.no ∧ p.no ≤ 1099511627776)) = false := eq_false_of_ne_true h2
   try rw [h2]
   refine WP.valG rfl rfl rfl rfl rfl rfl rfl (Yld.not rfl rfl) ?_; refine WP.vl rfl (Yld.pickF rfl rfl rfl) ?_; refine WP.mv rfl rfl ?_; iterate 5 refine WP.passG rfl rfl rfl rfl rfl rfl rfl rfl ?_
   refine WP.vl rfl (Yld.pickT rfl rfl rfl) ?_; refine WP.mv rfl rfl ?_; iterate 5 refine WP.passG rfl rfl rfl rfl rfl rfl rfl rfl ?_
   refine WP.vl rfl (Yld.pickT rfl rfl rfl) ?_; refine WP.mv rfl rfl ?_; iterate 8 refine WP.passG rfl rfl rfl rfl rfl rfl rfl rfl ?_
   refine WP.vl rfl (Yld.pickT rfl rfl rfl) ?_; refine WP.nil ?_; refine WP.sub [(0, _), (1, _), (2, _), (3, _), (39, _)] ?_ ⟨rfl, rfl, rfl, rfl, rfl, trivial⟩
   refine WP.next ?_; refine WP.condT rfl ?_; refine WP.seq ?_; refine WP.region [0] rfl ?_; refine WP.mv rfl rfl ?_; refine WP.nil (WP.next (WP.ret ?_))
   refine WP.fn .ret (.inr rfl) (res1 rfl rfl) [] (Imm.le_refl _) ?_; have h1 := of_decide_eq_true h1
   have h2 := of_decide_eq_false h2
   exact ⟨_, rfl, ⟨fun h => Bool.noConfusion h, fun h => (by obtain ⟨q1, q2, q3, q4, q5, q6⟩ := h; omega)⟩, rfl, rfl⟩
 ·have h1 : (decide (0 ≤ p.place ∧ p.place ≤ 1099511627776)) = false := eq_false_of_ne_true h1
  try rw [h1]
  refine WP.vl rfl (Yld.not rfl rfl) ?_; refine WP.mv rfl rfl ?_; iterate 5 refine WP.passG rfl rfl rfl rfl rfl rfl rfl rfl ?_
  refine WP.vl rfl (Yld.pickT rfl rfl rfl) ?_; refine WP.mv rfl rfl ?_; iterate 5 refine WP.passG rfl rfl rfl rfl rfl rfl rfl rfl ?_
  refine WP.vl rfl (Yld.pickT rfl rfl rfl) ?_; refine WP.mv rfl rfl ?_; iterate 5 refine WP.passG rfl rfl rfl rfl rfl rfl rfl rfl ?_
  refine WP.vl rfl (Yld.pickT rfl rfl rfl) ?_; refine WP.mv rfl rfl ?_; iterate 8 refine WP.passG rfl rfl rfl rfl rfl rfl rfl rfl ?_
  refine WP.vl rfl (Yld.pickT rfl rfl rfl) ?_; refine WP.nil ?_; refine WP.sub [(0, _), (1, _), (2, _), (3, _), (39, _)] ?_ ⟨rfl, rfl, rfl, rfl, rfl, trivial⟩
  refine WP.next ?_; refine WP.condT rfl ?_; refine WP.seq ?_; refine WP.region [0] rfl ?_; refine WP.mv rfl rfl ?_; refine WP.nil (WP.next (WP.ret ?_))
  refine WP.fn .ret (.inr rfl) (res1 rfl rfl) [] (Imm.le_refl _) ?_; have h1 := of_decide_eq_false h1
  exact ⟨_, rfl, ⟨fun h => Bool.noConfusion h, fun h => (by obtain ⟨q1, q2, q3, q4, q5, q6⟩ := h; omega)⟩, rfl, rfl⟩

theorem slices_Clone {I : Imm} {bs : List UInt8} {vb : Value} (hb : SlRd (fun b o => I.blk b = some o) vb bs.length 1 (bytesV bs)) (hbl : bs.length ≤ 140737488351232) : Spec Tryz.prog 88 [vb] I [] (fun v J L => I = J ∧ Own 5 1 v (bytesV bs) bs.length L) := by
 obtain ⟨A, c, rfl, hc, _, _⟩ := id hb
 refine Spec.of Tryz.func88 rfl Tryz.ntmps88 (Nat.le_of_ble_eq_true rfl) (fun F => ?_)
 try simp only [nf]
 dsimp only [argsEnv]
 refine WP.seq ?_; refine WP.region [0] rfl ?_; refine WP.mv rfl rfl ?_; refine WP.nil (WP.next (WP.seq (WP.seq ?_)))
 refine WP.region [0, 1] rfl ?_; refine WP.mv rfl rfl ?_; refine WP.vl rfl (Yld.eqlSlNil rfl ty_sl_25 rfl rfl) ?_; by_cases hA : A.isNone = true
 ·try rw [hA]
  refine WP.nil ?_; refine WP.sub [(0, _), (2, _), (4, _)] ?_ ⟨rfl, rfl, rfl, trivial⟩
  refine WP.next ?_; refine WP.condT rfl ?_; refine WP.seq ?_; refine WP.region [0] rfl ?_; refine WP.mv rfl rfl ?_; refine WP.nil (WP.next (WP.ret ?_))
  refine WP.fn .ret (.inr rfl) (res1 rfl rfl) [] (Imm.le_refl _) ?_; obtain rfl : bs = [] := by obtain ⟨A', c', e, _, _, h3⟩ := hb; cases e; rcases h3 with h3 | ⟨b, k, T, fr, arr, rfl, _, _⟩; exact List.eq_nil_of_length_eq_zero h3; cases hA
  exact ⟨rfl, .none0⟩
 ·have hA : A.isNone = false := eq_false_of_ne_true hA
  try rw [hA]
  refine WP.nil ?_; refine WP.sub [(0, _), (2, _), (4, _)] ?_ ⟨rfl, rfl, rfl, trivial⟩
  refine WP.next ?_; refine WP.condF rfl ?_; refine WP.skip (WP.next (WP.seq ?_))
  refine WP.region [0, 1, 2, 3] rfl ?_; refine WP.loud rfl rfl ?_; refine Op.buildSlice rfl ty_sl_25 ty_el2_25 rfl rfl rfl rfl (vs := []) rfl (segs := []) (cs := []) rfl rfl .nil (fun be => ?_)
  refine WP.mv rfl rfl ?_; refine WP.loud rfl rfl ?_; refine Op.append rfl ty_sl_25 ty_el_25 rfl rfl rfl rfl rfl (Own.blk (T := 5) (sz := 1) (b := be) (cap := 0) (n := 0) (xs := []) (sp := []) rfl rfl (Nat.le_refl _)) (hb.mono (fun b o h => There.i h)) zT (bytesV_one _) (by omega) (by omega) (fun vp Lp hp => ?_)
  rw [List.nil_append, Nat.zero_add] at hp
  try simp only [nf]
  refine WP.mv rfl rfl ?_; refine WP.nil ?_; refine WP.sub [(0, _), (2, _), (4, _)] ?_ ⟨rfl, rfl, rfl, trivial⟩
  refine WP.next (WP.ret ?_)
  refine WP.fn .ret (.inr rfl) (res1 rfl rfl) Lp (Imm.le_refl _) ?_; exact ⟨rfl, hp⟩


theorem crc_OfOwn {I : Imm} {bs : List UInt8} {v : Value} {Lo : Chunks} (ho : Own 5 1 v (bytesV bs) bs.length Lo) (hbl : bs.length ≤ 1152921504606846976) :
  Spec Tryz.prog 154 [v] I Lo (fun v' J L' => I = J ∧ L' = Lo ∧ v' = .int .u32 ((crcOf bs).toNat : Int)) := by
 generalize hx : bytesV bs = xs at ho
 generalize hn : bs.length = m at ho
 cases ho with
 | none0 =>
  obtain rfl : bs = [] := List.eq_nil_of_length_eq_zero hn
  exact (crc_Of (bs := []) ⟨none, 0, rfl, Nat.le_refl _, rfl, .inl rfl⟩ hbl).mono (by rintro v J L' _ ⟨h1, h2, h3⟩; exact ⟨h2, h3, h1⟩)
 | @blk b cap _ _ sp h h2 h3 =>
  subst hx hn
  exact (Spec.lend (R := fun v _ L1 => v = .int .u32 ((crcOf bs).toNat : Int) ∧ L1 = []) fun J hJ hb => (crc_Of (Im_lit hb h3) hbl).mono (by rintro v J' L' _ ⟨h1, h2, h3⟩; exact ⟨h2, h1, h3⟩)).mono (by rintro v J L' _ ⟨h1, L1, rfl, h3, rfl⟩; exact ⟨h1, rfl, h3⟩)

theorem mark_mono {I J : Imm} (h : I.le J) {b T : Nat} {cs : Array Value} (hm : ∃ fr, I.blk b = some (.cells cs T fr)) : ∃ fr, J.blk b = some (.cells cs T fr) := by
 obtain ⟨fr, hm⟩ := hm; exact ⟨fr, h.2 _ _ hm⟩


set_option maxRecDepth 100000 in
theorem form_zr : zeroTy Tryz.prog 244 (bytesV (List.replicate 64 0)) := ⟨_, _, rfl, rfl, rfl⟩
theorem seg_cat {I : Imm} {p : Pt} {bx bz b5 b8 b12 b15 b18 b21 cv : Nat} {Av : Option Addr} (hmz : ∃ fr, I.blk bz = some (.cells (bytesV [80, 66]).toArray 5 fr)) (hb5 : I.blk b5 = some (row 5 (bytesV (leB p.parts.toNat 1)))) (hb8 : I.blk b8 = some (row 5 (bytesV (leB p.index.toNat 1)))) (hb12 : I.blk b12 = some (row 5 (bytesV (leB p.data.length 2)))) (hb15 : I.blk b15 = some (row 5 (bytesV (leB p.no.toNat 6)))) (hb18 : I.blk b18 = some (row 5 (bytesV (leB p.place.toNat 6)))) (hb21 : I.blk b21 = some (row 5 (bytesV (leB p.era.toNat 4)))) (hv : SlRd (Im I) (.slice Av p.data.length cv) p.data.length 1 (bytesV p.data)) (hl : p.data.length ≤ 198) :
  Spec Tryz.prog 152 [.slice (some ⟨bx, 0, none⟩) 8 8] I [(bx, row 25 (([(.slice (some ⟨bz, 0, none⟩) 2 2, [80, 66]), (.slice (some ⟨b5, 0, none⟩) 1 1, leB p.parts.toNat 1), (.slice (some ⟨b8, 0, none⟩) 1 1, leB p.index.toNat 1), (.slice (some ⟨b12, 0, none⟩) 2 2, leB p.data.length 2), (.slice (some ⟨b15, 0, none⟩) 6 6, leB p.no.toNat 6), (.slice (some ⟨b18, 0, none⟩) 6 6, leB p.place.toNat 6), (.slice (some ⟨b21, 0, none⟩) 4 4, leB p.era.toNat 4), (.slice Av p.data.length cv, p.data)] : List (Value × List UInt8)).map (·.1)))] (fun v J L => I = J ∧ Own 5 1 v (bytesV (phead p ++ p.data)) (22 + p.data.length) L) :=
 (slices_Concat (bx := bx) (ls := [(.slice (some ⟨bz, 0, none⟩) 2 2, [80, 66]), (.slice (some ⟨b5, 0, none⟩) 1 1, leB p.parts.toNat 1), (.slice (some ⟨b8, 0, none⟩) 1 1, leB p.index.toNat 1), (.slice (some ⟨b12, 0, none⟩) 2 2, leB p.data.length 2), (.slice (some ⟨b15, 0, none⟩) 6 6, leB p.no.toNat 6), (.slice (some ⟨b18, 0, none⟩) 6 6, leB p.place.toNat 6), (.slice (some ⟨b21, 0, none⟩) 4 4, leB p.era.toNat 4), (.slice Av p.data.length cv, p.data)]) (by
  intro e he
  simp only [List.mem_cons, List.not_mem_nil, or_false] at he
  rcases he with rfl | rfl | rfl | rfl | rfl | rfl | rfl | rfl
  ·exact Im_lit' hmz (Nat.le_refl _)
  ·exact (by have q := Im_lit (l := leB p.parts.toNat 1) (sp := []) (c := 1) (by rw [List.append_nil]; exact hb5) (by rw [leB_len]; exact Nat.le_refl _); simpa [leB_len] using q)
  ·exact (by have q := Im_lit (l := leB p.index.toNat 1) (sp := []) (c := 1) (by rw [List.append_nil]; exact hb8) (by rw [leB_len]; exact Nat.le_refl _); simpa [leB_len] using q)
  ·exact (by have q := Im_lit (l := leB p.data.length 2) (sp := []) (c := 2) (by rw [List.append_nil]; exact hb12) (by rw [leB_len]; exact Nat.le_refl _); simpa [leB_len] using q)
  ·exact (by have q := Im_lit (l := leB p.no.toNat 6) (sp := []) (c := 6) (by rw [List.append_nil]; exact hb15) (by rw [leB_len]; exact Nat.le_refl _); simpa [leB_len] using q)
  ·exact (by have q := Im_lit (l := leB p.place.toNat 6) (sp := []) (c := 6) (by rw [List.append_nil]; exact hb18) (by rw [leB_len]; exact Nat.le_refl _); simpa [leB_len] using q)
  ·exact (by have q := Im_lit (l := leB p.era.toNat 4) (sp := []) (c := 4) (by rw [List.append_nil]; exact hb21) (by rw [leB_len]; exact Nat.le_refl _); simpa [leB_len] using q)
  ·exact hv) (by simp [total, leB_len]) (by simp [total, leB_len]; omega) (Nat.le_of_ble_eq_true rfl)).mono (by
  rintro v J L _ ⟨h1, h⟩
  have e : ([(.slice (some ⟨bz, 0, none⟩) 2 2, [80, 66]), (.slice (some ⟨b5, 0, none⟩) 1 1, leB p.parts.toNat 1), (.slice (some ⟨b8, 0, none⟩) 1 1, leB p.index.toNat 1), (.slice (some ⟨b12, 0, none⟩) 2 2, leB p.data.length 2), (.slice (some ⟨b15, 0, none⟩) 6 6, leB p.no.toNat 6), (.slice (some ⟨b18, 0, none⟩) 6 6, leB p.place.toNat 6), (.slice (some ⟨b21, 0, none⟩) 4 4, leB p.era.toNat 4), (.slice Av p.data.length cv, p.data)] : List (Value × List UInt8)).flatMap (·.2) = phead p ++ p.data := by simp [phead]
  have e2 : total ([(.slice (some ⟨bz, 0, none⟩) 2 2, [80, 66]), (.slice (some ⟨b5, 0, none⟩) 1 1, leB p.parts.toNat 1), (.slice (some ⟨b8, 0, none⟩) 1 1, leB p.index.toNat 1), (.slice (some ⟨b12, 0, none⟩) 2 2, leB p.data.length 2), (.slice (some ⟨b15, 0, none⟩) 6 6, leB p.no.toNat 6), (.slice (some ⟨b18, 0, none⟩) 6 6, leB p.place.toNat 6), (.slice (some ⟨b21, 0, none⟩) 4 4, leB p.era.toNat 4), (.slice Av p.data.length cv, p.data)] : List (Value × List UInt8)) = 22 + p.data.length := by unfold total; rw [e, List.length_append, phead_len]
  rw [e, e2] at h
  exact ⟨h1, h⟩)
theorem pin_lay {p : Pt} (hl : p.data.length ≤ 198) : pin p = (List.replicate 220 (0 : UInt8)).take 0 ++ (phead p ++ p.data).take (22 + p.data.length) ++ (List.replicate 220 (0 : UInt8)).drop (0 + (22 + p.data.length)) := by
 rw [List.take_zero, List.nil_append, List.take_of_length_le (by rw [List.length_append, phead_len]; exact Nat.le_refl _), List.drop_replicate, pin, List.append_assoc]
 congr 3; omega
theorem own_lit {b k : Nat} {l : List UInt8} (h : l.length = k) : Own 5 1 (.slice (some ⟨b, 0, none⟩) k k) (bytesV l) k [(b, row 5 (bytesV l))] := by
 have q := Own.blk (T := 5) (sz := 1) (b := b) (cap := k) (n := k) (xs := bytesV l) (sp := []) (by rw [bytesV_len, h, Nat.mul_one]) (by simp [bytesV_len, h]) (Nat.le_refl _)
 rwa [List.append_nil] at q
theorem rd64 {V : Nat → Obj → Prop} {b T : Nat} {l : List UInt8} (hb : V b (row T (bytesV l))) (hl : l.length = 64) : SlRd V (subSl 1 0 64 (.slice (some ⟨b, 0, none⟩) 64 64)) l.length 1 (bytesV l) := by
 have h := ((SlAt.arr (b := b) (k := 0) (n := 64)).sub (sz := 1) (Nat.zero_le 64) (Nat.le_refl 64)).rdB (V := V) (T := T) (l := l) hb (by omega)
 rw [hl]
 simpa [List.take_of_length_le (show l.length ≤ 64 by omega)] using h
theorem sub_rd {V : Nat → Obj → Prop} {v : Value} {f : List UInt8} (h : SlRd V v f.length 1 (bytesV f)) {l k : Nat} (h1 : l ≤ k) (h2 : k ≤ f.length) : SlRd V (subSl 1 l k v) (k - l) 1 (bytesV (cut f l k)) := by
 have q := h.sub h1 h2
 rw [Nat.mul_one, Nat.mul_one, bytesV_drop, bytesV_take] at q
 exact q
theorem sec_lay1 {c : List UInt8} (hc : c.length = 56) : c ++ List.replicate 8 0 = (List.replicate 64 (0 : UInt8)).take 0 ++ c.take 56 ++ (List.replicate 64 (0 : UInt8)).drop (0 + 56) := by
 rw [List.take_zero, List.nil_append, List.take_of_length_le (by omega), List.drop_replicate]
theorem sec_lay2 {c t : List UInt8} (hc : c.length = 56) (ht : t.length = 8) : c ++ t = (c ++ List.replicate 8 (0 : UInt8)).take 56 ++ t.take 8 ++ (c ++ List.replicate 8 (0 : UInt8)).drop (56 + 8) := by
 rw [List.take_append_of_le_length (by omega), List.take_of_length_le (by omega), List.take_of_length_le (by omega), List.drop_of_length_le (by rw [List.length_append, hc, List.length_replicate]; exact Nat.le_refl _), List.append_nil]
set_option maxHeartbeats 4000000 in
theorem seg_Encode {I : Imm} {p : Pt} {v : Value} (hv : SlRd (Im I) v p.data.length 1 (bytesV p.data)) : Spec Tryz.prog 148 [.agg (ptV p v).toArray] I [] (fun v J L => (p.may ∧ ∃ vb, v = .tuple #[vb, .int .i64 0] ∧ Own 5 1 vb (bytesV (penc p)) (penc p).length L) ∨ (¬ p.may ∧ v = .tuple #[.slice none 0 0, .int .i64 70] ∧ I = J ∧ L = [])) := by
 obtain ⟨Av, cv, rfl, _, _, _⟩ := id hv
 have hle : I.le I := Imm.le_refl _
 refine Spec.of Tryz.func148 rfl Tryz.ntmps148 (Nat.le_of_ble_eq_true rfl) (fun F => ?_)
 try simp only [nf]
 dsimp only [argsEnv]
 refine WP.seq ?_; refine WP.region [0, 1, 2] rfl ?_; refine WP.loud rfl rfl ?_; refine Op.box rfl rfl rfl rfl rfl (fun b1 => ?_)
 iterate 2 refine WP.mv rfl rfl ?_
 refine WP.nil (WP.next (WP.seq (WP.seq ?_)))
 refine WP.region [0, 1, 2] rfl ?_; refine WP.vl rfl (Yld.lda rfl ty_ag_223 rfl rfl) ?_; refine WP.loud rfl rfl ?_; refine Op.cl (seg_may hv) rfl Tryz.func116 rfl rfl rfl rfl ?_; rintro v J L1 - ⟨bm, rfl, hbm, rfl, rfl⟩
 try simp only [nf]
 by_cases hbt : bm = true
 ·try rw [hbt]
  refine WP.vl rfl (Yld.not rfl rfl) ?_; refine WP.nil ?_; refine WP.sub [(0, _), (1, _), (2, _), (3, _), (11, _)] ?_ ⟨rfl, rfl, rfl, rfl, rfl, trivial⟩
  refine WP.next ?_; refine WP.condF rfl ?_; refine WP.skip (WP.next (WP.seq ?_))
  have hm := hbm.1 hbt
  have hl := hm.len
  refine WP.region [0, 1] rfl ?_; refine WP.loud rfl rfl ?_; refine Op.make (l := 220) (c := 220) rfl ty_sl_25 ty_el_25 rfl rfl rfl rfl rfl (Nat.le_refl _) (by decide) (by decide) (fun b4 => ?_)
  rw [bytes0']
  refine WP.mv rfl rfl ?_; refine WP.nil ?_; refine WP.sub [(0, _), (1, _), (2, _), (3, _), (4, _), (11, _)] ?_ ⟨rfl, rfl, rfl, rfl, rfl, rfl, trivial⟩
  refine WP.next ?_; refine WP.cut (X := Imm) (fun _ : Imm => [(1, .pointer (some ⟨b1, 0, none⟩)), (4, .slice (some ⟨b4, 0, none⟩) 220 220)]) (fun J => J) (fun _ : Imm => (b1, row 223 (ptV p (.slice Av p.data.length cv))) :: ((b4, row 5 (bytesV (pin p))) :: F)) (fun J => I.le J) ?_ ?_
  ·skip
   refine WD.start Tryzmixed 26 (fun b o => b = b1 ∧ o = row 223 (ptV p (.slice Av p.data.length cv))) (fun _ _ => False) (by rintro _ _ ⟨rfl, rfl⟩; exact zM) (fun _ _ h => h.elim) 27 [false, false, false, false, false, false, false, false, false, false, false, false, false, false, false, false, false, false, false, false, false, false, false, false, false, false, false] rfl rfl ?_; refine WD.vl (i := 0) rfl (Yld.move rfl rfl) ?_; refine WD.vl (i := 3) rfl (Yld.fieldAddr rfl ty_fd_223_4 rfl) ?_; refine WD.val1 (i := 4) rfl rfl rfl rfl zK rfl zK (Yld.load rfl ty_sc_3 rfl (.inl ⟨rfl, rfl⟩) rfl) ?_; refine WD.vl (i := 6) rfl (Yld.fieldAddr rfl ty_fd_223_2 rfl) ?_; refine WD.val1 (i := 7) rfl rfl rfl rfl zK rfl zK (Yld.load rfl ty_sc_3 rfl (.inl ⟨rfl, rfl⟩) rfl) ?_; refine WD.vl (i := 9) rfl (Yld.fieldAddr rfl ty_fd_223_5 rfl) ?_; refine WD.val1 (i := 10) rfl rfl rfl rfl zK rfl zK (Yld.load (v := .slice Av p.data.length cv) rfl ty_sc_25 rfl (.inl ⟨rfl, rfl⟩) rfl) ?_; refine WD.vl (i := 11) rfl (Yld.len rfl ty_sl_25 rfl) ?_; refine WD.vl (i := 13) rfl (Yld.fieldAddr rfl ty_fd_223_1 rfl) ?_; refine WD.val1 (i := 14) rfl rfl rfl rfl zK rfl zK (Yld.load rfl ty_sc_3 rfl (.inl ⟨rfl, rfl⟩) rfl) ?_; refine WD.vl (i := 16) rfl (Yld.fieldAddr rfl ty_fd_223_0 rfl) ?_; refine WD.val1 (i := 17) rfl rfl rfl rfl zK rfl zK (Yld.load rfl ty_sc_3 rfl (.inl ⟨rfl, rfl⟩) rfl) ?_; refine WD.vl (i := 19) rfl (Yld.fieldAddr rfl ty_fd_223_3 rfl) ?_; refine WD.val1 (i := 20) rfl rfl rfl rfl zK rfl zK (Yld.load rfl ty_sc_3 rfl (.inl ⟨rfl, rfl⟩) rfl) ?_
   refine WD.vl (i := 22) rfl (Yld.fieldAddr rfl ty_fd_223_5 rfl) ?_; refine WD.val1 (i := 23) rfl rfl rfl rfl zK rfl zK (Yld.load (v := .slice Av p.data.length cv) rfl ty_sc_25 rfl (.inl ⟨rfl, rfl⟩) rfl) ?_; refine WD.both (i := 1) (j := 5) zK rfl rfl ?_ ?_
   ·refine WP.oper rfl rfl ?_
    refine Op.buildSlice rfl ty_sl_25 ty_el2_25 rfl rfl rfl rfl (vs := [_, _]) rfl (segs := [(0, [_]), (1, [_])]) (cs := bytesV [80, 66]) rfl rfl zS (fun bz => ?_)
    refine WD.gR ?_; refine WD.both (i := 2) (j := 5) zK rfl rfl ?_ ?_
    ·refine WP.oper rfl rfl ?_
     refine Op.mark (cs := bytesV [80, 66]) rfl Tryz.underlying25 zK rfl rfl rfl (by repeat (first | exact Rm.chunk | exact Rm.here | exact Rm.nil0 | apply Rm.skip | apply Rm.skipS)) (fun Jn hJn hmz => ?_)
     replace hle := Imm.le_trans hle hJn
     replace hv := hv.mono (fun b o h => hJn.2 b o h)
     try replace hb5 := hJn.2 _ _ hb5
     try replace hb8 := hJn.2 _ _ hb8
     try replace hb12 := hJn.2 _ _ hb12
     try replace hb15 := hJn.2 _ _ hb15
     try replace hb18 := hJn.2 _ _ hb18
     try replace hb21 := hJn.2 _ _ hb21
     refine WD.gR ?_; refine WD.loud (i := 5) zK rfl rfl rfl ?_; refine Op.cl (super_putI (k := 1) ⟨by decide, by decide⟩ ⟨by have := hm.parts; omega, by have := hm.parts; omega⟩) rfl Tryz.func162 rfl rfl rfl rfl ?_; rintro v J L1 - ⟨b5, rfl, rfl, rfl⟩
     try simp only [nf]
     refine WP.share (fun Jn hJn hb5 => ?_)
     replace hle := Imm.le_trans hle hJn
     replace hv := hv.mono (fun b o h => hJn.2 b o h)
     try replace hb8 := hJn.2 _ _ hb8
     try replace hb12 := hJn.2 _ _ hb12
     try replace hb15 := hJn.2 _ _ hb15
     try replace hb18 := hJn.2 _ _ hb18
     try replace hb21 := hJn.2 _ _ hb21
     try replace hmz := mark_mono hJn hmz
     refine WD.gR ?_; refine WD.loud (i := 8) zK rfl rfl rfl ?_; refine Op.cl (super_putI (k := 1) ⟨by decide, by decide⟩ ⟨hm.index.1, by have := hm.index; have := hm.parts; omega⟩) rfl Tryz.func162 rfl rfl rfl rfl ?_; rintro v J L1 - ⟨b8, rfl, rfl, rfl⟩
     try simp only [nf]
     refine WP.share (fun Jn hJn hb8 => ?_)
     replace hle := Imm.le_trans hle hJn
     replace hv := hv.mono (fun b o h => hJn.2 b o h)
     try replace hb5 := hJn.2 _ _ hb5
     try replace hb12 := hJn.2 _ _ hb12
     try replace hb15 := hJn.2 _ _ hb15
     try replace hb18 := hJn.2 _ _ hb18
     try replace hb21 := hJn.2 _ _ hb21
     try replace hmz := mark_mono hJn hmz
     refine WD.gR ?_; refine WD.loud (i := 12) zK rfl rfl rfl ?_; refine Op.cl (super_put (m := p.data.length) (k := 2) ⟨by decide, by decide⟩ (by omega)) rfl Tryz.func162 rfl rfl rfl rfl ?_; rintro v J L1 - ⟨b12, rfl, rfl, rfl⟩
     try simp only [nf]
     refine WP.share (fun Jn hJn hb12 => ?_)
     replace hle := Imm.le_trans hle hJn
     replace hv := hv.mono (fun b o h => hJn.2 b o h)
     try replace hb5 := hJn.2 _ _ hb5
     try replace hb8 := hJn.2 _ _ hb8
     try replace hb15 := hJn.2 _ _ hb15
     try replace hb18 := hJn.2 _ _ hb18
     try replace hb21 := hJn.2 _ _ hb21
     try replace hmz := mark_mono hJn hmz
     refine WD.gR ?_; refine WD.loud (i := 15) zK rfl rfl rfl ?_; refine Op.cl (super_putI (k := 6) ⟨by decide, by decide⟩ ⟨by have := hm.no; omega, by have := hm.no; omega⟩) rfl Tryz.func162 rfl rfl rfl rfl ?_; rintro v J L1 - ⟨b15, rfl, rfl, rfl⟩
     try simp only [nf]
     refine WP.share (fun Jn hJn hb15 => ?_)
     replace hle := Imm.le_trans hle hJn
     replace hv := hv.mono (fun b o h => hJn.2 b o h)
     try replace hb5 := hJn.2 _ _ hb5
     try replace hb8 := hJn.2 _ _ hb8
     try replace hb12 := hJn.2 _ _ hb12
     try replace hb18 := hJn.2 _ _ hb18
     try replace hb21 := hJn.2 _ _ hb21
     try replace hmz := mark_mono hJn hmz
     refine WD.gR ?_; refine WD.loud (i := 18) zK rfl rfl rfl ?_; refine Op.cl (super_putI (k := 6) ⟨by decide, by decide⟩ ⟨by have := hm.place; omega, by have := hm.place; omega⟩) rfl Tryz.func162 rfl rfl rfl rfl ?_; rintro v J L1 - ⟨b18, rfl, rfl, rfl⟩
     try simp only [nf]
     refine WP.share (fun Jn hJn hb18 => ?_)
     replace hle := Imm.le_trans hle hJn
     replace hv := hv.mono (fun b o h => hJn.2 b o h)
     try replace hb5 := hJn.2 _ _ hb5
     try replace hb8 := hJn.2 _ _ hb8
     try replace hb12 := hJn.2 _ _ hb12
     try replace hb15 := hJn.2 _ _ hb15
     try replace hb21 := hJn.2 _ _ hb21
     try replace hmz := mark_mono hJn hmz
     refine WD.gR ?_; refine WD.loud (i := 21) zK rfl rfl rfl ?_; refine Op.cl (super_putI (k := 4) ⟨by decide, by decide⟩ ⟨by have := hm.era; omega, by have := hm.era; omega⟩) rfl Tryz.func162 rfl rfl rfl rfl ?_; rintro v J L1 - ⟨b21, rfl, rfl, rfl⟩
     try simp only [nf]
     refine WP.share (fun Jn hJn hb21 => ?_)
     replace hle := Imm.le_trans hle hJn
     replace hv := hv.mono (fun b o h => hJn.2 b o h)
     try replace hb5 := hJn.2 _ _ hb5
     try replace hb8 := hJn.2 _ _ hb8
     try replace hb12 := hJn.2 _ _ hb12
     try replace hb15 := hJn.2 _ _ hb15
     try replace hb18 := hJn.2 _ _ hb18
     try replace hmz := mark_mono hJn hmz
     refine WD.gR ?_; refine WD.loud (i := 24) zK rfl rfl rfl ?_; refine Op.buildSlice rfl ty_sl_116 ty_el2_116 rfl rfl rfl rfl (vs := [_, _, _, _, _, _, _, _]) rfl (segs := [(0, [_]), (1, [_]), (2, [_]), (3, [_]), (4, [_]), (5, [_]), (6, [_]), (7, [_])]) (cs := ([(.slice (some ⟨bz, 0, none⟩) 2 2, [80, 66]), (.slice (some ⟨b5, 0, none⟩) 1 1, leB p.parts.toNat 1), (.slice (some ⟨b8, 0, none⟩) 1 1, leB p.index.toNat 1), (.slice (some ⟨b12, 0, none⟩) 2 2, leB p.data.length 2), (.slice (some ⟨b15, 0, none⟩) 6 6, leB p.no.toNat 6), (.slice (some ⟨b18, 0, none⟩) 6 6, leB p.place.toNat 6), (.slice (some ⟨b21, 0, none⟩) 4 4, leB p.era.toNat 4), (.slice Av p.data.length cv, p.data)] : List (Value × List UInt8)).map (·.1)) rfl rfl zS (fun bx => ?_)
     refine WD.gR ?_; refine WD.loud (i := 25) zK rfl rfl rfl ?_; refine Op.cl (seg_cat hmz hb5 hb8 hb12 hb15 hb18 hb21 hv hl.2) rfl Tryz.func152 rfl rfl rfl rfl ?_; rintro v J Lo - ⟨rfl, hown⟩
     try simp only [nf]
     refine WD.gR ?_; refine WD.loud (i := 26) zK rfl rfl rfl ?_; refine Op.copyB (k := 0) (m := 220) (m2 := 22 + p.data.length) (q := 22 + p.data.length) (old := List.replicate 220 0) (new := pin p) (s := phead p ++ p.data) rfl ty_sl_25 rfl rfl rfl rfl (SlAt.blk (Nat.le_refl _)) (hown.rd (by intro p hp; simp [hp])) (Nat.min_eq_left (by omega)) (by rw [List.length_replicate]; omega) (pin_lay hl.2) (by repeat (first | exact Upd.head | apply Upd.tail | apply Upd.tailS)) ?_; refine WD.go (.inl rfl) (fun _ _ h => h.elim) ?_; refine WD.done zK ?_; refine WP.sub [(0, _), (1, _), (2, _), (3, _), (4, _), (11, _)] ?_ ⟨rfl, rfl, rfl, rfl, rfl, rfl, trivial⟩
     exact WP.mt Jn hle ⟨rfl, rfl, trivial⟩ rfl
    ·refine WP.oper rfl rfl ?_
     refine Op.cl (super_putI (k := 1) ⟨by decide, by decide⟩ ⟨by have := hm.parts; omega, by have := hm.parts; omega⟩) rfl Tryz.func162 rfl rfl rfl rfl ?_; rintro v J L1 - ⟨b5, rfl, rfl, rfl⟩
     try simp only [nf]
     refine WP.share (fun Jn hJn hb5 => ?_)
     replace hle := Imm.le_trans hle hJn
     replace hv := hv.mono (fun b o h => hJn.2 b o h)
     try replace hb8 := hJn.2 _ _ hb8
     try replace hb12 := hJn.2 _ _ hb12
     try replace hb15 := hJn.2 _ _ hb15
     try replace hb18 := hJn.2 _ _ hb18
     try replace hb21 := hJn.2 _ _ hb21
     try replace hmz := mark_mono hJn hmz
     refine WD.gR ?_; refine WD.both (i := 2) (j := 8) zK rfl rfl ?_ ?_
     ·refine WP.oper rfl rfl ?_
      refine Op.mark (cs := bytesV [80, 66]) rfl Tryz.underlying25 zK rfl rfl rfl (by repeat (first | exact Rm.chunk | exact Rm.here | exact Rm.nil0 | apply Rm.skip | apply Rm.skipS)) (fun Jn hJn hmz => ?_)
      replace hle := Imm.le_trans hle hJn
      replace hv := hv.mono (fun b o h => hJn.2 b o h)
      try replace hb5 := hJn.2 _ _ hb5
      try replace hb8 := hJn.2 _ _ hb8
      try replace hb12 := hJn.2 _ _ hb12
      try replace hb15 := hJn.2 _ _ hb15
      try replace hb18 := hJn.2 _ _ hb18
      try replace hb21 := hJn.2 _ _ hb21
      refine WD.gR ?_; refine WD.loud (i := 8) zK rfl rfl rfl ?_; refine Op.cl (super_putI (k := 1) ⟨by decide, by decide⟩ ⟨hm.index.1, by have := hm.index; have := hm.parts; omega⟩) rfl Tryz.func162 rfl rfl rfl rfl ?_; rintro v J L1 - ⟨b8, rfl, rfl, rfl⟩
      try simp only [nf]
      refine WP.share (fun Jn hJn hb8 => ?_)
      replace hle := Imm.le_trans hle hJn
      replace hv := hv.mono (fun b o h => hJn.2 b o h)
      try replace hb5 := hJn.2 _ _ hb5
      try replace hb12 := hJn.2 _ _ hb12
      try replace hb15 := hJn.2 _ _ hb15
      try replace hb18 := hJn.2 _ _ hb18
      try replace hb21 := hJn.2 _ _ hb21
      try replace hmz := mark_mono hJn hmz
      refine WD.gR ?_; refine WD.loud (i := 12) zK rfl rfl rfl ?_; refine Op.cl (super_put (m := p.data.length) (k := 2) ⟨by decide, by decide⟩ (by omega)) rfl Tryz.func162 rfl rfl rfl rfl ?_; rintro v J L1 - ⟨b12, rfl, rfl, rfl⟩
      try simp only [nf]
      refine WP.share (fun Jn hJn hb12 => ?_)
      replace hle := Imm.le_trans hle hJn
      replace hv := hv.mono (fun b o h => hJn.2 b o h)
      try replace hb5 := hJn.2 _ _ hb5
      try replace hb8 := hJn.2 _ _ hb8
      try replace hb15 := hJn.2 _ _ hb15
      try replace hb18 := hJn.2 _ _ hb18
      try replace hb21 := hJn.2 _ _ hb21
      try replace hmz := mark_mono hJn hmz
      refine WD.gR ?_; refine WD.loud (i := 15) zK rfl rfl rfl ?_; refine Op.cl (super_putI (k := 6) ⟨by decide, by decide⟩ ⟨by have := hm.no; omega, by have := hm.no; omega⟩) rfl Tryz.func162 rfl rfl rfl rfl ?_; rintro v J L1 - ⟨b15, rfl, rfl, rfl⟩
      try simp only [nf]
      refine WP.share (fun Jn hJn hb15 => ?_)
      replace hle := Imm.le_trans hle hJn
      replace hv := hv.mono (fun b o h => hJn.2 b o h)
      try replace hb5 := hJn.2 _ _ hb5
      try replace hb8 := hJn.2 _ _ hb8
      try replace hb12 := hJn.2 _ _ hb12
      try replace hb18 := hJn.2 _ _ hb18
      try replace hb21 := hJn.2 _ _ hb21
      try replace hmz := mark_mono hJn hmz
      refine WD.gR ?_; refine WD.loud (i := 18) zK rfl rfl rfl ?_; refine Op.cl (super_putI (k := 6) ⟨by decide, by decide⟩ ⟨by have := hm.place; omega, by have := hm.place; omega⟩) rfl Tryz.func162 rfl rfl rfl rfl ?_; rintro v J L1 - ⟨b18, rfl, rfl, rfl⟩
      try simp only [nf]
      refine WP.share (fun Jn hJn hb18 => ?_)
      replace hle := Imm.le_trans hle hJn
      replace hv := hv.mono (fun b o h => hJn.2 b o h)
      try replace hb5 := hJn.2 _ _ hb5
      try replace hb8 := hJn.2 _ _ hb8
      try replace hb12 := hJn.2 _ _ hb12
      try replace hb15 := hJn.2 _ _ hb15
      try replace hb21 := hJn.2 _ _ hb21
      try replace hmz := mark_mono hJn hmz
      refine WD.gR ?_; refine WD.loud (i := 21) zK rfl rfl rfl ?_; refine Op.cl (super_putI (k := 4) ⟨by decide, by decide⟩ ⟨by have := hm.era; omega, by have := hm.era; omega⟩) rfl Tryz.func162 rfl rfl rfl rfl ?_; rintro v J L1 - ⟨b21, rfl, rfl, rfl⟩
      try simp only [nf]
      refine WP.share (fun Jn hJn hb21 => ?_)
      replace hle := Imm.le_trans hle hJn
      replace hv := hv.mono (fun b o h => hJn.2 b o h)
      try replace hb5 := hJn.2 _ _ hb5
      try replace hb8 := hJn.2 _ _ hb8
      try replace hb12 := hJn.2 _ _ hb12
      try replace hb15 := hJn.2 _ _ hb15
      try replace hb18 := hJn.2 _ _ hb18
      try replace hmz := mark_mono hJn hmz
      refine WD.gR ?_; refine WD.loud (i := 24) zK rfl rfl rfl ?_; refine Op.buildSlice rfl ty_sl_116 ty_el2_116 rfl rfl rfl rfl (vs := [_, _, _, _, _, _, _, _]) rfl (segs := [(0, [_]), (1, [_]), (2, [_]), (3, [_]), (4, [_]), (5, [_]), (6, [_]), (7, [_])]) (cs := ([(.slice (some ⟨bz, 0, none⟩) 2 2, [80, 66]), (.slice (some ⟨b5, 0, none⟩) 1 1, leB p.parts.toNat 1), (.slice (some ⟨b8, 0, none⟩) 1 1, leB p.index.toNat 1), (.slice (some ⟨b12, 0, none⟩) 2 2, leB p.data.length 2), (.slice (some ⟨b15, 0, none⟩) 6 6, leB p.no.toNat 6), (.slice (some ⟨b18, 0, none⟩) 6 6, leB p.place.toNat 6), (.slice (some ⟨b21, 0, none⟩) 4 4, leB p.era.toNat 4), (.slice Av p.data.length cv, p.data)] : List (Value × List UInt8)).map (·.1)) rfl rfl zS (fun bx => ?_)
      refine WD.gR ?_; refine WD.loud (i := 25) zK rfl rfl rfl ?_; refine Op.cl (seg_cat hmz hb5 hb8 hb12 hb15 hb18 hb21 hv hl.2) rfl Tryz.func152 rfl rfl rfl rfl ?_; rintro v J Lo - ⟨rfl, hown⟩
      try simp only [nf]
      refine WD.gR ?_; refine WD.loud (i := 26) zK rfl rfl rfl ?_; refine Op.copyB (k := 0) (m := 220) (m2 := 22 + p.data.length) (q := 22 + p.data.length) (old := List.replicate 220 0) (new := pin p) (s := phead p ++ p.data) rfl ty_sl_25 rfl rfl rfl rfl (SlAt.blk (Nat.le_refl _)) (hown.rd (by intro p hp; simp [hp])) (Nat.min_eq_left (by omega)) (by rw [List.length_replicate]; omega) (pin_lay hl.2) (by repeat (first | exact Upd.head | apply Upd.tail | apply Upd.tailS)) ?_; refine WD.go (.inl rfl) (fun _ _ h => h.elim) ?_; refine WD.done zK ?_; refine WP.sub [(0, _), (1, _), (2, _), (3, _), (4, _), (11, _)] ?_ ⟨rfl, rfl, rfl, rfl, rfl, rfl, trivial⟩
      exact WP.mt Jn hle ⟨rfl, rfl, trivial⟩ rfl
     ·refine WP.oper rfl rfl ?_
      refine Op.cl (super_putI (k := 1) ⟨by decide, by decide⟩ ⟨hm.index.1, by have := hm.index; have := hm.parts; omega⟩) rfl Tryz.func162 rfl rfl rfl rfl ?_; rintro v J L1 - ⟨b8, rfl, rfl, rfl⟩
      try simp only [nf]
      refine WP.share (fun Jn hJn hb8 => ?_)
      replace hle := Imm.le_trans hle hJn
      replace hv := hv.mono (fun b o h => hJn.2 b o h)
      try replace hb5 := hJn.2 _ _ hb5
      try replace hb12 := hJn.2 _ _ hb12
      try replace hb15 := hJn.2 _ _ hb15
      try replace hb18 := hJn.2 _ _ hb18
      try replace hb21 := hJn.2 _ _ hb21
      try replace hmz := mark_mono hJn hmz
      refine WD.gR ?_; refine WD.both (i := 2) (j := 12) zK rfl rfl ?_ ?_
      ·refine WP.oper rfl rfl ?_
       refine Op.mark (cs := bytesV [80, 66]) rfl Tryz.underlying25 zK rfl rfl rfl (by repeat (first | exact Rm.chunk | exact Rm.here | exact Rm.nil0 | apply Rm.skip | apply Rm.skipS)) (fun Jn hJn hmz => ?_)
       replace hle := Imm.le_trans hle hJn
       replace hv := hv.mono (fun b o h => hJn.2 b o h)
       try replace hb5 := hJn.2 _ _ hb5
       try replace hb8 := hJn.2 _ _ hb8
       try replace hb12 := hJn.2 _ _ hb12
       try replace hb15 := hJn.2 _ _ hb15
       try replace hb18 := hJn.2 _ _ hb18
       try replace hb21 := hJn.2 _ _ hb21
       refine WD.gR ?_; refine WD.loud (i := 12) zK rfl rfl rfl ?_; refine Op.cl (super_put (m := p.data.length) (k := 2) ⟨by decide, by decide⟩ (by omega)) rfl Tryz.func162 rfl rfl rfl rfl ?_; rintro v J L1 - ⟨b12, rfl, rfl, rfl⟩
       try simp only [nf]
       refine WP.share (fun Jn hJn hb12 => ?_)
       replace hle := Imm.le_trans hle hJn
       replace hv := hv.mono (fun b o h => hJn.2 b o h)
       try replace hb5 := hJn.2 _ _ hb5
       try replace hb8 := hJn.2 _ _ hb8
       try replace hb15 := hJn.2 _ _ hb15
       try replace hb18 := hJn.2 _ _ hb18
       try replace hb21 := hJn.2 _ _ hb21
       try replace hmz := mark_mono hJn hmz
       refine WD.gR ?_; refine WD.loud (i := 15) zK rfl rfl rfl ?_; refine Op.cl (super_putI (k := 6) ⟨by decide, by decide⟩ ⟨by have := hm.no; omega, by have := hm.no; omega⟩) rfl Tryz.func162 rfl rfl rfl rfl ?_; rintro v J L1 - ⟨b15, rfl, rfl, rfl⟩
       try simp only [nf]
       refine WP.share (fun Jn hJn hb15 => ?_)
       replace hle := Imm.le_trans hle hJn
       replace hv := hv.mono (fun b o h => hJn.2 b o h)
       try replace hb5 := hJn.2 _ _ hb5
       try replace hb8 := hJn.2 _ _ hb8
       try replace hb12 := hJn.2 _ _ hb12
       try replace hb18 := hJn.2 _ _ hb18
       try replace hb21 := hJn.2 _ _ hb21
       try replace hmz := mark_mono hJn hmz
       refine WD.gR ?_; refine WD.loud (i := 18) zK rfl rfl rfl ?_; refine Op.cl (super_putI (k := 6) ⟨by decide, by decide⟩ ⟨by have := hm.place; omega, by have := hm.place; omega⟩) rfl Tryz.func162 rfl rfl rfl rfl ?_; rintro v J L1 - ⟨b18, rfl, rfl, rfl⟩
       try simp only [nf]
       refine WP.share (fun Jn hJn hb18 => ?_)
       replace hle := Imm.le_trans hle hJn
       replace hv := hv.mono (fun b o h => hJn.2 b o h)
       try replace hb5 := hJn.2 _ _ hb5
       try replace hb8 := hJn.2 _ _ hb8
       try replace hb12 := hJn.2 _ _ hb12
       try replace hb15 := hJn.2 _ _ hb15
       try replace hb21 := hJn.2 _ _ hb21
       try replace hmz := mark_mono hJn hmz
       refine WD.gR ?_; refine WD.loud (i := 21) zK rfl rfl rfl ?_; refine Op.cl (super_putI (k := 4) ⟨by decide, by decide⟩ ⟨by have := hm.era; omega, by have := hm.era; omega⟩) rfl Tryz.func162 rfl rfl rfl rfl ?_; rintro v J L1 - ⟨b21, rfl, rfl, rfl⟩
       try simp only [nf]
       refine WP.share (fun Jn hJn hb21 => ?_)
       replace hle := Imm.le_trans hle hJn
       replace hv := hv.mono (fun b o h => hJn.2 b o h)
       try replace hb5 := hJn.2 _ _ hb5
       try replace hb8 := hJn.2 _ _ hb8
       try replace hb12 := hJn.2 _ _ hb12
       try replace hb15 := hJn.2 _ _ hb15
       try replace hb18 := hJn.2 _ _ hb18
       try replace hmz := mark_mono hJn hmz
       refine WD.gR ?_; refine WD.loud (i := 24) zK rfl rfl rfl ?_; refine Op.buildSlice rfl ty_sl_116 ty_el2_116 rfl rfl rfl rfl (vs := [_, _, _, _, _, _, _, _]) rfl (segs := [(0, [_]), (1, [_]), (2, [_]), (3, [_]), (4, [_]), (5, [_]), (6, [_]), (7, [_])]) (cs := ([(.slice (some ⟨bz, 0, none⟩) 2 2, [80, 66]), (.slice (some ⟨b5, 0, none⟩) 1 1, leB p.parts.toNat 1), (.slice (some ⟨b8, 0, none⟩) 1 1, leB p.index.toNat 1), (.slice (some ⟨b12, 0, none⟩) 2 2, leB p.data.length 2), (.slice (some ⟨b15, 0, none⟩) 6 6, leB p.no.toNat 6), (.slice (some ⟨b18, 0, none⟩) 6 6, leB p.place.toNat 6), (.slice (some ⟨b21, 0, none⟩) 4 4, leB p.era.toNat 4), (.slice Av p.data.length cv, p.data)] : List (Value × List UInt8)).map (·.1)) rfl rfl zS (fun bx => ?_)
       refine WD.gR ?_; refine WD.loud (i := 25) zK rfl rfl rfl ?_; refine Op.cl (seg_cat hmz hb5 hb8 hb12 hb15 hb18 hb21 hv hl.2) rfl Tryz.func152 rfl rfl rfl rfl ?_; rintro v J Lo - ⟨rfl, hown⟩
       try simp only [nf]
       refine WD.gR ?_; refine WD.loud (i := 26) zK rfl rfl rfl ?_; refine Op.copyB (k := 0) (m := 220) (m2 := 22 + p.data.length) (q := 22 + p.data.length) (old := List.replicate 220 0) (new := pin p) (s := phead p ++ p.data) rfl ty_sl_25 rfl rfl rfl rfl (SlAt.blk (Nat.le_refl _)) (hown.rd (by intro p hp; simp [hp])) (Nat.min_eq_left (by omega)) (by rw [List.length_replicate]; omega) (pin_lay hl.2) (by repeat (first | exact Upd.head | apply Upd.tail | apply Upd.tailS)) ?_; refine WD.go (.inl rfl) (fun _ _ h => h.elim) ?_; refine WD.done zK ?_; refine WP.sub [(0, _), (1, _), (2, _), (3, _), (4, _), (11, _)] ?_ ⟨rfl, rfl, rfl, rfl, rfl, rfl, trivial⟩
       exact WP.mt Jn hle ⟨rfl, rfl, trivial⟩ rfl
      ·refine WP.oper rfl rfl ?_
       refine Op.cl (super_put (m := p.data.length) (k := 2) ⟨by decide, by decide⟩ (by omega)) rfl Tryz.func162 rfl rfl rfl rfl ?_; rintro v J L1 - ⟨b12, rfl, rfl, rfl⟩
       try simp only [nf]
       refine WP.share (fun Jn hJn hb12 => ?_)
       replace hle := Imm.le_trans hle hJn
       replace hv := hv.mono (fun b o h => hJn.2 b o h)
       try replace hb5 := hJn.2 _ _ hb5
       try replace hb8 := hJn.2 _ _ hb8
       try replace hb15 := hJn.2 _ _ hb15
       try replace hb18 := hJn.2 _ _ hb18
       try replace hb21 := hJn.2 _ _ hb21
       try replace hmz := mark_mono hJn hmz
       refine WD.gR ?_; refine WD.both (i := 2) (j := 15) zK rfl rfl ?_ ?_
       ·refine WP.oper rfl rfl ?_
        refine Op.mark (cs := bytesV [80, 66]) rfl Tryz.underlying25 zK rfl rfl rfl (by repeat (first | exact Rm.chunk | exact Rm.here | exact Rm.nil0 | apply Rm.skip | apply Rm.skipS)) (fun Jn hJn hmz => ?_)
        replace hle := Imm.le_trans hle hJn
        replace hv := hv.mono (fun b o h => hJn.2 b o h)
        try replace hb5 := hJn.2 _ _ hb5
        try replace hb8 := hJn.2 _ _ hb8
        try replace hb12 := hJn.2 _ _ hb12
        try replace hb15 := hJn.2 _ _ hb15
        try replace hb18 := hJn.2 _ _ hb18
        try replace hb21 := hJn.2 _ _ hb21
        refine WD.gR ?_; refine WD.loud (i := 15) zK rfl rfl rfl ?_; refine Op.cl (super_putI (k := 6) ⟨by decide, by decide⟩ ⟨by have := hm.no; omega, by have := hm.no; omega⟩) rfl Tryz.func162 rfl rfl rfl rfl ?_; rintro v J L1 - ⟨b15, rfl, rfl, rfl⟩
        try simp only [nf]
        refine WP.share (fun Jn hJn hb15 => ?_)
        replace hle := Imm.le_trans hle hJn
        replace hv := hv.mono (fun b o h => hJn.2 b o h)
        try replace hb5 := hJn.2 _ _ hb5
        try replace hb8 := hJn.2 _ _ hb8
        try replace hb12 := hJn.2 _ _ hb12
        try replace hb18 := hJn.2 _ _ hb18
        try replace hb21 := hJn.2 _ _ hb21
        try replace hmz := mark_mono hJn hmz
        refine WD.gR ?_; refine WD.loud (i := 18) zK rfl rfl rfl ?_; refine Op.cl (super_putI (k := 6) ⟨by decide, by decide⟩ ⟨by have := hm.place; omega, by have := hm.place; omega⟩) rfl Tryz.func162 rfl rfl rfl rfl ?_; rintro v J L1 - ⟨b18, rfl, rfl, rfl⟩
        try simp only [nf]
        refine WP.share (fun Jn hJn hb18 => ?_)
        replace hle := Imm.le_trans hle hJn
        replace hv := hv.mono (fun b o h => hJn.2 b o h)
        try replace hb5 := hJn.2 _ _ hb5
        try replace hb8 := hJn.2 _ _ hb8
        try replace hb12 := hJn.2 _ _ hb12
        try replace hb15 := hJn.2 _ _ hb15
        try replace hb21 := hJn.2 _ _ hb21
        try replace hmz := mark_mono hJn hmz
        refine WD.gR ?_; refine WD.loud (i := 21) zK rfl rfl rfl ?_; refine Op.cl (super_putI (k := 4) ⟨by decide, by decide⟩ ⟨by have := hm.era; omega, by have := hm.era; omega⟩) rfl Tryz.func162 rfl rfl rfl rfl ?_; rintro v J L1 - ⟨b21, rfl, rfl, rfl⟩
        try simp only [nf]
        refine WP.share (fun Jn hJn hb21 => ?_)
        replace hle := Imm.le_trans hle hJn
        replace hv := hv.mono (fun b o h => hJn.2 b o h)
        try replace hb5 := hJn.2 _ _ hb5
        try replace hb8 := hJn.2 _ _ hb8
        try replace hb12 := hJn.2 _ _ hb12
        try replace hb15 := hJn.2 _ _ hb15
        try replace hb18 := hJn.2 _ _ hb18
        try replace hmz := mark_mono hJn hmz
        refine WD.gR ?_; refine WD.loud (i := 24) zK rfl rfl rfl ?_; refine Op.buildSlice rfl ty_sl_116 ty_el2_116 rfl rfl rfl rfl (vs := [_, _, _, _, _, _, _, _]) rfl (segs := [(0, [_]), (1, [_]), (2, [_]), (3, [_]), (4, [_]), (5, [_]), (6, [_]), (7, [_])]) (cs := ([(.slice (some ⟨bz, 0, none⟩) 2 2, [80, 66]), (.slice (some ⟨b5, 0, none⟩) 1 1, leB p.parts.toNat 1), (.slice (some ⟨b8, 0, none⟩) 1 1, leB p.index.toNat 1), (.slice (some ⟨b12, 0, none⟩) 2 2, leB p.data.length 2), (.slice (some ⟨b15, 0, none⟩) 6 6, leB p.no.toNat 6), (.slice (some ⟨b18, 0, none⟩) 6 6, leB p.place.toNat 6), (.slice (some ⟨b21, 0, none⟩) 4 4, leB p.era.toNat 4), (.slice Av p.data.length cv, p.data)] : List (Value × List UInt8)).map (·.1)) rfl rfl zS (fun bx => ?_)
        refine WD.gR ?_; refine WD.loud (i := 25) zK rfl rfl rfl ?_; refine Op.cl (seg_cat hmz hb5 hb8 hb12 hb15 hb18 hb21 hv hl.2) rfl Tryz.func152 rfl rfl rfl rfl ?_; rintro v J Lo - ⟨rfl, hown⟩
        try simp only [nf]
        refine WD.gR ?_; refine WD.loud (i := 26) zK rfl rfl rfl ?_; refine Op.copyB (k := 0) (m := 220) (m2 := 22 + p.data.length) (q := 22 + p.data.length) (old := List.replicate 220 0) (new := pin p) (s := phead p ++ p.data) rfl ty_sl_25 rfl rfl rfl rfl (SlAt.blk (Nat.le_refl _)) (hown.rd (by intro p hp; simp [hp])) (Nat.min_eq_left (by omega)) (by rw [List.length_replicate]; omega) (pin_lay hl.2) (by repeat (first | exact Upd.head | apply Upd.tail | apply Upd.tailS)) ?_; refine WD.go (.inl rfl) (fun _ _ h => h.elim) ?_; refine WD.done zK ?_; refine WP.sub [(0, _), (1, _), (2, _), (3, _), (4, _), (11, _)] ?_ ⟨rfl, rfl, rfl, rfl, rfl, rfl, trivial⟩
        exact WP.mt Jn hle ⟨rfl, rfl, trivial⟩ rfl
       ·refine WP.oper rfl rfl ?_
        refine Op.cl (super_putI (k := 6) ⟨by decide, by decide⟩ ⟨by have := hm.no; omega, by have := hm.no; omega⟩) rfl Tryz.func162 rfl rfl rfl rfl ?_; rintro v J L1 - ⟨b15, rfl, rfl, rfl⟩
        try simp only [nf]
        refine WP.share (fun Jn hJn hb15 => ?_)
        replace hle := Imm.le_trans hle hJn
        replace hv := hv.mono (fun b o h => hJn.2 b o h)
        try replace hb5 := hJn.2 _ _ hb5
        try replace hb8 := hJn.2 _ _ hb8
        try replace hb12 := hJn.2 _ _ hb12
        try replace hb18 := hJn.2 _ _ hb18
        try replace hb21 := hJn.2 _ _ hb21
        try replace hmz := mark_mono hJn hmz
        refine WD.gR ?_; refine WD.both (i := 2) (j := 18) zK rfl rfl ?_ ?_
        ·refine WP.oper rfl rfl ?_
         refine Op.mark (cs := bytesV [80, 66]) rfl Tryz.underlying25 zK rfl rfl rfl (by repeat (first | exact Rm.chunk | exact Rm.here | exact Rm.nil0 | apply Rm.skip | apply Rm.skipS)) (fun Jn hJn hmz => ?_)
         replace hle := Imm.le_trans hle hJn
         replace hv := hv.mono (fun b o h => hJn.2 b o h)
         try replace hb5 := hJn.2 _ _ hb5
         try replace hb8 := hJn.2 _ _ hb8
         try replace hb12 := hJn.2 _ _ hb12
         try replace hb15 := hJn.2 _ _ hb15
         try replace hb18 := hJn.2 _ _ hb18
         try replace hb21 := hJn.2 _ _ hb21
         refine WD.gR ?_; refine WD.loud (i := 18) zK rfl rfl rfl ?_; refine Op.cl (super_putI (k := 6) ⟨by decide, by decide⟩ ⟨by have := hm.place; omega, by have := hm.place; omega⟩) rfl Tryz.func162 rfl rfl rfl rfl ?_; rintro v J L1 - ⟨b18, rfl, rfl, rfl⟩
         try simp only [nf]
         refine WP.share (fun Jn hJn hb18 => ?_)
         replace hle := Imm.le_trans hle hJn
         replace hv := hv.mono (fun b o h => hJn.2 b o h)
         try replace hb5 := hJn.2 _ _ hb5
         try replace hb8 := hJn.2 _ _ hb8
         try replace hb12 := hJn.2 _ _ hb12
         try replace hb15 := hJn.2 _ _ hb15
         try replace hb21 := hJn.2 _ _ hb21
         try replace hmz := mark_mono hJn hmz
         refine WD.gR ?_; refine WD.loud (i := 21) zK rfl rfl rfl ?_; refine Op.cl (super_putI (k := 4) ⟨by decide, by decide⟩ ⟨by have := hm.era; omega, by have := hm.era; omega⟩) rfl Tryz.func162 rfl rfl rfl rfl ?_; rintro v J L1 - ⟨b21, rfl, rfl, rfl⟩
         try simp only [nf]
         refine WP.share (fun Jn hJn hb21 => ?_)
         replace hle := Imm.le_trans hle hJn
         replace hv := hv.mono (fun b o h => hJn.2 b o h)
         try replace hb5 := hJn.2 _ _ hb5
         try replace hb8 := hJn.2 _ _ hb8
         try replace hb12 := hJn.2 _ _ hb12
         try replace hb15 := hJn.2 _ _ hb15
         try replace hb18 := hJn.2 _ _ hb18
         try replace hmz := mark_mono hJn hmz
         refine WD.gR ?_; refine WD.loud (i := 24) zK rfl rfl rfl ?_; refine Op.buildSlice rfl ty_sl_116 ty_el2_116 rfl rfl rfl rfl (vs := [_, _, _, _, _, _, _, _]) rfl (segs := [(0, [_]), (1, [_]), (2, [_]), (3, [_]), (4, [_]), (5, [_]), (6, [_]), (7, [_])]) (cs := ([(.slice (some ⟨bz, 0, none⟩) 2 2, [80, 66]), (.slice (some ⟨b5, 0, none⟩) 1 1, leB p.parts.toNat 1), (.slice (some ⟨b8, 0, none⟩) 1 1, leB p.index.toNat 1), (.slice (some ⟨b12, 0, none⟩) 2 2, leB p.data.length 2), (.slice (some ⟨b15, 0, none⟩) 6 6, leB p.no.toNat 6), (.slice (some ⟨b18, 0, none⟩) 6 6, leB p.place.toNat 6), (.slice (some ⟨b21, 0, none⟩) 4 4, leB p.era.toNat 4), (.slice Av p.data.length cv, p.data)] : List (Value × List UInt8)).map (·.1)) rfl rfl zS (fun bx => ?_)
         refine WD.gR ?_; refine WD.loud (i := 25) zK rfl rfl rfl ?_; refine Op.cl (seg_cat hmz hb5 hb8 hb12 hb15 hb18 hb21 hv hl.2) rfl Tryz.func152 rfl rfl rfl rfl ?_; rintro v J Lo - ⟨rfl, hown⟩
         try simp only [nf]
         refine WD.gR ?_; refine WD.loud (i := 26) zK rfl rfl rfl ?_; refine Op.copyB (k := 0) (m := 220) (m2 := 22 + p.data.length) (q := 22 + p.data.length) (old := List.replicate 220 0) (new := pin p) (s := phead p ++ p.data) rfl ty_sl_25 rfl rfl rfl rfl (SlAt.blk (Nat.le_refl _)) (hown.rd (by intro p hp; simp [hp])) (Nat.min_eq_left (by omega)) (by rw [List.length_replicate]; omega) (pin_lay hl.2) (by repeat (first | exact Upd.head | apply Upd.tail | apply Upd.tailS)) ?_; refine WD.go (.inl rfl) (fun _ _ h => h.elim) ?_; refine WD.done zK ?_; refine WP.sub [(0, _), (1, _), (2, _), (3, _), (4, _), (11, _)] ?_ ⟨rfl, rfl, rfl, rfl, rfl, rfl, trivial⟩
         exact WP.mt Jn hle ⟨rfl, rfl, trivial⟩ rfl
        ·refine WP.oper rfl rfl ?_
         refine Op.cl (super_putI (k := 6) ⟨by decide, by decide⟩ ⟨by have := hm.place; omega, by have := hm.place; omega⟩) rfl Tryz.func162 rfl rfl rfl rfl ?_; rintro v J L1 - ⟨b18, rfl, rfl, rfl⟩
         try simp only [nf]
         refine WP.share (fun Jn hJn hb18 => ?_)
         replace hle := Imm.le_trans hle hJn
         replace hv := hv.mono (fun b o h => hJn.2 b o h)
         try replace hb5 := hJn.2 _ _ hb5
         try replace hb8 := hJn.2 _ _ hb8
         try replace hb12 := hJn.2 _ _ hb12
         try replace hb15 := hJn.2 _ _ hb15
         try replace hb21 := hJn.2 _ _ hb21
         try replace hmz := mark_mono hJn hmz
         refine WD.gR ?_; refine WD.both (i := 2) (j := 21) zK rfl rfl ?_ ?_
         ·refine WP.oper rfl rfl ?_
          refine Op.mark (cs := bytesV [80, 66]) rfl Tryz.underlying25 zK rfl rfl rfl (by repeat (first | exact Rm.chunk | exact Rm.here | exact Rm.nil0 | apply Rm.skip | apply Rm.skipS)) (fun Jn hJn hmz => ?_)
          replace hle := Imm.le_trans hle hJn
          replace hv := hv.mono (fun b o h => hJn.2 b o h)
          try replace hb5 := hJn.2 _ _ hb5
          try replace hb8 := hJn.2 _ _ hb8
          try replace hb12 := hJn.2 _ _ hb12
          try replace hb15 := hJn.2 _ _ hb15
          try replace hb18 := hJn.2 _ _ hb18
          try replace hb21 := hJn.2 _ _ hb21
          refine WD.gR ?_; refine WD.loud (i := 21) zK rfl rfl rfl ?_; refine Op.cl (super_putI (k := 4) ⟨by decide, by decide⟩ ⟨by have := hm.era; omega, by have := hm.era; omega⟩) rfl Tryz.func162 rfl rfl rfl rfl ?_; rintro v J L1 - ⟨b21, rfl, rfl, rfl⟩
          try simp only [nf]
          refine WP.share (fun Jn hJn hb21 => ?_)
          replace hle := Imm.le_trans hle hJn
          replace hv := hv.mono (fun b o h => hJn.2 b o h)
          try replace hb5 := hJn.2 _ _ hb5
          try replace hb8 := hJn.2 _ _ hb8
          try replace hb12 := hJn.2 _ _ hb12
          try replace hb15 := hJn.2 _ _ hb15
          try replace hb18 := hJn.2 _ _ hb18
          try replace hmz := mark_mono hJn hmz
          refine WD.gR ?_; refine WD.loud (i := 24) zK rfl rfl rfl ?_; refine Op.buildSlice rfl ty_sl_116 ty_el2_116 rfl rfl rfl rfl (vs := [_, _, _, _, _, _, _, _]) rfl (segs := [(0, [_]), (1, [_]), (2, [_]), (3, [_]), (4, [_]), (5, [_]), (6, [_]), (7, [_])]) (cs := ([(.slice (some ⟨bz, 0, none⟩) 2 2, [80, 66]), (.slice (some ⟨b5, 0, none⟩) 1 1, leB p.parts.toNat 1), (.slice (some ⟨b8, 0, none⟩) 1 1, leB p.index.toNat 1), (.slice (some ⟨b12, 0, none⟩) 2 2, leB p.data.length 2), (.slice (some ⟨b15, 0, none⟩) 6 6, leB p.no.toNat 6), (.slice (some ⟨b18, 0, none⟩) 6 6, leB p.place.toNat 6), (.slice (some ⟨b21, 0, none⟩) 4 4, leB p.era.toNat 4), (.slice Av p.data.length cv, p.data)] : List (Value × List UInt8)).map (·.1)) rfl rfl zS (fun bx => ?_)
          refine WD.gR ?_; refine WD.loud (i := 25) zK rfl rfl rfl ?_; refine Op.cl (seg_cat hmz hb5 hb8 hb12 hb15 hb18 hb21 hv hl.2) rfl Tryz.func152 rfl rfl rfl rfl ?_; rintro v J Lo - ⟨rfl, hown⟩
          try simp only [nf]
          refine WD.gR ?_; refine WD.loud (i := 26) zK rfl rfl rfl ?_; refine Op.copyB (k := 0) (m := 220) (m2 := 22 + p.data.length) (q := 22 + p.data.length) (old := List.replicate 220 0) (new := pin p) (s := phead p ++ p.data) rfl ty_sl_25 rfl rfl rfl rfl (SlAt.blk (Nat.le_refl _)) (hown.rd (by intro p hp; simp [hp])) (Nat.min_eq_left (by omega)) (by rw [List.length_replicate]; omega) (pin_lay hl.2) (by repeat (first | exact Upd.head | apply Upd.tail | apply Upd.tailS)) ?_; refine WD.go (.inl rfl) (fun _ _ h => h.elim) ?_; refine WD.done zK ?_; refine WP.sub [(0, _), (1, _), (2, _), (3, _), (4, _), (11, _)] ?_ ⟨rfl, rfl, rfl, rfl, rfl, rfl, trivial⟩
          exact WP.mt Jn hle ⟨rfl, rfl, trivial⟩ rfl
         ·refine WP.oper rfl rfl ?_
          refine Op.cl (super_putI (k := 4) ⟨by decide, by decide⟩ ⟨by have := hm.era; omega, by have := hm.era; omega⟩) rfl Tryz.func162 rfl rfl rfl rfl ?_; rintro v J L1 - ⟨b21, rfl, rfl, rfl⟩
          try simp only [nf]
          refine WP.share (fun Jn hJn hb21 => ?_)
          replace hle := Imm.le_trans hle hJn
          replace hv := hv.mono (fun b o h => hJn.2 b o h)
          try replace hb5 := hJn.2 _ _ hb5
          try replace hb8 := hJn.2 _ _ hb8
          try replace hb12 := hJn.2 _ _ hb12
          try replace hb15 := hJn.2 _ _ hb15
          try replace hb18 := hJn.2 _ _ hb18
          try replace hmz := mark_mono hJn hmz
          refine WD.gR ?_; refine WD.loud (i := 2) zK rfl rfl rfl ?_; refine Op.mark (cs := bytesV [80, 66]) rfl Tryz.underlying25 zK rfl rfl rfl (by repeat (first | exact Rm.chunk | exact Rm.here | exact Rm.nil0 | apply Rm.skip | apply Rm.skipS)) (fun Jn hJn hmz => ?_)
          replace hle := Imm.le_trans hle hJn
          replace hv := hv.mono (fun b o h => hJn.2 b o h)
          try replace hb5 := hJn.2 _ _ hb5
          try replace hb8 := hJn.2 _ _ hb8
          try replace hb12 := hJn.2 _ _ hb12
          try replace hb15 := hJn.2 _ _ hb15
          try replace hb18 := hJn.2 _ _ hb18
          try replace hb21 := hJn.2 _ _ hb21
          refine WD.gR ?_; refine WD.loud (i := 24) zK rfl rfl rfl ?_; refine Op.buildSlice rfl ty_sl_116 ty_el2_116 rfl rfl rfl rfl (vs := [_, _, _, _, _, _, _, _]) rfl (segs := [(0, [_]), (1, [_]), (2, [_]), (3, [_]), (4, [_]), (5, [_]), (6, [_]), (7, [_])]) (cs := ([(.slice (some ⟨bz, 0, none⟩) 2 2, [80, 66]), (.slice (some ⟨b5, 0, none⟩) 1 1, leB p.parts.toNat 1), (.slice (some ⟨b8, 0, none⟩) 1 1, leB p.index.toNat 1), (.slice (some ⟨b12, 0, none⟩) 2 2, leB p.data.length 2), (.slice (some ⟨b15, 0, none⟩) 6 6, leB p.no.toNat 6), (.slice (some ⟨b18, 0, none⟩) 6 6, leB p.place.toNat 6), (.slice (some ⟨b21, 0, none⟩) 4 4, leB p.era.toNat 4), (.slice Av p.data.length cv, p.data)] : List (Value × List UInt8)).map (·.1)) rfl rfl zS (fun bx => ?_)
          refine WD.gR ?_; refine WD.loud (i := 25) zK rfl rfl rfl ?_; refine Op.cl (seg_cat hmz hb5 hb8 hb12 hb15 hb18 hb21 hv hl.2) rfl Tryz.func152 rfl rfl rfl rfl ?_; rintro v J Lo - ⟨rfl, hown⟩
          try simp only [nf]
          refine WD.gR ?_; refine WD.loud (i := 26) zK rfl rfl rfl ?_; refine Op.copyB (k := 0) (m := 220) (m2 := 22 + p.data.length) (q := 22 + p.data.length) (old := List.replicate 220 0) (new := pin p) (s := phead p ++ p.data) rfl ty_sl_25 rfl rfl rfl rfl (SlAt.blk (Nat.le_refl _)) (hown.rd (by intro p hp; simp [hp])) (Nat.min_eq_left (by omega)) (by rw [List.length_replicate]; omega) (pin_lay hl.2) (by repeat (first | exact Upd.head | apply Upd.tail | apply Upd.tailS)) ?_; refine WD.go (.inl rfl) (fun _ _ h => h.elim) ?_; refine WD.done zK ?_; refine WP.sub [(0, _), (1, _), (2, _), (3, _), (4, _), (11, _)] ?_ ⟨rfl, rfl, rfl, rfl, rfl, rfl, trivial⟩
          exact WP.mt Jn hle ⟨rfl, rfl, trivial⟩ rfl
   ·refine WP.oper rfl rfl ?_
    refine Op.cl (super_putI (k := 1) ⟨by decide, by decide⟩ ⟨by have := hm.parts; omega, by have := hm.parts; omega⟩) rfl Tryz.func162 rfl rfl rfl rfl ?_; rintro v J L1 - ⟨b5, rfl, rfl, rfl⟩
    try simp only [nf]
    refine WP.share (fun Jn hJn hb5 => ?_)
    replace hle := Imm.le_trans hle hJn
    replace hv := hv.mono (fun b o h => hJn.2 b o h)
    try replace hb8 := hJn.2 _ _ hb8
    try replace hb12 := hJn.2 _ _ hb12
    try replace hb15 := hJn.2 _ _ hb15
    try replace hb18 := hJn.2 _ _ hb18
    try replace hb21 := hJn.2 _ _ hb21
    try replace hmz := mark_mono hJn hmz
    refine WD.gR ?_; refine WD.both (i := 1) (j := 8) zK rfl rfl ?_ ?_
    ·refine WP.oper rfl rfl ?_
     refine Op.buildSlice rfl ty_sl_25 ty_el2_25 rfl rfl rfl rfl (vs := [_, _]) rfl (segs := [(0, [_]), (1, [_])]) (cs := bytesV [80, 66]) rfl rfl zS (fun bz => ?_)
     refine WD.gR ?_; refine WD.both (i := 2) (j := 8) zK rfl rfl ?_ ?_
     ·refine WP.oper rfl rfl ?_
      refine Op.mark (cs := bytesV [80, 66]) rfl Tryz.underlying25 zK rfl rfl rfl (by repeat (first | exact Rm.chunk | exact Rm.here | exact Rm.nil0 | apply Rm.skip | apply Rm.skipS)) (fun Jn hJn hmz => ?_)
      replace hle := Imm.le_trans hle hJn
      replace hv := hv.mono (fun b o h => hJn.2 b o h)
      try replace hb5 := hJn.2 _ _ hb5
      try replace hb8 := hJn.2 _ _ hb8
      try replace hb12 := hJn.2 _ _ hb12
      try replace hb15 := hJn.2 _ _ hb15
      try replace hb18 := hJn.2 _ _ hb18
      try replace hb21 := hJn.2 _ _ hb21
      refine WD.gR ?_; refine WD.loud (i := 8) zK rfl rfl rfl ?_; refine Op.cl (super_putI (k := 1) ⟨by decide, by decide⟩ ⟨hm.index.1, by have := hm.index; have := hm.parts; omega⟩) rfl Tryz.func162 rfl rfl rfl rfl ?_; rintro v J L1 - ⟨b8, rfl, rfl, rfl⟩
      try simp only [nf]
      refine WP.share (fun Jn hJn hb8 => ?_)
      replace hle := Imm.le_trans hle hJn
      replace hv := hv.mono (fun b o h => hJn.2 b o h)
      try replace hb5 := hJn.2 _ _ hb5
      try replace hb12 := hJn.2 _ _ hb12
      try replace hb15 := hJn.2 _ _ hb15
      try replace hb18 := hJn.2 _ _ hb18
      try replace hb21 := hJn.2 _ _ hb21
      try replace hmz := mark_mono hJn hmz
      refine WD.gR ?_; refine WD.loud (i := 12) zK rfl rfl rfl ?_; refine Op.cl (super_put (m := p.data.length) (k := 2) ⟨by decide, by decide⟩ (by omega)) rfl Tryz.func162 rfl rfl rfl rfl ?_; rintro v J L1 - ⟨b12, rfl, rfl, rfl⟩
      try simp only [nf]
      refine WP.share (fun Jn hJn hb12 => ?_)
      replace hle := Imm.le_trans hle hJn
      replace hv := hv.mono (fun b o h => hJn.2 b o h)
      try replace hb5 := hJn.2 _ _ hb5
      try replace hb8 := hJn.2 _ _ hb8
      try replace hb15 := hJn.2 _ _ hb15
      try replace hb18 := hJn.2 _ _ hb18
      try replace hb21 := hJn.2 _ _ hb21
      try replace hmz := mark_mono hJn hmz
      refine WD.gR ?_; refine WD.loud (i := 15) zK rfl rfl rfl ?_; refine Op.cl (super_putI (k := 6) ⟨by decide, by decide⟩ ⟨by have := hm.no; omega, by have := hm.no; omega⟩) rfl Tryz.func162 rfl rfl rfl rfl ?_; rintro v J L1 - ⟨b15, rfl, rfl, rfl⟩
      try simp only [nf]
      refine WP.share (fun Jn hJn hb15 => ?_)
      replace hle := Imm.le_trans hle hJn
      replace hv := hv.mono (fun b o h => hJn.2 b o h)
      try replace hb5 := hJn.2 _ _ hb5
      try replace hb8 := hJn.2 _ _ hb8
      try replace hb12 := hJn.2 _ _ hb12
      try replace hb18 := hJn.2 _ _ hb18
      try replace hb21 := hJn.2 _ _ hb21
      try replace hmz := mark_mono hJn hmz
      refine WD.gR ?_; refine WD.loud (i := 18) zK rfl rfl rfl ?_; refine Op.cl (super_putI (k := 6) ⟨by decide, by decide⟩ ⟨by have := hm.place; omega, by have := hm.place; omega⟩) rfl Tryz.func162 rfl rfl rfl rfl ?_; rintro v J L1 - ⟨b18, rfl, rfl, rfl⟩
      try simp only [nf]
      refine WP.share (fun Jn hJn hb18 => ?_)
      replace hle := Imm.le_trans hle hJn
      replace hv := hv.mono (fun b o h => hJn.2 b o h)
      try replace hb5 := hJn.2 _ _ hb5
      try replace hb8 := hJn.2 _ _ hb8
      try replace hb12 := hJn.2 _ _ hb12
      try replace hb15 := hJn.2 _ _ hb15
      try replace hb21 := hJn.2 _ _ hb21
      try replace hmz := mark_mono hJn hmz
      refine WD.gR ?_; refine WD.loud (i := 21) zK rfl rfl rfl ?_; refine Op.cl (super_putI (k := 4) ⟨by decide, by decide⟩ ⟨by have := hm.era; omega, by have := hm.era; omega⟩) rfl Tryz.func162 rfl rfl rfl rfl ?_; rintro v J L1 - ⟨b21, rfl, rfl, rfl⟩
      try simp only [nf]
      refine WP.share (fun Jn hJn hb21 => ?_)
      replace hle := Imm.le_trans hle hJn
      replace hv := hv.mono (fun b o h => hJn.2 b o h)
      try replace hb5 := hJn.2 _ _ hb5
      try replace hb8 := hJn.2 _ _ hb8
      try replace hb12 := hJn.2 _ _ hb12
      try replace hb15 := hJn.2 _ _ hb15
      try replace hb18 := hJn.2 _ _ hb18
      try replace hmz := mark_mono hJn hmz
      refine WD.gR ?_; refine WD.loud (i := 24) zK rfl rfl rfl ?_; refine Op.buildSlice rfl ty_sl_116 ty_el2_116 rfl rfl rfl rfl (vs := [_, _, _, _, _, _, _, _]) rfl (segs := [(0, [_]), (1, [_]), (2, [_]), (3, [_]), (4, [_]), (5, [_]), (6, [_]), (7, [_])]) (cs := ([(.slice (some ⟨bz, 0, none⟩) 2 2, [80, 66]), (.slice (some ⟨b5, 0, none⟩) 1 1, leB p.parts.toNat 1), (.slice (some ⟨b8, 0, none⟩) 1 1, leB p.index.toNat 1), (.slice (some ⟨b12, 0, none⟩) 2 2, leB p.data.length 2), (.slice (some ⟨b15, 0, none⟩) 6 6, leB p.no.toNat 6), (.slice (some ⟨b18, 0, none⟩) 6 6, leB p.place.toNat 6), (.slice (some ⟨b21, 0, none⟩) 4 4, leB p.era.toNat 4), (.slice Av p.data.length cv, p.data)] : List (Value × List UInt8)).map (·.1)) rfl rfl zS (fun bx => ?_)
      refine WD.gR ?_; refine WD.loud (i := 25) zK rfl rfl rfl ?_; refine Op.cl (seg_cat hmz hb5 hb8 hb12 hb15 hb18 hb21 hv hl.2) rfl Tryz.func152 rfl rfl rfl rfl ?_; rintro v J Lo - ⟨rfl, hown⟩
      try simp only [nf]
      refine WD.gR ?_; refine WD.loud (i := 26) zK rfl rfl rfl ?_; refine Op.copyB (k := 0) (m := 220) (m2 := 22 + p.data.length) (q := 22 + p.data.length) (old := List.replicate 220 0) (new := pin p) (s := phead p ++ p.data) rfl ty_sl_25 rfl rfl rfl rfl (SlAt.blk (Nat.le_refl _)) (hown.rd (by intro p hp; simp [hp])) (Nat.min_eq_left (by omega)) (by rw [List.length_replicate]; omega) (pin_lay hl.2) (by repeat (first | exact Upd.head | apply Upd.tail | apply Upd.tailS)) ?_; refine WD.go (.inl rfl) (fun _ _ h => h.elim) ?_; refine WD.done zK ?_; refine WP.sub [(0, _), (1, _), (2, _), (3, _), (4, _), (11, _)] ?_ ⟨rfl, rfl, rfl, rfl, rfl, rfl, trivial⟩
      exact WP.mt Jn hle ⟨rfl, rfl, trivial⟩ rfl
     ·refine WP.oper rfl rfl ?_
      refine Op.cl (super_putI (k := 1) ⟨by decide, by decide⟩ ⟨hm.index.1, by have := hm.index; have := hm.parts; omega⟩) rfl Tryz.func162 rfl rfl rfl rfl ?_; rintro v J L1 - ⟨b8, rfl, rfl, rfl⟩
      try simp only [nf]
      refine WP.share (fun Jn hJn hb8 => ?_)
      replace hle := Imm.le_trans hle hJn
      replace hv := hv.mono (fun b o h => hJn.2 b o h)
      try replace hb5 := hJn.2 _ _ hb5
      try replace hb12 := hJn.2 _ _ hb12
      try replace hb15 := hJn.2 _ _ hb15
      try replace hb18 := hJn.2 _ _ hb18
      try replace hb21 := hJn.2 _ _ hb21
      try replace hmz := mark_mono hJn hmz
      refine WD.gR ?_; refine WD.both (i := 2) (j := 12) zK rfl rfl ?_ ?_
      ·refine WP.oper rfl rfl ?_
       refine Op.mark (cs := bytesV [80, 66]) rfl Tryz.underlying25 zK rfl rfl rfl (by repeat (first | exact Rm.chunk | exact Rm.here | exact Rm.nil0 | apply Rm.skip | apply Rm.skipS)) (fun Jn hJn hmz => ?_)
       replace hle := Imm.le_trans hle hJn
       replace hv := hv.mono (fun b o h => hJn.2 b o h)
       try replace hb5 := hJn.2 _ _ hb5
       try replace hb8 := hJn.2 _ _ hb8
       try replace hb12 := hJn.2 _ _ hb12
       try replace hb15 := hJn.2 _ _ hb15
       try replace hb18 := hJn.2 _ _ hb18
       try replace hb21 := hJn.2 _ _ hb21
       refine WD.gR ?_; refine WD.loud (i := 12) zK rfl rfl rfl ?_; refine Op.cl (super_put (m := p.data.length) (k := 2) ⟨by decide, by decide⟩ (by omega)) rfl Tryz.func162 rfl rfl rfl rfl ?_; rintro v J L1 - ⟨b12, rfl, rfl, rfl⟩
       try simp only [nf]
       refine WP.share (fun Jn hJn hb12 => ?_)
       replace hle := Imm.le_trans hle hJn
       replace hv := hv.mono (fun b o h => hJn.2 b o h)
       try replace hb5 := hJn.2 _ _ hb5
       try replace hb8 := hJn.2 _ _ hb8
       try replace hb15 := hJn.2 _ _ hb15
       try replace hb18 := hJn.2 _ _ hb18
       try replace hb21 := hJn.2 _ _ hb21
       try replace hmz := mark_mono hJn hmz
       refine WD.gR ?_; refine WD.loud (i := 15) zK rfl rfl rfl ?_; refine Op.cl (super_putI (k := 6) ⟨by decide, by decide⟩ ⟨by have := hm.no; omega, by have := hm.no; omega⟩) rfl Tryz.func162 rfl rfl rfl rfl ?_; rintro v J L1 - ⟨b15, rfl, rfl, rfl⟩
       try simp only [nf]
       refine WP.share (fun Jn hJn hb15 => ?_)
       replace hle := Imm.le_trans hle hJn
       replace hv := hv.mono (fun b o h => hJn.2 b o h)
       try replace hb5 := hJn.2 _ _ hb5
       try replace hb8 := hJn.2 _ _ hb8
       try replace hb12 := hJn.2 _ _ hb12
       try replace hb18 := hJn.2 _ _ hb18
       try replace hb21 := hJn.2 _ _ hb21
       try replace hmz := mark_mono hJn hmz
       refine WD.gR ?_; refine WD.loud (i := 18) zK rfl rfl rfl ?_; refine Op.cl (super_putI (k := 6) ⟨by decide, by decide⟩ ⟨by have := hm.place; omega, by have := hm.place; omega⟩) rfl Tryz.func162 rfl rfl rfl rfl ?_; rintro v J L1 - ⟨b18, rfl, rfl, rfl⟩
       try simp only [nf]
       refine WP.share (fun Jn hJn hb18 => ?_)
       replace hle := Imm.le_trans hle hJn
       replace hv := hv.mono (fun b o h => hJn.2 b o h)
       try replace hb5 := hJn.2 _ _ hb5
       try replace hb8 := hJn.2 _ _ hb8
       try replace hb12 := hJn.2 _ _ hb12
       try replace hb15 := hJn.2 _ _ hb15
       try replace hb21 := hJn.2 _ _ hb21
       try replace hmz := mark_mono hJn hmz
       refine WD.gR ?_; refine WD.loud (i := 21) zK rfl rfl rfl ?_; refine Op.cl (super_putI (k := 4) ⟨by decide, by decide⟩ ⟨by have := hm.era; omega, by have := hm.era; omega⟩) rfl Tryz.func162 rfl rfl rfl rfl ?_; rintro v J L1 - ⟨b21, rfl, rfl, rfl⟩
       try simp only [nf]
       refine WP.share (fun Jn hJn hb21 => ?_)
       replace hle := Imm.le_trans hle hJn
       replace hv := hv.mono (fun b o h => hJn.2 b o h)
       try replace hb5 := hJn.2 _ _ hb5
       try replace hb8 := hJn.2 _ _ hb8
       try replace hb12 := hJn.2 _ _ hb12
       try replace hb15 := hJn.2 _ _ hb15
       try replace hb18 := hJn.2 _ _ hb18
       try replace hmz := mark_mono hJn hmz
       refine WD.gR ?_; refine WD.loud (i := 24) zK rfl rfl rfl ?_; refine Op.buildSlice rfl ty_sl_116 ty_el2_116 rfl rfl rfl rfl (vs := [_, _, _, _, _, _, _, _]) rfl (segs := [(0, [_]), (1, [_]), (2, [_]), (3, [_]), (4, [_]), (5, [_]), (6, [_]), (7, [_])]) (cs := ([(.slice (some ⟨bz, 0, none⟩) 2 2, [80, 66]), (.slice (some ⟨b5, 0, none⟩) 1 1, leB p.parts.toNat 1), (.slice (some ⟨b8, 0, none⟩) 1 1, leB p.index.toNat 1), (.slice (some ⟨b12, 0, none⟩) 2 2, leB p.data.length 2), (.slice (some ⟨b15, 0, none⟩) 6 6, leB p.no.toNat 6), (.slice (some ⟨b18, 0, none⟩) 6 6, leB p.place.toNat 6), (.slice (some ⟨b21, 0, none⟩) 4 4, leB p.era.toNat 4), (.slice Av p.data.length cv, p.data)] : List (Value × List UInt8)).map (·.1)) rfl rfl zS (fun bx => ?_)
       refine WD.gR ?_; refine WD.loud (i := 25) zK rfl rfl rfl ?_; refine Op.cl (seg_cat hmz hb5 hb8 hb12 hb15 hb18 hb21 hv hl.2) rfl Tryz.func152 rfl rfl rfl rfl ?_; rintro v J Lo - ⟨rfl, hown⟩
       try simp only [nf]
       refine WD.gR ?_; refine WD.loud (i := 26) zK rfl rfl rfl ?_; refine Op.copyB (k := 0) (m := 220) (m2 := 22 + p.data.length) (q := 22 + p.data.length) (old := List.replicate 220 0) (new := pin p) (s := phead p ++ p.data) rfl ty_sl_25 rfl rfl rfl rfl (SlAt.blk (Nat.le_refl _)) (hown.rd (by intro p hp; simp [hp])) (Nat.min_eq_left (by omega)) (by rw [List.length_replicate]; omega) (pin_lay hl.2) (by repeat (first | exact Upd.head | apply Upd.tail | apply Upd.tailS)) ?_; refine WD.go (.inl rfl) (fun _ _ h => h.elim) ?_; refine WD.done zK ?_; refine WP.sub [(0, _), (1, _), (2, _), (3, _), (4, _), (11, _)] ?_ ⟨rfl, rfl, rfl, rfl, rfl, rfl, trivial⟩
       exact WP.mt Jn hle ⟨rfl, rfl, trivial⟩ rfl
      ·refine WP.oper rfl rfl ?_
       refine Op.cl (super_put (m := p.data.length) (k := 2) ⟨by decide, by decide⟩ (by omega)) rfl Tryz.func162 rfl rfl rfl rfl ?_; rintro v J L1 - ⟨b12, rfl, rfl, rfl⟩
       try simp only [nf]
       refine WP.share (fun Jn hJn hb12 => ?_)
       replace hle := Imm.le_trans hle hJn
       replace hv := hv.mono (fun b o h => hJn.2 b o h)
       try replace hb5 := hJn.2 _ _ hb5
       try replace hb8 := hJn.2 _ _ hb8
       try replace hb15 := hJn.2 _ _ hb15
       try replace hb18 := hJn.2 _ _ hb18
       try replace hb21 := hJn.2 _ _ hb21
       try replace hmz := mark_mono hJn hmz
       refine WD.gR ?_; refine WD.both (i := 2) (j := 15) zK rfl rfl ?_ ?_
       ·refine WP.oper rfl rfl ?_
        refine Op.mark (cs := bytesV [80, 66]) rfl Tryz.underlying25 zK rfl rfl rfl (by repeat (first | exact Rm.chunk | exact Rm.here | exact Rm.nil0 | apply Rm.skip | apply Rm.skipS)) (fun Jn hJn hmz => ?_)
        replace hle := Imm.le_trans hle hJn
        replace hv := hv.mono (fun b o h => hJn.2 b o h)
        try replace hb5 := hJn.2 _ _ hb5
        try replace hb8 := hJn.2 _ _ hb8
        try replace hb12 := hJn.2 _ _ hb12
        try replace hb15 := hJn.2 _ _ hb15
        try replace hb18 := hJn.2 _ _ hb18
        try replace hb21 := hJn.2 _ _ hb21
        refine WD.gR ?_; refine WD.loud (i := 15) zK rfl rfl rfl ?_; refine Op.cl (super_putI (k := 6) ⟨by decide, by decide⟩ ⟨by have := hm.no; omega, by have := hm.no; omega⟩) rfl Tryz.func162 rfl rfl rfl rfl ?_; rintro v J L1 - ⟨b15, rfl, rfl, rfl⟩
        try simp only [nf]
        refine WP.share (fun Jn hJn hb15 => ?_)
        replace hle := Imm.le_trans hle hJn
        replace hv := hv.mono (fun b o h => hJn.2 b o h)
        try replace hb5 := hJn.2 _ _ hb5
        try replace hb8 := hJn.2 _ _ hb8
        try replace hb12 := hJn.2 _ _ hb12
        try replace hb18 := hJn.2 _ _ hb18
        try replace hb21 := hJn.2 _ _ hb21
        try replace hmz := mark_mono hJn hmz
        refine WD.gR ?_; refine WD.loud (i := 18) zK rfl rfl rfl ?_; refine Op.cl (super_putI (k := 6) ⟨by decide, by decide⟩ ⟨by have := hm.place; omega, by have := hm.place; omega⟩) rfl Tryz.func162 rfl rfl rfl rfl ?_; rintro v J L1 - ⟨b18, rfl, rfl, rfl⟩
        try simp only [nf]
        refine WP.share (fun Jn hJn hb18 => ?_)
        replace hle := Imm.le_trans hle hJn
        replace hv := hv.mono (fun b o h => hJn.2 b o h)
        try replace hb5 := hJn.2 _ _ hb5
        try replace hb8 := hJn.2 _ _ hb8
        try replace hb12 := hJn.2 _ _ hb12
        try replace hb15 := hJn.2 _ _ hb15
        try replace hb21 := hJn.2 _ _ hb21
        try replace hmz := mark_mono hJn hmz
        refine WD.gR ?_; refine WD.loud (i := 21) zK rfl rfl rfl ?_; refine Op.cl (super_putI (k := 4) ⟨by decide, by decide⟩ ⟨by have := hm.era; omega, by have := hm.era; omega⟩) rfl Tryz.func162 rfl rfl rfl rfl ?_; rintro v J L1 - ⟨b21, rfl, rfl, rfl⟩
        try simp only [nf]
        refine WP.share (fun Jn hJn hb21 => ?_)
        replace hle := Imm.le_trans hle hJn
        replace hv := hv.mono (fun b o h => hJn.2 b o h)
        try replace hb5 := hJn.2 _ _ hb5
        try replace hb8 := hJn.2 _ _ hb8
        try replace hb12 := hJn.2 _ _ hb12
        try replace hb15 := hJn.2 _ _ hb15
        try replace hb18 := hJn.2 _ _ hb18
        try replace hmz := mark_mono hJn hmz
        refine WD.gR ?_; refine WD.loud (i := 24) zK rfl rfl rfl ?_; refine Op.buildSlice rfl ty_sl_116 ty_el2_116 rfl rfl rfl rfl (vs := [_, _, _, _, _, _, _, _]) rfl (segs := [(0, [_]), (1, [_]), (2, [_]), (3, [_]), (4, [_]), (5, [_]), (6, [_]), (7, [_])]) (cs := ([(.slice (some ⟨bz, 0, none⟩) 2 2, [80, 66]), (.slice (some ⟨b5, 0, none⟩) 1 1, leB p.parts.toNat 1), (.slice (some ⟨b8, 0, none⟩) 1 1, leB p.index.toNat 1), (.slice (some ⟨b12, 0, none⟩) 2 2, leB p.data.length 2), (.slice (some ⟨b15, 0, none⟩) 6 6, leB p.no.toNat 6), (.slice (some ⟨b18, 0, none⟩) 6 6, leB p.place.toNat 6), (.slice (some ⟨b21, 0, none⟩) 4 4, leB p.era.toNat 4), (.slice Av p.data.length cv, p.data)] : List (Value × List UInt8)).map (·.1)) rfl rfl zS (fun bx => ?_)
        refine WD.gR ?_; refine WD.loud (i := 25) zK rfl rfl rfl ?_; refine Op.cl (seg_cat hmz hb5 hb8 hb12 hb15 hb18 hb21 hv hl.2) rfl Tryz.func152 rfl rfl rfl rfl ?_; rintro v J Lo - ⟨rfl, hown⟩
        try simp only [nf]
        refine WD.gR ?_; refine WD.loud (i := 26) zK rfl rfl rfl ?_; refine Op.copyB (k := 0) (m := 220) (m2 := 22 + p.data.length) (q := 22 + p.data.length) (old := List.replicate 220 0) (new := pin p) (s := phead p ++ p.data) rfl ty_sl_25 rfl rfl rfl rfl (SlAt.blk (Nat.le_refl _)) (hown.rd (by intro p hp; simp [hp])) (Nat.min_eq_left (by omega)) (by rw [List.length_replicate]; omega) (pin_lay hl.2) (by repeat (first | exact Upd.head | apply Upd.tail | apply Upd.tailS)) ?_; refine WD.go (.inl rfl) (fun _ _ h => h.elim) ?_; refine WD.done zK ?_; refine WP.sub [(0, _), (1, _), (2, _), (3, _), (4, _), (11, _)] ?_ ⟨rfl, rfl, rfl, rfl, rfl, rfl, trivial⟩
        exact WP.mt Jn hle ⟨rfl, rfl, trivial⟩ rfl
       ·refine WP.oper rfl rfl ?_
        refine Op.cl (super_putI (k := 6) ⟨by decide, by decide⟩ ⟨by have := hm.no; omega, by have := hm.no; omega⟩) rfl Tryz.func162 rfl rfl rfl rfl ?_; rintro v J L1 - ⟨b15, rfl, rfl, rfl⟩
        try simp only [nf]
        refine WP.share (fun Jn hJn hb15 => ?_)
        replace hle := Imm.le_trans hle hJn
        replace hv := hv.mono (fun b o h => hJn.2 b o h)
        try replace hb5 := hJn.2 _ _ hb5
        try replace hb8 := hJn.2 _ _ hb8
        try replace hb12 := hJn.2 _ _ hb12
        try replace hb18 := hJn.2 _ _ hb18
        try replace hb21 := hJn.2 _ _ hb21
        try replace hmz := mark_mono hJn hmz
        refine WD.gR ?_; refine WD.both (i := 2) (j := 18) zK rfl rfl ?_ ?_
        ·refine WP.oper rfl rfl ?_
         refine Op.mark (cs := bytesV [80, 66]) rfl Tryz.underlying25 zK rfl rfl rfl (by repeat (first | exact Rm.chunk | exact Rm.here | exact Rm.nil0 | apply Rm.skip | apply Rm.skipS)) (fun Jn hJn hmz => ?_)
         replace hle := Imm.le_trans hle hJn
         replace hv := hv.mono (fun b o h => hJn.2 b o h)
         try replace hb5 := hJn.2 _ _ hb5
         try replace hb8 := hJn.2 _ _ hb8
         try replace hb12 := hJn.2 _ _ hb12
         try replace hb15 := hJn.2 _ _ hb15
         try replace hb18 := hJn.2 _ _ hb18
         try replace hb21 := hJn.2 _ _ hb21
         refine WD.gR ?_; refine WD.loud (i := 18) zK rfl rfl rfl ?_; refine Op.cl (super_putI (k := 6) ⟨by decide, by decide⟩ ⟨by have := hm.place; omega, by have := hm.place; omega⟩) rfl Tryz.func162 rfl rfl rfl rfl ?_; rintro v J L1 - ⟨b18, rfl, rfl, rfl⟩
         try simp only [nf]
         refine WP.share (fun Jn hJn hb18 => ?_)
         replace hle := Imm.le_trans hle hJn
         replace hv := hv.mono (fun b o h => hJn.2 b o h)
         try replace hb5 := hJn.2 _ _ hb5
         try replace hb8 := hJn.2 _ _ hb8
         try replace hb12 := hJn.2 _ _ hb12
         try replace hb15 := hJn.2 _ _ hb15
         try replace hb21 := hJn.2 _ _ hb21
         try replace hmz := mark_mono hJn hmz
         refine WD.gR ?_; refine WD.loud (i := 21) zK rfl rfl rfl ?_; refine Op.cl (super_putI (k := 4) ⟨by decide, by decide⟩ ⟨by have := hm.era; omega, by have := hm.era; omega⟩) rfl Tryz.func162 rfl rfl rfl rfl ?_; rintro v J L1 - ⟨b21, rfl, rfl, rfl⟩
         try simp only [nf]
         refine WP.share (fun Jn hJn hb21 => ?_)
         replace hle := Imm.le_trans hle hJn
         replace hv := hv.mono (fun b o h => hJn.2 b o h)
         try replace hb5 := hJn.2 _ _ hb5
         try replace hb8 := hJn.2 _ _ hb8
         try replace hb12 := hJn.2 _ _ hb12
         try replace hb15 := hJn.2 _ _ hb15
         try replace hb18 := hJn.2 _ _ hb18
         try replace hmz := mark_mono hJn hmz
         refine WD.gR ?_; refine WD.loud (i := 24) zK rfl rfl rfl ?_; refine Op.buildSlice rfl ty_sl_116 ty_el2_116 rfl rfl rfl rfl (vs := [_, _, _, _, _, _, _, _]) rfl (segs := [(0, [_]), (1, [_]), (2, [_]), (3, [_]), (4, [_]), (5, [_]), (6, [_]), (7, [_])]) (cs := ([(.slice (some ⟨bz, 0, none⟩) 2 2, [80, 66]), (.slice (some ⟨b5, 0, none⟩) 1 1, leB p.parts.toNat 1), (.slice (some ⟨b8, 0, none⟩) 1 1, leB p.index.toNat 1), (.slice (some ⟨b12, 0, none⟩) 2 2, leB p.data.length 2), (.slice (some ⟨b15, 0, none⟩) 6 6, leB p.no.toNat 6), (.slice (some ⟨b18, 0, none⟩) 6 6, leB p.place.toNat 6), (.slice (some ⟨b21, 0, none⟩) 4 4, leB p.era.toNat 4), (.slice Av p.data.length cv, p.data)] : List (Value × List UInt8)).map (·.1)) rfl rfl zS (fun bx => ?_)
         refine WD.gR ?_; refine WD.loud (i := 25) zK rfl rfl rfl ?_; refine Op.cl (seg_cat hmz hb5 hb8 hb12 hb15 hb18 hb21 hv hl.2) rfl Tryz.func152 rfl rfl rfl rfl ?_; rintro v J Lo - ⟨rfl, hown⟩
         try simp only [nf]
         refine WD.gR ?_; refine WD.loud (i := 26) zK rfl rfl rfl ?_; refine Op.copyB (k := 0) (m := 220) (m2 := 22 + p.data.length) (q := 22 + p.data.length) (old := List.replicate 220 0) (new := pin p) (s := phead p ++ p.data) rfl ty_sl_25 rfl rfl rfl rfl (SlAt.blk (Nat.le_refl _)) (hown.rd (by intro p hp; simp [hp])) (Nat.min_eq_left (by omega)) (by rw [List.length_replicate]; omega) (pin_lay hl.2) (by repeat (first | exact Upd.head | apply Upd.tail | apply Upd.tailS)) ?_; refine WD.go (.inl rfl) (fun _ _ h => h.elim) ?_; refine WD.done zK ?_; refine WP.sub [(0, _), (1, _), (2, _), (3, _), (4, _), (11, _)] ?_ ⟨rfl, rfl, rfl, rfl, rfl, rfl, trivial⟩
         exact WP.mt Jn hle ⟨rfl, rfl, trivial⟩ rfl
        ·refine WP.oper rfl rfl ?_
         refine Op.cl (super_putI (k := 6) ⟨by decide, by decide⟩ ⟨by have := hm.place; omega, by have := hm.place; omega⟩) rfl Tryz.func162 rfl rfl rfl rfl ?_; rintro v J L1 - ⟨b18, rfl, rfl, rfl⟩
         try simp only [nf]
         refine WP.share (fun Jn hJn hb18 => ?_)
         replace hle := Imm.le_trans hle hJn
         replace hv := hv.mono (fun b o h => hJn.2 b o h)
         try replace hb5 := hJn.2 _ _ hb5
         try replace hb8 := hJn.2 _ _ hb8
         try replace hb12 := hJn.2 _ _ hb12
         try replace hb15 := hJn.2 _ _ hb15
         try replace hb21 := hJn.2 _ _ hb21
         try replace hmz := mark_mono hJn hmz
         refine WD.gR ?_; refine WD.both (i := 2) (j := 21) zK rfl rfl ?_ ?_
         ·refine WP.oper rfl rfl ?_
          refine Op.mark (cs := bytesV [80, 66]) rfl Tryz.underlying25 zK rfl rfl rfl (by repeat (first | exact Rm.chunk | exact Rm.here | exact Rm.nil0 | apply Rm.skip | apply Rm.skipS)) (fun Jn hJn hmz => ?_)
          replace hle := Imm.le_trans hle hJn
          replace hv := hv.mono (fun b o h => hJn.2 b o h)
          try replace hb5 := hJn.2 _ _ hb5
          try replace hb8 := hJn.2 _ _ hb8
          try replace hb12 := hJn.2 _ _ hb12
          try replace hb15 := hJn.2 _ _ hb15
          try replace hb18 := hJn.2 _ _ hb18
          try replace hb21 := hJn.2 _ _ hb21
          refine WD.gR ?_; refine WD.loud (i := 21) zK rfl rfl rfl ?_; refine Op.cl (super_putI (k := 4) ⟨by decide, by decide⟩ ⟨by have := hm.era; omega, by have := hm.era; omega⟩) rfl Tryz.func162 rfl rfl rfl rfl ?_; rintro v J L1 - ⟨b21, rfl, rfl, rfl⟩
          try simp only [nf]
          refine WP.share (fun Jn hJn hb21 => ?_)
          replace hle := Imm.le_trans hle hJn
          replace hv := hv.mono (fun b o h => hJn.2 b o h)
          try replace hb5 := hJn.2 _ _ hb5
          try replace hb8 := hJn.2 _ _ hb8
          try replace hb12 := hJn.2 _ _ hb12
          try replace hb15 := hJn.2 _ _ hb15
          try replace hb18 := hJn.2 _ _ hb18
          try replace hmz := mark_mono hJn hmz
          refine WD.gR ?_; refine WD.loud (i := 24) zK rfl rfl rfl ?_; refine Op.buildSlice rfl ty_sl_116 ty_el2_116 rfl rfl rfl rfl (vs := [_, _, _, _, _, _, _, _]) rfl (segs := [(0, [_]), (1, [_]), (2, [_]), (3, [_]), (4, [_]), (5, [_]), (6, [_]), (7, [_])]) (cs := ([(.slice (some ⟨bz, 0, none⟩) 2 2, [80, 66]), (.slice (some ⟨b5, 0, none⟩) 1 1, leB p.parts.toNat 1), (.slice (some ⟨b8, 0, none⟩) 1 1, leB p.index.toNat 1), (.slice (some ⟨b12, 0, none⟩) 2 2, leB p.data.length 2), (.slice (some ⟨b15, 0, none⟩) 6 6, leB p.no.toNat 6), (.slice (some ⟨b18, 0, none⟩) 6 6, leB p.place.toNat 6), (.slice (some ⟨b21, 0, none⟩) 4 4, leB p.era.toNat 4), (.slice Av p.data.length cv, p.data)] : List (Value × List UInt8)).map (·.1)) rfl rfl zS (fun bx => ?_)
          refine WD.gR ?_; refine WD.loud (i := 25) zK rfl rfl rfl ?_; refine Op.cl (seg_cat hmz hb5 hb8 hb12 hb15 hb18 hb21 hv hl.2) rfl Tryz.func152 rfl rfl rfl rfl ?_; rintro v J Lo - ⟨rfl, hown⟩
          try simp only [nf]
          refine WD.gR ?_; refine WD.loud (i := 26) zK rfl rfl rfl ?_; refine Op.copyB (k := 0) (m := 220) (m2 := 22 + p.data.length) (q := 22 + p.data.length) (old := List.replicate 220 0) (new := pin p) (s := phead p ++ p.data) rfl ty_sl_25 rfl rfl rfl rfl (SlAt.blk (Nat.le_refl _)) (hown.rd (by intro p hp; simp [hp])) (Nat.min_eq_left (by omega)) (by rw [List.length_replicate]; omega) (pin_lay hl.2) (by repeat (first | exact Upd.head | apply Upd.tail | apply Upd.tailS)) ?_; refine WD.go (.inl rfl) (fun _ _ h => h.elim) ?_; refine WD.done zK ?_; refine WP.sub [(0, _), (1, _), (2, _), (3, _), (4, _), (11, _)] ?_ ⟨rfl, rfl, rfl, rfl, rfl, rfl, trivial⟩
          exact WP.mt Jn hle ⟨rfl, rfl, trivial⟩ rfl
         ·refine WP.oper rfl rfl ?_
          refine Op.cl (super_putI (k := 4) ⟨by decide, by decide⟩ ⟨by have := hm.era; omega, by have := hm.era; omega⟩) rfl Tryz.func162 rfl rfl rfl rfl ?_; rintro v J L1 - ⟨b21, rfl, rfl, rfl⟩
          try simp only [nf]
          refine WP.share (fun Jn hJn hb21 => ?_)
          replace hle := Imm.le_trans hle hJn
          replace hv := hv.mono (fun b o h => hJn.2 b o h)
          try replace hb5 := hJn.2 _ _ hb5
          try replace hb8 := hJn.2 _ _ hb8
          try replace hb12 := hJn.2 _ _ hb12
          try replace hb15 := hJn.2 _ _ hb15
          try replace hb18 := hJn.2 _ _ hb18
          try replace hmz := mark_mono hJn hmz
          refine WD.gR ?_; refine WD.loud (i := 2) zK rfl rfl rfl ?_; refine Op.mark (cs := bytesV [80, 66]) rfl Tryz.underlying25 zK rfl rfl rfl (by repeat (first | exact Rm.chunk | exact Rm.here | exact Rm.nil0 | apply Rm.skip | apply Rm.skipS)) (fun Jn hJn hmz => ?_)
          replace hle := Imm.le_trans hle hJn
          replace hv := hv.mono (fun b o h => hJn.2 b o h)
          try replace hb5 := hJn.2 _ _ hb5
          try replace hb8 := hJn.2 _ _ hb8
          try replace hb12 := hJn.2 _ _ hb12
          try replace hb15 := hJn.2 _ _ hb15
          try replace hb18 := hJn.2 _ _ hb18
          try replace hb21 := hJn.2 _ _ hb21
          refine WD.gR ?_; refine WD.loud (i := 24) zK rfl rfl rfl ?_; refine Op.buildSlice rfl ty_sl_116 ty_el2_116 rfl rfl rfl rfl (vs := [_, _, _, _, _, _, _, _]) rfl (segs := [(0, [_]), (1, [_]), (2, [_]), (3, [_]), (4, [_]), (5, [_]), (6, [_]), (7, [_])]) (cs := ([(.slice (some ⟨bz, 0, none⟩) 2 2, [80, 66]), (.slice (some ⟨b5, 0, none⟩) 1 1, leB p.parts.toNat 1), (.slice (some ⟨b8, 0, none⟩) 1 1, leB p.index.toNat 1), (.slice (some ⟨b12, 0, none⟩) 2 2, leB p.data.length 2), (.slice (some ⟨b15, 0, none⟩) 6 6, leB p.no.toNat 6), (.slice (some ⟨b18, 0, none⟩) 6 6, leB p.place.toNat 6), (.slice (some ⟨b21, 0, none⟩) 4 4, leB p.era.toNat 4), (.slice Av p.data.length cv, p.data)] : List (Value × List UInt8)).map (·.1)) rfl rfl zS (fun bx => ?_)
          refine WD.gR ?_; refine WD.loud (i := 25) zK rfl rfl rfl ?_; refine Op.cl (seg_cat hmz hb5 hb8 hb12 hb15 hb18 hb21 hv hl.2) rfl Tryz.func152 rfl rfl rfl rfl ?_; rintro v J Lo - ⟨rfl, hown⟩
          try simp only [nf]
          refine WD.gR ?_; refine WD.loud (i := 26) zK rfl rfl rfl ?_; refine Op.copyB (k := 0) (m := 220) (m2 := 22 + p.data.length) (q := 22 + p.data.length) (old := List.replicate 220 0) (new := pin p) (s := phead p ++ p.data) rfl ty_sl_25 rfl rfl rfl rfl (SlAt.blk (Nat.le_refl _)) (hown.rd (by intro p hp; simp [hp])) (Nat.min_eq_left (by omega)) (by rw [List.length_replicate]; omega) (pin_lay hl.2) (by repeat (first | exact Upd.head | apply Upd.tail | apply Upd.tailS)) ?_; refine WD.go (.inl rfl) (fun _ _ h => h.elim) ?_; refine WD.done zK ?_; refine WP.sub [(0, _), (1, _), (2, _), (3, _), (4, _), (11, _)] ?_ ⟨rfl, rfl, rfl, rfl, rfl, rfl, trivial⟩
          exact WP.mt Jn hle ⟨rfl, rfl, trivial⟩ rfl
    ·refine WP.oper rfl rfl ?_
     refine Op.cl (super_putI (k := 1) ⟨by decide, by decide⟩ ⟨hm.index.1, by have := hm.index; have := hm.parts; omega⟩) rfl Tryz.func162 rfl rfl rfl rfl ?_; rintro v J L1 - ⟨b8, rfl, rfl, rfl⟩
     try simp only [nf]
     refine WP.share (fun Jn hJn hb8 => ?_)
     replace hle := Imm.le_trans hle hJn
     replace hv := hv.mono (fun b o h => hJn.2 b o h)
     try replace hb5 := hJn.2 _ _ hb5
     try replace hb12 := hJn.2 _ _ hb12
     try replace hb15 := hJn.2 _ _ hb15
     try replace hb18 := hJn.2 _ _ hb18
     try replace hb21 := hJn.2 _ _ hb21
     try replace hmz := mark_mono hJn hmz
     refine WD.gR ?_; refine WD.both (i := 1) (j := 12) zK rfl rfl ?_ ?_
     ·refine WP.oper rfl rfl ?_
      refine Op.buildSlice rfl ty_sl_25 ty_el2_25 rfl rfl rfl rfl (vs := [_, _]) rfl (segs := [(0, [_]), (1, [_])]) (cs := bytesV [80, 66]) rfl rfl zS (fun bz => ?_)
      refine WD.gR ?_; refine WD.both (i := 2) (j := 12) zK rfl rfl ?_ ?_
      ·refine WP.oper rfl rfl ?_
       refine Op.mark (cs := bytesV [80, 66]) rfl Tryz.underlying25 zK rfl rfl rfl (by repeat (first | exact Rm.chunk | exact Rm.here | exact Rm.nil0 | apply Rm.skip | apply Rm.skipS)) (fun Jn hJn hmz => ?_)
       replace hle := Imm.le_trans hle hJn
       replace hv := hv.mono (fun b o h => hJn.2 b o h)
       try replace hb5 := hJn.2 _ _ hb5
       try replace hb8 := hJn.2 _ _ hb8
       try replace hb12 := hJn.2 _ _ hb12
       try replace hb15 := hJn.2 _ _ hb15
       try replace hb18 := hJn.2 _ _ hb18
       try replace hb21 := hJn.2 _ _ hb21
       refine WD.gR ?_; refine WD.loud (i := 12) zK rfl rfl rfl ?_; refine Op.cl (super_put (m := p.data.length) (k := 2) ⟨by decide, by decide⟩ (by omega)) rfl Tryz.func162 rfl rfl rfl rfl ?_; rintro v J L1 - ⟨b12, rfl, rfl, rfl⟩
       try simp only [nf]
       refine WP.share (fun Jn hJn hb12 => ?_)
       replace hle := Imm.le_trans hle hJn
       replace hv := hv.mono (fun b o h => hJn.2 b o h)
       try replace hb5 := hJn.2 _ _ hb5
       try replace hb8 := hJn.2 _ _ hb8
       try replace hb15 := hJn.2 _ _ hb15
       try replace hb18 := hJn.2 _ _ hb18
       try replace hb21 := hJn.2 _ _ hb21
       try replace hmz := mark_mono hJn hmz
       refine WD.gR ?_; refine WD.loud (i := 15) zK rfl rfl rfl ?_; refine Op.cl (super_putI (k := 6) ⟨by decide, by decide⟩ ⟨by have := hm.no; omega, by have := hm.no; omega⟩) rfl Tryz.func162 rfl rfl rfl rfl ?_; rintro v J L1 - ⟨b15, rfl, rfl, rfl⟩
       try simp only [nf]
       refine WP.share (fun Jn hJn hb15 => ?_)
       replace hle := Imm.le_trans hle hJn
       replace hv := hv.mono (fun b o h => hJn.2 b o h)
       try replace hb5 := hJn.2 _ _ hb5
       try replace hb8 := hJn.2 _ _ hb8
       try replace hb12 := hJn.2 _ _ hb12
       try replace hb18 := hJn.2 _ _ hb18
       try replace hb21 := hJn.2 _ _ hb21
       try replace hmz := mark_mono hJn hmz
       refine WD.gR ?_; refine WD.loud (i := 18) zK rfl rfl rfl ?_; refine Op.cl (super_putI (k := 6) ⟨by decide, by decide⟩ ⟨by have := hm.place; omega, by have := hm.place; omega⟩) rfl Tryz.func162 rfl rfl rfl rfl ?_; rintro v J L1 - ⟨b18, rfl, rfl, rfl⟩
       try simp only [nf]
       refine WP.share (fun Jn hJn hb18 => ?_)
       replace hle := Imm.le_trans hle hJn
       replace hv := hv.mono (fun b o h => hJn.2 b o h)
       try replace hb5 := hJn.2 _ _ hb5
       try replace hb8 := hJn.2 _ _ hb8
       try replace hb12 := hJn.2 _ _ hb12
       try replace hb15 := hJn.2 _ _ hb15
       try replace hb21 := hJn.2 _ _ hb21
       try replace hmz := mark_mono hJn hmz
       refine WD.gR ?_; refine WD.loud (i := 21) zK rfl rfl rfl ?_; refine Op.cl (super_putI (k := 4) ⟨by decide, by decide⟩ ⟨by have := hm.era; omega, by have := hm.era; omega⟩) rfl Tryz.func162 rfl rfl rfl rfl ?_; rintro v J L1 - ⟨b21, rfl, rfl, rfl⟩
       try simp only [nf]
       refine WP.share (fun Jn hJn hb21 => ?_)
       replace hle := Imm.le_trans hle hJn
       replace hv := hv.mono (fun b o h => hJn.2 b o h)
       try replace hb5 := hJn.2 _ _ hb5
       try replace hb8 := hJn.2 _ _ hb8
       try replace hb12 := hJn.2 _ _ hb12
       try replace hb15 := hJn.2 _ _ hb15
       try replace hb18 := hJn.2 _ _ hb18
       try replace hmz := mark_mono hJn hmz
       refine WD.gR ?_; refine WD.loud (i := 24) zK rfl rfl rfl ?_; refine Op.buildSlice rfl ty_sl_116 ty_el2_116 rfl rfl rfl rfl (vs := [_, _, _, _, _, _, _, _]) rfl (segs := [(0, [_]), (1, [_]), (2, [_]), (3, [_]), (4, [_]), (5, [_]), (6, [_]), (7, [_])]) (cs := ([(.slice (some ⟨bz, 0, none⟩) 2 2, [80, 66]), (.slice (some ⟨b5, 0, none⟩) 1 1, leB p.parts.toNat 1), (.slice (some ⟨b8, 0, none⟩) 1 1, leB p.index.toNat 1), (.slice (some ⟨b12, 0, none⟩) 2 2, leB p.data.length 2), (.slice (some ⟨b15, 0, none⟩) 6 6, leB p.no.toNat 6), (.slice (some ⟨b18, 0, none⟩) 6 6, leB p.place.toNat 6), (.slice (some ⟨b21, 0, none⟩) 4 4, leB p.era.toNat 4), (.slice Av p.data.length cv, p.data)] : List (Value × List UInt8)).map (·.1)) rfl rfl zS (fun bx => ?_)
       refine WD.gR ?_; refine WD.loud (i := 25) zK rfl rfl rfl ?_; refine Op.cl (seg_cat hmz hb5 hb8 hb12 hb15 hb18 hb21 hv hl.2) rfl Tryz.func152 rfl rfl rfl rfl ?_; rintro v J Lo - ⟨rfl, hown⟩
       try simp only [nf]
       refine WD.gR ?_; refine WD.loud (i := 26) zK rfl rfl rfl ?_; refine Op.copyB (k := 0) (m := 220) (m2 := 22 + p.data.length) (q := 22 + p.data.length) (old := List.replicate 220 0) (new := pin p) (s := phead p ++ p.data) rfl ty_sl_25 rfl rfl rfl rfl (SlAt.blk (Nat.le_refl _)) (hown.rd (by intro p hp; simp [hp])) (Nat.min_eq_left (by omega)) (by rw [List.length_replicate]; omega) (pin_lay hl.2) (by repeat (first | exact Upd.head | apply Upd.tail | apply Upd.tailS)) ?_; refine WD.go (.inl rfl) (fun _ _ h => h.elim) ?_; refine WD.done zK ?_; refine WP.sub [(0, _), (1, _), (2, _), (3, _), (4, _), (11, _)] ?_ ⟨rfl, rfl, rfl, rfl, rfl, rfl, trivial⟩
       exact WP.mt Jn hle ⟨rfl, rfl, trivial⟩ rfl
      ·refine WP.oper rfl rfl ?_
       refine Op.cl (super_put (m := p.data.length) (k := 2) ⟨by decide, by decide⟩ (by omega)) rfl Tryz.func162 rfl rfl rfl rfl ?_; rintro v J L1 - ⟨b12, rfl, rfl, rfl⟩
       try simp only [nf]
       refine WP.share (fun Jn hJn hb12 => ?_)
       replace hle := Imm.le_trans hle hJn
       replace hv := hv.mono (fun b o h => hJn.2 b o h)
       try replace hb5 := hJn.2 _ _ hb5
       try replace hb8 := hJn.2 _ _ hb8
       try replace hb15 := hJn.2 _ _ hb15
       try replace hb18 := hJn.2 _ _ hb18
       try replace hb21 := hJn.2 _ _ hb21
       try replace hmz := mark_mono hJn hmz
       refine WD.gR ?_; refine WD.both (i := 2) (j := 15) zK rfl rfl ?_ ?_
       ·refine WP.oper rfl rfl ?_
        refine Op.mark (cs := bytesV [80, 66]) rfl Tryz.underlying25 zK rfl rfl rfl (by repeat (first | exact Rm.chunk | exact Rm.here | exact Rm.nil0 | apply Rm.skip | apply Rm.skipS)) (fun Jn hJn hmz => ?_)
        replace hle := Imm.le_trans hle hJn
        replace hv := hv.mono (fun b o h => hJn.2 b o h)
        try replace hb5 := hJn.2 _ _ hb5
        try replace hb8 := hJn.2 _ _ hb8
        try replace hb12 := hJn.2 _ _ hb12
        try replace hb15 := hJn.2 _ _ hb15
        try replace hb18 := hJn.2 _ _ hb18
        try replace hb21 := hJn.2 _ _ hb21
        refine WD.gR ?_; refine WD.loud (i := 15) zK rfl rfl rfl ?_; refine Op.cl (super_putI (k := 6) ⟨by decide, by decide⟩ ⟨by have := hm.no; omega, by have := hm.no; omega⟩) rfl Tryz.func162 rfl rfl rfl rfl ?_; rintro v J L1 - ⟨b15, rfl, rfl, rfl⟩
        try simp only [nf]
        refine WP.share (fun Jn hJn hb15 => ?_)
        replace hle := Imm.le_trans hle hJn
        replace hv := hv.mono (fun b o h => hJn.2 b o h)
        try replace hb5 := hJn.2 _ _ hb5
        try replace hb8 := hJn.2 _ _ hb8
        try replace hb12 := hJn.2 _ _ hb12
        try replace hb18 := hJn.2 _ _ hb18
        try replace hb21 := hJn.2 _ _ hb21
        try replace hmz := mark_mono hJn hmz
        refine WD.gR ?_; refine WD.loud (i := 18) zK rfl rfl rfl ?_; refine Op.cl (super_putI (k := 6) ⟨by decide, by decide⟩ ⟨by have := hm.place; omega, by have := hm.place; omega⟩) rfl Tryz.func162 rfl rfl rfl rfl ?_; rintro v J L1 - ⟨b18, rfl, rfl, rfl⟩
        try simp only [nf]
        refine WP.share (fun Jn hJn hb18 => ?_)
        replace hle := Imm.le_trans hle hJn
        replace hv := hv.mono (fun b o h => hJn.2 b o h)
        try replace hb5 := hJn.2 _ _ hb5
        try replace hb8 := hJn.2 _ _ hb8
        try replace hb12 := hJn.2 _ _ hb12
        try replace hb15 := hJn.2 _ _ hb15
        try replace hb21 := hJn.2 _ _ hb21
        try replace hmz := mark_mono hJn hmz
        refine WD.gR ?_; refine WD.loud (i := 21) zK rfl rfl rfl ?_; refine Op.cl (super_putI (k := 4) ⟨by decide, by decide⟩ ⟨by have := hm.era; omega, by have := hm.era; omega⟩) rfl Tryz.func162 rfl rfl rfl rfl ?_; rintro v J L1 - ⟨b21, rfl, rfl, rfl⟩
        try simp only [nf]
        refine WP.share (fun Jn hJn hb21 => ?_)
        replace hle := Imm.le_trans hle hJn
        replace hv := hv.mono (fun b o h => hJn.2 b o h)
        try replace hb5 := hJn.2 _ _ hb5
        try replace hb8 := hJn.2 _ _ hb8
        try replace hb12 := hJn.2 _ _ hb12
        try replace hb15 := hJn.2 _ _ hb15
        try replace hb18 := hJn.2 _ _ hb18
        try replace hmz := mark_mono hJn hmz
        refine WD.gR ?_; refine WD.loud (i := 24) zK rfl rfl rfl ?_; refine Op.buildSlice rfl ty_sl_116 ty_el2_116 rfl rfl rfl rfl (vs := [_, _, _, _, _, _, _, _]) rfl (segs := [(0, [_]), (1, [_]), (2, [_]), (3, [_]), (4, [_]), (5, [_]), (6, [_]), (7, [_])]) (cs := ([(.slice (some ⟨bz, 0, none⟩) 2 2, [80, 66]), (.slice (some ⟨b5, 0, none⟩) 1 1, leB p.parts.toNat 1), (.slice (some ⟨b8, 0, none⟩) 1 1, leB p.index.toNat 1), (.slice (some ⟨b12, 0, none⟩) 2 2, leB p.data.length 2), (.slice (some ⟨b15, 0, none⟩) 6 6, leB p.no.toNat 6), (.slice (some ⟨b18, 0, none⟩) 6 6, leB p.place.toNat 6), (.slice (some ⟨b21, 0, none⟩) 4 4, leB p.era.toNat 4), (.slice Av p.data.length cv, p.data)] : List (Value × List UInt8)).map (·.1)) rfl rfl zS (fun bx => ?_)
        refine WD.gR ?_; refine WD.loud (i := 25) zK rfl rfl rfl ?_; refine Op.cl (seg_cat hmz hb5 hb8 hb12 hb15 hb18 hb21 hv hl.2) rfl Tryz.func152 rfl rfl rfl rfl ?_; rintro v J Lo - ⟨rfl, hown⟩
        try simp only [nf]
        refine WD.gR ?_; refine WD.loud (i := 26) zK rfl rfl rfl ?_; refine Op.copyB (k := 0) (m := 220) (m2 := 22 + p.data.length) (q := 22 + p.data.length) (old := List.replicate 220 0) (new := pin p) (s := phead p ++ p.data) rfl ty_sl_25 rfl rfl rfl rfl (SlAt.blk (Nat.le_refl _)) (hown.rd (by intro p hp; simp [hp])) (Nat.min_eq_left (by omega)) (by rw [List.length_replicate]; omega) (pin_lay hl.2) (by repeat (first | exact Upd.head | apply Upd.tail | apply Upd.tailS)) ?_; refine WD.go (.inl rfl) (fun _ _ h => h.elim) ?_; refine WD.done zK ?_; refine WP.sub [(0, _), (1, _), (2, _), (3, _), (4, _), (11, _)] ?_ ⟨rfl, rfl, rfl, rfl, rfl, rfl, trivial⟩
        exact WP.mt Jn hle ⟨rfl, rfl, trivial⟩ rfl
       ·refine WP.oper rfl rfl ?_
        refine Op.cl (super_putI (k := 6) ⟨by decide, by decide⟩ ⟨by have := hm.no; omega, by have := hm.no; omega⟩) rfl Tryz.func162 rfl rfl rfl rfl ?_; rintro v J L1 - ⟨b15, rfl, rfl, rfl⟩
        try simp only [nf]
        refine WP.share (fun Jn hJn hb15 => ?_)
        replace hle := Imm.le_trans hle hJn
        replace hv := hv.mono (fun b o h => hJn.2 b o h)
        try replace hb5 := hJn.2 _ _ hb5
        try replace hb8 := hJn.2 _ _ hb8
        try replace hb12 := hJn.2 _ _ hb12
        try replace hb18 := hJn.2 _ _ hb18
        try replace hb21 := hJn.2 _ _ hb21
        try replace hmz := mark_mono hJn hmz
        refine WD.gR ?_; refine WD.both (i := 2) (j := 18) zK rfl rfl ?_ ?_
        ·refine WP.oper rfl rfl ?_
         refine Op.mark (cs := bytesV [80, 66]) rfl Tryz.underlying25 zK rfl rfl rfl (by repeat (first | exact Rm.chunk | exact Rm.here | exact Rm.nil0 | apply Rm.skip | apply Rm.skipS)) (fun Jn hJn hmz => ?_)
         replace hle := Imm.le_trans hle hJn
         replace hv := hv.mono (fun b o h => hJn.2 b o h)
         try replace hb5 := hJn.2 _ _ hb5
         try replace hb8 := hJn.2 _ _ hb8
         try replace hb12 := hJn.2 _ _ hb12
         try replace hb15 := hJn.2 _ _ hb15
         try replace hb18 := hJn.2 _ _ hb18
         try replace hb21 := hJn.2 _ _ hb21
         refine WD.gR ?_; refine WD.loud (i := 18) zK rfl rfl rfl ?_; refine Op.cl (super_putI (k := 6) ⟨by decide, by decide⟩ ⟨by have := hm.place; omega, by have := hm.place; omega⟩) rfl Tryz.func162 rfl rfl rfl rfl ?_; rintro v J L1 - ⟨b18, rfl, rfl, rfl⟩
         try simp only [nf]
         refine WP.share (fun Jn hJn hb18 => ?_)
         replace hle := Imm.le_trans hle hJn
         replace hv := hv.mono (fun b o h => hJn.2 b o h)
         try replace hb5 := hJn.2 _ _ hb5
         try replace hb8 := hJn.2 _ _ hb8
         try replace hb12 := hJn.2 _ _ hb12
         try replace hb15 := hJn.2 _ _ hb15
         try replace hb21 := hJn.2 _ _ hb21
         try replace hmz := mark_mono hJn hmz
         refine WD.gR ?_; refine WD.loud (i := 21) zK rfl rfl rfl ?_; refine Op.cl (super_putI (k := 4) ⟨by decide, by decide⟩ ⟨by have := hm.era; omega, by have := hm.era; omega⟩) rfl Tryz.func162 rfl rfl rfl rfl ?_; rintro v J L1 - ⟨b21, rfl, rfl, rfl⟩
         try simp only [nf]
         refine WP.share (fun Jn hJn hb21 => ?_)
         replace hle := Imm.le_trans hle hJn
         replace hv := hv.mono (fun b o h => hJn.2 b o h)
         try replace hb5 := hJn.2 _ _ hb5
         try replace hb8 := hJn.2 _ _ hb8
         try replace hb12 := hJn.2 _ _ hb12
         try replace hb15 := hJn.2 _ _ hb15
         try replace hb18 := hJn.2 _ _ hb18
         try replace hmz := mark_mono hJn hmz
         refine WD.gR ?_; refine WD.loud (i := 24) zK rfl rfl rfl ?_; refine Op.buildSlice rfl ty_sl_116 ty_el2_116 rfl rfl rfl rfl (vs := [_, _, _, _, _, _, _, _]) rfl (segs := [(0, [_]), (1, [_]), (2, [_]), (3, [_]), (4, [_]), (5, [_]), (6, [_]), (7, [_])]) (cs := ([(.slice (some ⟨bz, 0, none⟩) 2 2, [80, 66]), (.slice (some ⟨b5, 0, none⟩) 1 1, leB p.parts.toNat 1), (.slice (some ⟨b8, 0, none⟩) 1 1, leB p.index.toNat 1), (.slice (some ⟨b12, 0, none⟩) 2 2, leB p.data.length 2), (.slice (some ⟨b15, 0, none⟩) 6 6, leB p.no.toNat 6), (.slice (some ⟨b18, 0, none⟩) 6 6, leB p.place.toNat 6), (.slice (some ⟨b21, 0, none⟩) 4 4, leB p.era.toNat 4), (.slice Av p.data.length cv, p.data)] : List (Value × List UInt8)).map (·.1)) rfl rfl zS (fun bx => ?_)
         refine WD.gR ?_; refine WD.loud (i := 25) zK rfl rfl rfl ?_; refine Op.cl (seg_cat hmz hb5 hb8 hb12 hb15 hb18 hb21 hv hl.2) rfl Tryz.func152 rfl rfl rfl rfl ?_; rintro v J Lo - ⟨rfl, hown⟩
         try simp only [nf]
         refine WD.gR ?_; refine WD.loud (i := 26) zK rfl rfl rfl ?_; refine Op.copyB (k := 0) (m := 220) (m2 := 22 + p.data.length) (q := 22 + p.data.length) (old := List.replicate 220 0) (new := pin p) (s := phead p ++ p.data) rfl ty_sl_25 rfl rfl rfl rfl (SlAt.blk (Nat.le_refl _)) (hown.rd (by intro p hp; simp [hp])) (Nat.min_eq_left (by omega)) (by rw [List.length_replicate]; omega) (pin_lay hl.2) (by repeat (first | exact Upd.head | apply Upd.tail | apply Upd.tailS)) ?_; refine WD.go (.inl rfl) (fun _ _ h => h.elim) ?_; refine WD.done zK ?_; refine WP.sub [(0, _), (1, _), (2, _), (3, _), (4, _), (11, _)] ?_ ⟨rfl, rfl, rfl, rfl, rfl, rfl, trivial⟩
         exact WP.mt Jn hle ⟨rfl, rfl, trivial⟩ rfl
        ·refine WP.oper rfl rfl ?_
         refine Op.cl (super_putI (k := 6) ⟨by decide, by decide⟩ ⟨by have := hm.place; omega, by have := hm.place; omega⟩) rfl Tryz.func162 rfl rfl rfl rfl ?_; rintro v J L1 - ⟨b18, rfl, rfl, rfl⟩
         try simp only [nf]
         refine WP.share (fun Jn hJn hb18 => ?_)
         replace hle := Imm.le_trans hle hJn
         replace hv := hv.mono (fun b o h => hJn.2 b o h)
         try replace hb5 := hJn.2 _ _ hb5
         try replace hb8 := hJn.2 _ _ hb8
         try replace hb12 := hJn.2 _ _ hb12
         try replace hb15 := hJn.2 _ _ hb15
         try replace hb21 := hJn.2 _ _ hb21
         try replace hmz := mark_mono hJn hmz
         refine WD.gR ?_; refine WD.both (i := 2) (j := 21) zK rfl rfl ?_ ?_
         ·refine WP.oper rfl rfl ?_
          refine Op.mark (cs := bytesV [80, 66]) rfl Tryz.underlying25 zK rfl rfl rfl (by repeat (first | exact Rm.chunk | exact Rm.here | exact Rm.nil0 | apply Rm.skip | apply Rm.skipS)) (fun Jn hJn hmz => ?_)
          replace hle := Imm.le_trans hle hJn
          replace hv := hv.mono (fun b o h => hJn.2 b o h)
          try replace hb5 := hJn.2 _ _ hb5
          try replace hb8 := hJn.2 _ _ hb8
          try replace hb12 := hJn.2 _ _ hb12
          try replace hb15 := hJn.2 _ _ hb15
          try replace hb18 := hJn.2 _ _ hb18
          try replace hb21 := hJn.2 _ _ hb21
          refine WD.gR ?_; refine WD.loud (i := 21) zK rfl rfl rfl ?_; refine Op.cl (super_putI (k := 4) ⟨by decide, by decide⟩ ⟨by have := hm.era; omega, by have := hm.era; omega⟩) rfl Tryz.func162 rfl rfl rfl rfl ?_; rintro v J L1 - ⟨b21, rfl, rfl, rfl⟩
          try simp only [nf]
          refine WP.share (fun Jn hJn hb21 => ?_)
          replace hle := Imm.le_trans hle hJn
          replace hv := hv.mono (fun b o h => hJn.2 b o h)
          try replace hb5 := hJn.2 _ _ hb5
          try replace hb8 := hJn.2 _ _ hb8
          try replace hb12 := hJn.2 _ _ hb12
          try replace hb15 := hJn.2 _ _ hb15
          try replace hb18 := hJn.2 _ _ hb18
          try replace hmz := mark_mono hJn hmz
          refine WD.gR ?_; refine WD.loud (i := 24) zK rfl rfl rfl ?_; refine Op.buildSlice rfl ty_sl_116 ty_el2_116 rfl rfl rfl rfl (vs := [_, _, _, _, _, _, _, _]) rfl (segs := [(0, [_]), (1, [_]), (2, [_]), (3, [_]), (4, [_]), (5, [_]), (6, [_]), (7, [_])]) (cs := ([(.slice (some ⟨bz, 0, none⟩) 2 2, [80, 66]), (.slice (some ⟨b5, 0, none⟩) 1 1, leB p.parts.toNat 1), (.slice (some ⟨b8, 0, none⟩) 1 1, leB p.index.toNat 1), (.slice (some ⟨b12, 0, none⟩) 2 2, leB p.data.length 2), (.slice (some ⟨b15, 0, none⟩) 6 6, leB p.no.toNat 6), (.slice (some ⟨b18, 0, none⟩) 6 6, leB p.place.toNat 6), (.slice (some ⟨b21, 0, none⟩) 4 4, leB p.era.toNat 4), (.slice Av p.data.length cv, p.data)] : List (Value × List UInt8)).map (·.1)) rfl rfl zS (fun bx => ?_)
          refine WD.gR ?_; refine WD.loud (i := 25) zK rfl rfl rfl ?_; refine Op.cl (seg_cat hmz hb5 hb8 hb12 hb15 hb18 hb21 hv hl.2) rfl Tryz.func152 rfl rfl rfl rfl ?_; rintro v J Lo - ⟨rfl, hown⟩
          try simp only [nf]
          refine WD.gR ?_; refine WD.loud (i := 26) zK rfl rfl rfl ?_; refine Op.copyB (k := 0) (m := 220) (m2 := 22 + p.data.length) (q := 22 + p.data.length) (old := List.replicate 220 0) (new := pin p) (s := phead p ++ p.data) rfl ty_sl_25 rfl rfl rfl rfl (SlAt.blk (Nat.le_refl _)) (hown.rd (by intro p hp; simp [hp])) (Nat.min_eq_left (by omega)) (by rw [List.length_replicate]; omega) (pin_lay hl.2) (by repeat (first | exact Upd.head | apply Upd.tail | apply Upd.tailS)) ?_; refine WD.go (.inl rfl) (fun _ _ h => h.elim) ?_; refine WD.done zK ?_; refine WP.sub [(0, _), (1, _), (2, _), (3, _), (4, _), (11, _)] ?_ ⟨rfl, rfl, rfl, rfl, rfl, rfl, trivial⟩
          exact WP.mt Jn hle ⟨rfl, rfl, trivial⟩ rfl
         ·refine WP.oper rfl rfl ?_
          refine Op.cl (super_putI (k := 4) ⟨by decide, by decide⟩ ⟨by have := hm.era; omega, by have := hm.era; omega⟩) rfl Tryz.func162 rfl rfl rfl rfl ?_; rintro v J L1 - ⟨b21, rfl, rfl, rfl⟩
          try simp only [nf]
          refine WP.share (fun Jn hJn hb21 => ?_)
          replace hle := Imm.le_trans hle hJn
          replace hv := hv.mono (fun b o h => hJn.2 b o h)
          try replace hb5 := hJn.2 _ _ hb5
          try replace hb8 := hJn.2 _ _ hb8
          try replace hb12 := hJn.2 _ _ hb12
          try replace hb15 := hJn.2 _ _ hb15
          try replace hb18 := hJn.2 _ _ hb18
          try replace hmz := mark_mono hJn hmz
          refine WD.gR ?_; refine WD.loud (i := 2) zK rfl rfl rfl ?_; refine Op.mark (cs := bytesV [80, 66]) rfl Tryz.underlying25 zK rfl rfl rfl (by repeat (first | exact Rm.chunk | exact Rm.here | exact Rm.nil0 | apply Rm.skip | apply Rm.skipS)) (fun Jn hJn hmz => ?_)
          replace hle := Imm.le_trans hle hJn
          replace hv := hv.mono (fun b o h => hJn.2 b o h)
          try replace hb5 := hJn.2 _ _ hb5
          try replace hb8 := hJn.2 _ _ hb8
          try replace hb12 := hJn.2 _ _ hb12
          try replace hb15 := hJn.2 _ _ hb15
          try replace hb18 := hJn.2 _ _ hb18
          try replace hb21 := hJn.2 _ _ hb21
          refine WD.gR ?_; refine WD.loud (i := 24) zK rfl rfl rfl ?_; refine Op.buildSlice rfl ty_sl_116 ty_el2_116 rfl rfl rfl rfl (vs := [_, _, _, _, _, _, _, _]) rfl (segs := [(0, [_]), (1, [_]), (2, [_]), (3, [_]), (4, [_]), (5, [_]), (6, [_]), (7, [_])]) (cs := ([(.slice (some ⟨bz, 0, none⟩) 2 2, [80, 66]), (.slice (some ⟨b5, 0, none⟩) 1 1, leB p.parts.toNat 1), (.slice (some ⟨b8, 0, none⟩) 1 1, leB p.index.toNat 1), (.slice (some ⟨b12, 0, none⟩) 2 2, leB p.data.length 2), (.slice (some ⟨b15, 0, none⟩) 6 6, leB p.no.toNat 6), (.slice (some ⟨b18, 0, none⟩) 6 6, leB p.place.toNat 6), (.slice (some ⟨b21, 0, none⟩) 4 4, leB p.era.toNat 4), (.slice Av p.data.length cv, p.data)] : List (Value × List UInt8)).map (·.1)) rfl rfl zS (fun bx => ?_)
          refine WD.gR ?_; refine WD.loud (i := 25) zK rfl rfl rfl ?_; refine Op.cl (seg_cat hmz hb5 hb8 hb12 hb15 hb18 hb21 hv hl.2) rfl Tryz.func152 rfl rfl rfl rfl ?_; rintro v J Lo - ⟨rfl, hown⟩
          try simp only [nf]
          refine WD.gR ?_; refine WD.loud (i := 26) zK rfl rfl rfl ?_; refine Op.copyB (k := 0) (m := 220) (m2 := 22 + p.data.length) (q := 22 + p.data.length) (old := List.replicate 220 0) (new := pin p) (s := phead p ++ p.data) rfl ty_sl_25 rfl rfl rfl rfl (SlAt.blk (Nat.le_refl _)) (hown.rd (by intro p hp; simp [hp])) (Nat.min_eq_left (by omega)) (by rw [List.length_replicate]; omega) (pin_lay hl.2) (by repeat (first | exact Upd.head | apply Upd.tail | apply Upd.tailS)) ?_; refine WD.go (.inl rfl) (fun _ _ h => h.elim) ?_; refine WD.done zK ?_; refine WP.sub [(0, _), (1, _), (2, _), (3, _), (4, _), (11, _)] ?_ ⟨rfl, rfl, rfl, rfl, rfl, rfl, trivial⟩
          exact WP.mt Jn hle ⟨rfl, rfl, trivial⟩ rfl
     ·refine WP.oper rfl rfl ?_
      refine Op.cl (super_put (m := p.data.length) (k := 2) ⟨by decide, by decide⟩ (by omega)) rfl Tryz.func162 rfl rfl rfl rfl ?_; rintro v J L1 - ⟨b12, rfl, rfl, rfl⟩
      try simp only [nf]
      refine WP.share (fun Jn hJn hb12 => ?_)
      replace hle := Imm.le_trans hle hJn
      replace hv := hv.mono (fun b o h => hJn.2 b o h)
      try replace hb5 := hJn.2 _ _ hb5
      try replace hb8 := hJn.2 _ _ hb8
      try replace hb15 := hJn.2 _ _ hb15
      try replace hb18 := hJn.2 _ _ hb18
      try replace hb21 := hJn.2 _ _ hb21
      try replace hmz := mark_mono hJn hmz
      refine WD.gR ?_; refine WD.both (i := 1) (j := 15) zK rfl rfl ?_ ?_
      ·refine WP.oper rfl rfl ?_
       refine Op.buildSlice rfl ty_sl_25 ty_el2_25 rfl rfl rfl rfl (vs := [_, _]) rfl (segs := [(0, [_]), (1, [_])]) (cs := bytesV [80, 66]) rfl rfl zS (fun bz => ?_)
       refine WD.gR ?_; refine WD.both (i := 2) (j := 15) zK rfl rfl ?_ ?_
       ·refine WP.oper rfl rfl ?_
        refine Op.mark (cs := bytesV [80, 66]) rfl Tryz.underlying25 zK rfl rfl rfl (by repeat (first | exact Rm.chunk | exact Rm.here | exact Rm.nil0 | apply Rm.skip | apply Rm.skipS)) (fun Jn hJn hmz => ?_)
        replace hle := Imm.le_trans hle hJn
        replace hv := hv.mono (fun b o h => hJn.2 b o h)
        try replace hb5 := hJn.2 _ _ hb5
        try replace hb8 := hJn.2 _ _ hb8
        try replace hb12 := hJn.2 _ _ hb12
        try replace hb15 := hJn.2 _ _ hb15
        try replace hb18 := hJn.2 _ _ hb18
        try replace hb21 := hJn.2 _ _ hb21
        refine WD.gR ?_; refine WD.loud (i := 15) zK rfl rfl rfl ?_; refine Op.cl (super_putI (k := 6) ⟨by decide, by decide⟩ ⟨by have := hm.no; omega, by have := hm.no; omega⟩) rfl Tryz.func162 rfl rfl rfl rfl ?_; rintro v J L1 - ⟨b15, rfl, rfl, rfl⟩
        try simp only [nf]
        refine WP.share (fun Jn hJn hb15 => ?_)
        replace hle := Imm.le_trans hle hJn
        replace hv := hv.mono (fun b o h => hJn.2 b o h)
        try replace hb5 := hJn.2 _ _ hb5
        try replace hb8 := hJn.2 _ _ hb8
        try replace hb12 := hJn.2 _ _ hb12
        try replace hb18 := hJn.2 _ _ hb18
        try replace hb21 := hJn.2 _ _ hb21
        try replace hmz := mark_mono hJn hmz
        refine WD.gR ?_; refine WD.loud (i := 18) zK rfl rfl rfl ?_; refine Op.cl (super_putI (k := 6) ⟨by decide, by decide⟩ ⟨by have := hm.place; omega, by have := hm.place; omega⟩) rfl Tryz.func162 rfl rfl rfl rfl ?_; rintro v J L1 - ⟨b18, rfl, rfl, rfl⟩
        try simp only [nf]
        refine WP.share (fun Jn hJn hb18 => ?_)
        replace hle := Imm.le_trans hle hJn
        replace hv := hv.mono (fun b o h => hJn.2 b o h)
        try replace hb5 := hJn.2 _ _ hb5
        try replace hb8 := hJn.2 _ _ hb8
        try replace hb12 := hJn.2 _ _ hb12
        try replace hb15 := hJn.2 _ _ hb15
        try replace hb21 := hJn.2 _ _ hb21
        try replace hmz := mark_mono hJn hmz
        refine WD.gR ?_; refine WD.loud (i := 21) zK rfl rfl rfl ?_; refine Op.cl (super_putI (k := 4) ⟨by decide, by decide⟩ ⟨by have := hm.era; omega, by have := hm.era; omega⟩) rfl Tryz.func162 rfl rfl rfl rfl ?_; rintro v J L1 - ⟨b21, rfl, rfl, rfl⟩
        try simp only [nf]
        refine WP.share (fun Jn hJn hb21 => ?_)
        replace hle := Imm.le_trans hle hJn
        replace hv := hv.mono (fun b o h => hJn.2 b o h)
        try replace hb5 := hJn.2 _ _ hb5
        try replace hb8 := hJn.2 _ _ hb8
        try replace hb12 := hJn.2 _ _ hb12
        try replace hb15 := hJn.2 _ _ hb15
        try replace hb18 := hJn.2 _ _ hb18
        try replace hmz := mark_mono hJn hmz
        refine WD.gR ?_; refine WD.loud (i := 24) zK rfl rfl rfl ?_; refine Op.buildSlice rfl ty_sl_116 ty_el2_116 rfl rfl rfl rfl (vs := [_, _, _, _, _, _, _, _]) rfl (segs := [(0, [_]), (1, [_]), (2, [_]), (3, [_]), (4, [_]), (5, [_]), (6, [_]), (7, [_])]) (cs := ([(.slice (some ⟨bz, 0, none⟩) 2 2, [80, 66]), (.slice (some ⟨b5, 0, none⟩) 1 1, leB p.parts.toNat 1), (.slice (some ⟨b8, 0, none⟩) 1 1, leB p.index.toNat 1), (.slice (some ⟨b12, 0, none⟩) 2 2, leB p.data.length 2), (.slice (some ⟨b15, 0, none⟩) 6 6, leB p.no.toNat 6), (.slice (some ⟨b18, 0, none⟩) 6 6, leB p.place.toNat 6), (.slice (some ⟨b21, 0, none⟩) 4 4, leB p.era.toNat 4), (.slice Av p.data.length cv, p.data)] : List (Value × List UInt8)).map (·.1)) rfl rfl zS (fun bx => ?_)
        refine WD.gR ?_; refine WD.loud (i := 25) zK rfl rfl rfl ?_; refine Op.cl (seg_cat hmz hb5 hb8 hb12 hb15 hb18 hb21 hv hl.2) rfl Tryz.func152 rfl rfl rfl rfl ?_; rintro v J Lo - ⟨rfl, hown⟩
        try simp only [nf]
        refine WD.gR ?_; refine WD.loud (i := 26) zK rfl rfl rfl ?_; refine Op.copyB (k := 0) (m := 220) (m2 := 22 + p.data.length) (q := 22 + p.data.length) (old := List.replicate 220 0) (new := pin p) (s := phead p ++ p.data) rfl ty_sl_25 rfl rfl rfl rfl (SlAt.blk (Nat.le_refl _)) (hown.rd (by intro p hp; simp [hp])) (Nat.min_eq_left (by omega)) (by rw [List.length_replicate]; omega) (pin_lay hl.2) (by repeat (first | exact Upd.head | apply Upd.tail | apply Upd.tailS)) ?_; refine WD.go (.inl rfl) (fun _ _ h => h.elim) ?_; refine WD.done zK ?_; refine WP.sub [(0, _), (1, _), (2, _), (3, _), (4, _), (11, _)] ?_ ⟨rfl, rfl, rfl, rfl, rfl, rfl, trivial⟩
        exact WP.mt Jn hle ⟨rfl, rfl, trivial⟩ rfl
       ·refine WP.oper rfl rfl ?_
        refine Op.cl (super_putI (k := 6) ⟨by decide, by decide⟩ ⟨by have := hm.no; omega, by have := hm.no; omega⟩) rfl Tryz.func162 rfl rfl rfl rfl ?_; rintro v J L1 - ⟨b15, rfl, rfl, rfl⟩
        try simp only [nf]
        refine WP.share (fun Jn hJn hb15 => ?_)
        replace hle := Imm.le_trans hle hJn
        replace hv := hv.mono (fun b o h => hJn.2 b o h)
        try replace hb5 := hJn.2 _ _ hb5
        try replace hb8 := hJn.2 _ _ hb8
        try replace hb12 := hJn.2 _ _ hb12
        try replace hb18 := hJn.2 _ _ hb18
        try replace hb21 := hJn.2 _ _ hb21
        try replace hmz := mark_mono hJn hmz
        refine WD.gR ?_; refine WD.both (i := 2) (j := 18) zK rfl rfl ?_ ?_
        ·refine WP.oper rfl rfl ?_
         refine Op.mark (cs := bytesV [80, 66]) rfl Tryz.underlying25 zK rfl rfl rfl (by repeat (first | exact Rm.chunk | exact Rm.here | exact Rm.nil0 | apply Rm.skip | apply Rm.skipS)) (fun Jn hJn hmz => ?_)
         replace hle := Imm.le_trans hle hJn
         replace hv := hv.mono (fun b o h => hJn.2 b o h)
         try replace hb5 := hJn.2 _ _ hb5
         try replace hb8 := hJn.2 _ _ hb8
         try replace hb12 := hJn.2 _ _ hb12
         try replace hb15 := hJn.2 _ _ hb15
         try replace hb18 := hJn.2 _ _ hb18
         try replace hb21 := hJn.2 _ _ hb21
         refine WD.gR ?_; refine WD.loud (i := 18) zK rfl rfl rfl ?_; refine Op.cl (super_putI (k := 6) ⟨by decide, by decide⟩ ⟨by have := hm.place; omega, by have := hm.place; omega⟩) rfl Tryz.func162 rfl rfl rfl rfl ?_; rintro v J L1 - ⟨b18, rfl, rfl, rfl⟩
         try simp only [nf]
         refine WP.share (fun Jn hJn hb18 => ?_)
         replace hle := Imm.le_trans hle hJn
         replace hv := hv.mono (fun b o h => hJn.2 b o h)
         try replace hb5 := hJn.2 _ _ hb5
         try replace hb8 := hJn.2 _ _ hb8
         try replace hb12 := hJn.2 _ _ hb12
         try replace hb15 := hJn.2 _ _ hb15
         try replace hb21 := hJn.2 _ _ hb21
         try replace hmz := mark_mono hJn hmz
         refine WD.gR ?_; refine WD.loud (i := 21) zK rfl rfl rfl ?_; refine Op.cl (super_putI (k := 4) ⟨by decide, by decide⟩ ⟨by have := hm.era; omega, by have := hm.era; omega⟩) rfl Tryz.func162 rfl rfl rfl rfl ?_; rintro v J L1 - ⟨b21, rfl, rfl, rfl⟩
         try simp only [nf]
         refine WP.share (fun Jn hJn hb21 => ?_)
         replace hle := Imm.le_trans hle hJn
         replace hv := hv.mono (fun b o h => hJn.2 b o h)
         try replace hb5 := hJn.2 _ _ hb5
         try replace hb8 := hJn.2 _ _ hb8
         try replace hb12 := hJn.2 _ _ hb12
         try replace hb15 := hJn.2 _ _ hb15
         try replace hb18 := hJn.2 _ _ hb18
         try replace hmz := mark_mono hJn hmz
         refine WD.gR ?_; refine WD.loud (i := 24) zK rfl rfl rfl ?_; refine Op.buildSlice rfl ty_sl_116 ty_el2_116 rfl rfl rfl rfl (vs := [_, _, _, _, _, _, _, _]) rfl (segs := [(0, [_]), (1, [_]), (2, [_]), (3, [_]), (4, [_]), (5, [_]), (6, [_]), (7, [_])]) (cs := ([(.slice (some ⟨bz, 0, none⟩) 2 2, [80, 66]), (.slice (some ⟨b5, 0, none⟩) 1 1, leB p.parts.toNat 1), (.slice (some ⟨b8, 0, none⟩) 1 1, leB p.index.toNat 1), (.slice (some ⟨b12, 0, none⟩) 2 2, leB p.data.length 2), (.slice (some ⟨b15, 0, none⟩) 6 6, leB p.no.toNat 6), (.slice (some ⟨b18, 0, none⟩) 6 6, leB p.place.toNat 6), (.slice (some ⟨b21, 0, none⟩) 4 4, leB p.era.toNat 4), (.slice Av p.data.length cv, p.data)] : List (Value × List UInt8)).map (·.1)) rfl rfl zS (fun bx => ?_)
         refine WD.gR ?_; refine WD.loud (i := 25) zK rfl rfl rfl ?_; refine Op.cl (seg_cat hmz hb5 hb8 hb12 hb15 hb18 hb21 hv hl.2) rfl Tryz.func152 rfl rfl rfl rfl ?_; rintro v J Lo - ⟨rfl, hown⟩
         try simp only [nf]
         refine WD.gR ?_; refine WD.loud (i := 26) zK rfl rfl rfl ?_; refine Op.copyB (k := 0) (m := 220) (m2 := 22 + p.data.length) (q := 22 + p.data.length) (old := List.replicate 220 0) (new := pin p) (s := phead p ++ p.data) rfl ty_sl_25 rfl rfl rfl rfl (SlAt.blk (Nat.le_refl _)) (hown.rd (by intro p hp; simp [hp])) (Nat.min_eq_left (by omega)) (by rw [List.length_replicate]; omega) (pin_lay hl.2) (by repeat (first | exact Upd.head | apply Upd.tail | apply Upd.tailS)) ?_; refine WD.go (.inl rfl) (fun _ _ h => h.elim) ?_; refine WD.done zK ?_; refine WP.sub [(0, _), (1, _), (2, _), (3, _), (4, _), (11, _)] ?_ ⟨rfl, rfl, rfl, rfl, rfl, rfl, trivial⟩
         exact WP.mt Jn hle ⟨rfl, rfl, trivial⟩ rfl
        ·refine WP.oper rfl rfl ?_
         refine Op.cl (super_putI (k := 6) ⟨by decide, by decide⟩ ⟨by have := hm.place; omega, by have := hm.place; omega⟩) rfl Tryz.func162 rfl rfl rfl rfl ?_; rintro v J L1 - ⟨b18, rfl, rfl, rfl⟩
         try simp only [nf]
         refine WP.share (fun Jn hJn hb18 => ?_)
         replace hle := Imm.le_trans hle hJn
         replace hv := hv.mono (fun b o h => hJn.2 b o h)
         try replace hb5 := hJn.2 _ _ hb5
         try replace hb8 := hJn.2 _ _ hb8
         try replace hb12 := hJn.2 _ _ hb12
         try replace hb15 := hJn.2 _ _ hb15
         try replace hb21 := hJn.2 _ _ hb21
         try replace hmz := mark_mono hJn hmz
         refine WD.gR ?_; refine WD.both (i := 2) (j := 21) zK rfl rfl ?_ ?_
         ·refine WP.oper rfl rfl ?_
          refine Op.mark (cs := bytesV [80, 66]) rfl Tryz.underlying25 zK rfl rfl rfl (by repeat (first | exact Rm.chunk | exact Rm.here | exact Rm.nil0 | apply Rm.skip | apply Rm.skipS)) (fun Jn hJn hmz => ?_)
          replace hle := Imm.le_trans hle hJn
          replace hv := hv.mono (fun b o h => hJn.2 b o h)
          try replace hb5 := hJn.2 _ _ hb5
          try replace hb8 := hJn.2 _ _ hb8
          try replace hb12 := hJn.2 _ _ hb12
          try replace hb15 := hJn.2 _ _ hb15
          try replace hb18 := hJn.2 _ _ hb18
          try replace hb21 := hJn.2 _ _ hb21
          refine WD.gR ?_; refine WD.loud (i := 21) zK rfl rfl rfl ?_; refine Op.cl (super_putI (k := 4) ⟨by decide, by decide⟩ ⟨by have := hm.era; omega, by have := hm.era; omega⟩) rfl Tryz.func162 rfl rfl rfl rfl ?_; rintro v J L1 - ⟨b21, rfl, rfl, rfl⟩
          try simp only [nf]
          refine WP.share (fun Jn hJn hb21 => ?_)
          replace hle := Imm.le_trans hle hJn
          replace hv := hv.mono (fun b o h => hJn.2 b o h)
          try replace hb5 := hJn.2 _ _ hb5
          try replace hb8 := hJn.2 _ _ hb8
          try replace hb12 := hJn.2 _ _ hb12
          try replace hb15 := hJn.2 _ _ hb15
          try replace hb18 := hJn.2 _ _ hb18
          try replace hmz := mark_mono hJn hmz
          refine WD.gR ?_; refine WD.loud (i := 24) zK rfl rfl rfl ?_; refine Op.buildSlice rfl ty_sl_116 ty_el2_116 rfl rfl rfl rfl (vs := [_, _, _, _, _, _, _, _]) rfl (segs := [(0, [_]), (1, [_]), (2, [_]), (3, [_]), (4, [_]), (5, [_]), (6, [_]), (7, [_])]) (cs := ([(.slice (some ⟨bz, 0, none⟩) 2 2, [80, 66]), (.slice (some ⟨b5, 0, none⟩) 1 1, leB p.parts.toNat 1), (.slice (some ⟨b8, 0, none⟩) 1 1, leB p.index.toNat 1), (.slice (some ⟨b12, 0, none⟩) 2 2, leB p.data.length 2), (.slice (some ⟨b15, 0, none⟩) 6 6, leB p.no.toNat 6), (.slice (some ⟨b18, 0, none⟩) 6 6, leB p.place.toNat 6), (.slice (some ⟨b21, 0, none⟩) 4 4, leB p.era.toNat 4), (.slice Av p.data.length cv, p.data)] : List (Value × List UInt8)).map (·.1)) rfl rfl zS (fun bx => ?_)
          refine WD.gR ?_; refine WD.loud (i := 25) zK rfl rfl rfl ?_; refine Op.cl (seg_cat hmz hb5 hb8 hb12 hb15 hb18 hb21 hv hl.2) rfl Tryz.func152 rfl rfl rfl rfl ?_; rintro v J Lo - ⟨rfl, hown⟩
          try simp only [nf]
          refine WD.gR ?_; refine WD.loud (i := 26) zK rfl rfl rfl ?_; refine Op.copyB (k := 0) (m := 220) (m2 := 22 + p.data.length) (q := 22 + p.data.length) (old := List.replicate 220 0) (new := pin p) (s := phead p ++ p.data) rfl ty_sl_25 rfl rfl rfl rfl (SlAt.blk (Nat.le_refl _)) (hown.rd (by intro p hp; simp [hp])) (Nat.min_eq_left (by omega)) (by rw [List.length_replicate]; omega) (pin_lay hl.2) (by repeat (first | exact Upd.head | apply Upd.tail | apply Upd.tailS)) ?_; refine WD.go (.inl rfl) (fun _ _ h => h.elim) ?_; refine WD.done zK ?_; refine WP.sub [(0, _), (1, _), (2, _), (3, _), (4, _), (11, _)] ?_ ⟨rfl, rfl, rfl, rfl, rfl, rfl, trivial⟩
          exact WP.mt Jn hle ⟨rfl, rfl, trivial⟩ rfl
         ·refine WP.oper rfl rfl ?_
          refine Op.cl (super_putI (k := 4) ⟨by decide, by decide⟩ ⟨by have := hm.era; omega, by have := hm.era; omega⟩) rfl Tryz.func162 rfl rfl rfl rfl ?_; rintro v J L1 - ⟨b21, rfl, rfl, rfl⟩
          try simp only [nf]
          refine WP.share (fun Jn hJn hb21 => ?_)
          replace hle := Imm.le_trans hle hJn
          replace hv := hv.mono (fun b o h => hJn.2 b o h)
          try replace hb5 := hJn.2 _ _ hb5
          try replace hb8 := hJn.2 _ _ hb8
          try replace hb12 := hJn.2 _ _ hb12
          try replace hb15 := hJn.2 _ _ hb15
          try replace hb18 := hJn.2 _ _ hb18
          try replace hmz := mark_mono hJn hmz
          refine WD.gR ?_; refine WD.loud (i := 2) zK rfl rfl rfl ?_; refine Op.mark (cs := bytesV [80, 66]) rfl Tryz.underlying25 zK rfl rfl rfl (by repeat (first | exact Rm.chunk | exact Rm.here | exact Rm.nil0 | apply Rm.skip | apply Rm.skipS)) (fun Jn hJn hmz => ?_)
          replace hle := Imm.le_trans hle hJn
          replace hv := hv.mono (fun b o h => hJn.2 b o h)
          try replace hb5 := hJn.2 _ _ hb5
          try replace hb8 := hJn.2 _ _ hb8
          try replace hb12 := hJn.2 _ _ hb12
          try replace hb15 := hJn.2 _ _ hb15
          try replace hb18 := hJn.2 _ _ hb18
          try replace hb21 := hJn.2 _ _ hb21
          refine WD.gR ?_; refine WD.loud (i := 24) zK rfl rfl rfl ?_; refine Op.buildSlice rfl ty_sl_116 ty_el2_116 rfl rfl rfl rfl (vs := [_, _, _, _, _, _, _, _]) rfl (segs := [(0, [_]), (1, [_]), (2, [_]), (3, [_]), (4, [_]), (5, [_]), (6, [_]), (7, [_])]) (cs := ([(.slice (some ⟨bz, 0, none⟩) 2 2, [80, 66]), (.slice (some ⟨b5, 0, none⟩) 1 1, leB p.parts.toNat 1), (.slice (some ⟨b8, 0, none⟩) 1 1, leB p.index.toNat 1), (.slice (some ⟨b12, 0, none⟩) 2 2, leB p.data.length 2), (.slice (some ⟨b15, 0, none⟩) 6 6, leB p.no.toNat 6), (.slice (some ⟨b18, 0, none⟩) 6 6, leB p.place.toNat 6), (.slice (some ⟨b21, 0, none⟩) 4 4, leB p.era.toNat 4), (.slice Av p.data.length cv, p.data)] : List (Value × List UInt8)).map (·.1)) rfl rfl zS (fun bx => ?_)
          refine WD.gR ?_; refine WD.loud (i := 25) zK rfl rfl rfl ?_; refine Op.cl (seg_cat hmz hb5 hb8 hb12 hb15 hb18 hb21 hv hl.2) rfl Tryz.func152 rfl rfl rfl rfl ?_; rintro v J Lo - ⟨rfl, hown⟩
          try simp only [nf]
          refine WD.gR ?_; refine WD.loud (i := 26) zK rfl rfl rfl ?_; refine Op.copyB (k := 0) (m := 220) (m2 := 22 + p.data.length) (q := 22 + p.data.length) (old := List.replicate 220 0) (new := pin p) (s := phead p ++ p.data) rfl ty_sl_25 rfl rfl rfl rfl (SlAt.blk (Nat.le_refl _)) (hown.rd (by intro p hp; simp [hp])) (Nat.min_eq_left (by omega)) (by rw [List.length_replicate]; omega) (pin_lay hl.2) (by repeat (first | exact Upd.head | apply Upd.tail | apply Upd.tailS)) ?_; refine WD.go (.inl rfl) (fun _ _ h => h.elim) ?_; refine WD.done zK ?_; refine WP.sub [(0, _), (1, _), (2, _), (3, _), (4, _), (11, _)] ?_ ⟨rfl, rfl, rfl, rfl, rfl, rfl, trivial⟩
          exact WP.mt Jn hle ⟨rfl, rfl, trivial⟩ rfl
      ·refine WP.oper rfl rfl ?_
       refine Op.cl (super_putI (k := 6) ⟨by decide, by decide⟩ ⟨by have := hm.no; omega, by have := hm.no; omega⟩) rfl Tryz.func162 rfl rfl rfl rfl ?_; rintro v J L1 - ⟨b15, rfl, rfl, rfl⟩
       try simp only [nf]
       refine WP.share (fun Jn hJn hb15 => ?_)
       replace hle := Imm.le_trans hle hJn
       replace hv := hv.mono (fun b o h => hJn.2 b o h)
       try replace hb5 := hJn.2 _ _ hb5
       try replace hb8 := hJn.2 _ _ hb8
       try replace hb12 := hJn.2 _ _ hb12
       try replace hb18 := hJn.2 _ _ hb18
       try replace hb21 := hJn.2 _ _ hb21
       try replace hmz := mark_mono hJn hmz
       refine WD.gR ?_; refine WD.both (i := 1) (j := 18) zK rfl rfl ?_ ?_
       ·refine WP.oper rfl rfl ?_
        refine Op.buildSlice rfl ty_sl_25 ty_el2_25 rfl rfl rfl rfl (vs := [_, _]) rfl (segs := [(0, [_]), (1, [_])]) (cs := bytesV [80, 66]) rfl rfl zS (fun bz => ?_)
        refine WD.gR ?_; refine WD.both (i := 2) (j := 18) zK rfl rfl ?_ ?_
        ·refine WP.oper rfl rfl ?_
         refine Op.mark (cs := bytesV [80, 66]) rfl Tryz.underlying25 zK rfl rfl rfl (by repeat (first | exact Rm.chunk | exact Rm.here | exact Rm.nil0 | apply Rm.skip | apply Rm.skipS)) (fun Jn hJn hmz => ?_)
         replace hle := Imm.le_trans hle hJn
         replace hv := hv.mono (fun b o h => hJn.2 b o h)
         try replace hb5 := hJn.2 _ _ hb5
         try replace hb8 := hJn.2 _ _ hb8
         try replace hb12 := hJn.2 _ _ hb12
         try replace hb15 := hJn.2 _ _ hb15
         try replace hb18 := hJn.2 _ _ hb18
         try replace hb21 := hJn.2 _ _ hb21
         refine WD.gR ?_; refine WD.loud (i := 18) zK rfl rfl rfl ?_; refine Op.cl (super_putI (k := 6) ⟨by decide, by decide⟩ ⟨by have := hm.place; omega, by have := hm.place; omega⟩) rfl Tryz.func162 rfl rfl rfl rfl ?_; rintro v J L1 - ⟨b18, rfl, rfl, rfl⟩
         try simp only [nf]
         refine WP.share (fun Jn hJn hb18 => ?_)
         replace hle := Imm.le_trans hle hJn
         replace hv := hv.mono (fun b o h => hJn.2 b o h)
         try replace hb5 := hJn.2 _ _ hb5
         try replace hb8 := hJn.2 _ _ hb8
         try replace hb12 := hJn.2 _ _ hb12
         try replace hb15 := hJn.2 _ _ hb15
         try replace hb21 := hJn.2 _ _ hb21
         try replace hmz := mark_mono hJn hmz
         refine WD.gR ?_; refine WD.loud (i := 21) zK rfl rfl rfl ?_; refine Op.cl (super_putI (k := 4) ⟨by decide, by decide⟩ ⟨by have := hm.era; omega, by have := hm.era; omega⟩) rfl Tryz.func162 rfl rfl rfl rfl ?_; rintro v J L1 - ⟨b21, rfl, rfl, rfl⟩
         try simp only [nf]
         refine WP.share (fun Jn hJn hb21 => ?_)
         replace hle := Imm.le_trans hle hJn
         replace hv := hv.mono (fun b o h => hJn.2 b o h)
         try replace hb5 := hJn.2 _ _ hb5
         try replace hb8 := hJn.2 _ _ hb8
         try replace hb12 := hJn.2 _ _ hb12
         try replace hb15 := hJn.2 _ _ hb15
         try replace hb18 := hJn.2 _ _ hb18
         try replace hmz := mark_mono hJn hmz
         refine WD.gR ?_; refine WD.loud (i := 24) zK rfl rfl rfl ?_; refine Op.buildSlice rfl ty_sl_116 ty_el2_116 rfl rfl rfl rfl (vs := [_, _, _, _, _, _, _, _]) rfl (segs := [(0, [_]), (1, [_]), (2, [_]), (3, [_]), (4, [_]), (5, [_]), (6, [_]), (7, [_])]) (cs := ([(.slice (some ⟨bz, 0, none⟩) 2 2, [80, 66]), (.slice (some ⟨b5, 0, none⟩) 1 1, leB p.parts.toNat 1), (.slice (some ⟨b8, 0, none⟩) 1 1, leB p.index.toNat 1), (.slice (some ⟨b12, 0, none⟩) 2 2, leB p.data.length 2), (.slice (some ⟨b15, 0, none⟩) 6 6, leB p.no.toNat 6), (.slice (some ⟨b18, 0, none⟩) 6 6, leB p.place.toNat 6), (.slice (some ⟨b21, 0, none⟩) 4 4, leB p.era.toNat 4), (.slice Av p.data.length cv, p.data)] : List (Value × List UInt8)).map (·.1)) rfl rfl zS (fun bx => ?_)
         refine WD.gR ?_; refine WD.loud (i := 25) zK rfl rfl rfl ?_; refine Op.cl (seg_cat hmz hb5 hb8 hb12 hb15 hb18 hb21 hv hl.2) rfl Tryz.func152 rfl rfl rfl rfl ?_; rintro v J Lo - ⟨rfl, hown⟩
         try simp only [nf]
         refine WD.gR ?_; refine WD.loud (i := 26) zK rfl rfl rfl ?_; refine Op.copyB (k := 0) (m := 220) (m2 := 22 + p.data.length) (q := 22 + p.data.length) (old := List.replicate 220 0) (new := pin p) (s := phead p ++ p.data) rfl ty_sl_25 rfl rfl rfl rfl (SlAt.blk (Nat.le_refl _)) (hown.rd (by intro p hp; simp [hp])) (Nat.min_eq_left (by omega)) (by rw [List.length_replicate]; omega) (pin_lay hl.2) (by repeat (first | exact Upd.head | apply Upd.tail | apply Upd.tailS)) ?_; refine WD.go (.inl rfl) (fun _ _ h => h.elim) ?_; refine WD.done zK ?_; refine WP.sub [(0, _), (1, _), (2, _), (3, _), (4, _), (11, _)] ?_ ⟨rfl, rfl, rfl, rfl, rfl, rfl, trivial⟩
         exact WP.mt Jn hle ⟨rfl, rfl, trivial⟩ rfl
        ·refine WP.oper rfl rfl ?_
         refine Op.cl (super_putI (k := 6) ⟨by decide, by decide⟩ ⟨by have := hm.place; omega, by have := hm.place; omega⟩) rfl Tryz.func162 rfl rfl rfl rfl ?_; rintro v J L1 - ⟨b18, rfl, rfl, rfl⟩
         try simp only [nf]
         refine WP.share (fun Jn hJn hb18 => ?_)
         replace hle := Imm.le_trans hle hJn
         replace hv := hv.mono (fun b o h => hJn.2 b o h)
         try replace hb5 := hJn.2 _ _ hb5
         try replace hb8 := hJn.2 _ _ hb8
         try replace hb12 := hJn.2 _ _ hb12
         try replace hb15 := hJn.2 _ _ hb15
         try replace hb21 := hJn.2 _ _ hb21
         try replace hmz := mark_mono hJn hmz
         refine WD.gR ?_; refine WD.both (i := 2) (j := 21) zK rfl rfl ?_ ?_
         ·refine WP.oper rfl rfl ?_
          refine Op.mark (cs := bytesV [80, 66]) rfl Tryz.underlying25 zK rfl rfl rfl (by repeat (first | exact Rm.chunk | exact Rm.here | exact Rm.nil0 | apply Rm.skip | apply Rm.skipS)) (fun Jn hJn hmz => ?_)
          replace hle := Imm.le_trans hle hJn
          replace hv := hv.mono (fun b o h => hJn.2 b o h)
          try replace hb5 := hJn.2 _ _ hb5
          try replace hb8 := hJn.2 _ _ hb8
          try replace hb12 := hJn.2 _ _ hb12
          try replace hb15 := hJn.2 _ _ hb15
          try replace hb18 := hJn.2 _ _ hb18
          try replace hb21 := hJn.2 _ _ hb21
          refine WD.gR ?_; refine WD.loud (i := 21) zK rfl rfl rfl ?_; refine Op.cl (super_putI (k := 4) ⟨by decide, by decide⟩ ⟨by have := hm.era; omega, by have := hm.era; omega⟩) rfl Tryz.func162 rfl rfl rfl rfl ?_; rintro v J L1 - ⟨b21, rfl, rfl, rfl⟩
          try simp only [nf]
          refine WP.share (fun Jn hJn hb21 => ?_)
          replace hle := Imm.le_trans hle hJn
          replace hv := hv.mono (fun b o h => hJn.2 b o h)
          try replace hb5 := hJn.2 _ _ hb5
          try replace hb8 := hJn.2 _ _ hb8
          try replace hb12 := hJn.2 _ _ hb12
          try replace hb15 := hJn.2 _ _ hb15
          try replace hb18 := hJn.2 _ _ hb18
          try replace hmz := mark_mono hJn hmz
          refine WD.gR ?_; refine WD.loud (i := 24) zK rfl rfl rfl ?_; refine Op.buildSlice rfl ty_sl_116 ty_el2_116 rfl rfl rfl rfl (vs := [_, _, _, _, _, _, _, _]) rfl (segs := [(0, [_]), (1, [_]), (2, [_]), (3, [_]), (4, [_]), (5, [_]), (6, [_]), (7, [_])]) (cs := ([(.slice (some ⟨bz, 0, none⟩) 2 2, [80, 66]), (.slice (some ⟨b5, 0, none⟩) 1 1, leB p.parts.toNat 1), (.slice (some ⟨b8, 0, none⟩) 1 1, leB p.index.toNat 1), (.slice (some ⟨b12, 0, none⟩) 2 2, leB p.data.length 2), (.slice (some ⟨b15, 0, none⟩) 6 6, leB p.no.toNat 6), (.slice (some ⟨b18, 0, none⟩) 6 6, leB p.place.toNat 6), (.slice (some ⟨b21, 0, none⟩) 4 4, leB p.era.toNat 4), (.slice Av p.data.length cv, p.data)] : List (Value × List UInt8)).map (·.1)) rfl rfl zS (fun bx => ?_)
          refine WD.gR ?_; refine WD.loud (i := 25) zK rfl rfl rfl ?_; refine Op.cl (seg_cat hmz hb5 hb8 hb12 hb15 hb18 hb21 hv hl.2) rfl Tryz.func152 rfl rfl rfl rfl ?_; rintro v J Lo - ⟨rfl, hown⟩
          try simp only [nf]
          refine WD.gR ?_; refine WD.loud (i := 26) zK rfl rfl rfl ?_; refine Op.copyB (k := 0) (m := 220) (m2 := 22 + p.data.length) (q := 22 + p.data.length) (old := List.replicate 220 0) (new := pin p) (s := phead p ++ p.data) rfl ty_sl_25 rfl rfl rfl rfl (SlAt.blk (Nat.le_refl _)) (hown.rd (by intro p hp; simp [hp])) (Nat.min_eq_left (by omega)) (by rw [List.length_replicate]; omega) (pin_lay hl.2) (by repeat (first | exact Upd.head | apply Upd.tail | apply Upd.tailS)) ?_; refine WD.go (.inl rfl) (fun _ _ h => h.elim) ?_; refine WD.done zK ?_; refine WP.sub [(0, _), (1, _), (2, _), (3, _), (4, _), (11, _)] ?_ ⟨rfl, rfl, rfl, rfl, rfl, rfl, trivial⟩
          exact WP.mt Jn hle ⟨rfl, rfl, trivial⟩ rfl
         ·refine WP.oper rfl rfl ?_
          refine Op.cl (super_putI (k := 4) ⟨by decide, by decide⟩ ⟨by have := hm.era; omega, by have := hm.era; omega⟩) rfl Tryz.func162 rfl rfl rfl rfl ?_; rintro v J L1 - ⟨b21, rfl, rfl, rfl⟩
          try simp only [nf]
          refine WP.share (fun Jn hJn hb21 => ?_)
          replace hle := Imm.le_trans hle hJn
          replace hv := hv.mono (fun b o h => hJn.2 b o h)
          try replace hb5 := hJn.2 _ _ hb5
          try replace hb8 := hJn.2 _ _ hb8
          try replace hb12 := hJn.2 _ _ hb12
          try replace hb15 := hJn.2 _ _ hb15
          try replace hb18 := hJn.2 _ _ hb18
          try replace hmz := mark_mono hJn hmz
          refine WD.gR ?_; refine WD.loud (i := 2) zK rfl rfl rfl ?_; refine Op.mark (cs := bytesV [80, 66]) rfl Tryz.underlying25 zK rfl rfl rfl (by repeat (first | exact Rm.chunk | exact Rm.here | exact Rm.nil0 | apply Rm.skip | apply Rm.skipS)) (fun Jn hJn hmz => ?_)
          replace hle := Imm.le_trans hle hJn
          replace hv := hv.mono (fun b o h => hJn.2 b o h)
          try replace hb5 := hJn.2 _ _ hb5
          try replace hb8 := hJn.2 _ _ hb8
          try replace hb12 := hJn.2 _ _ hb12
          try replace hb15 := hJn.2 _ _ hb15
          try replace hb18 := hJn.2 _ _ hb18
          try replace hb21 := hJn.2 _ _ hb21
          refine WD.gR ?_; refine WD.loud (i := 24) zK rfl rfl rfl ?_; refine Op.buildSlice rfl ty_sl_116 ty_el2_116 rfl rfl rfl rfl (vs := [_, _, _, _, _, _, _, _]) rfl (segs := [(0, [_]), (1, [_]), (2, [_]), (3, [_]), (4, [_]), (5, [_]), (6, [_]), (7, [_])]) (cs := ([(.slice (some ⟨bz, 0, none⟩) 2 2, [80, 66]), (.slice (some ⟨b5, 0, none⟩) 1 1, leB p.parts.toNat 1), (.slice (some ⟨b8, 0, none⟩) 1 1, leB p.index.toNat 1), (.slice (some ⟨b12, 0, none⟩) 2 2, leB p.data.length 2), (.slice (some ⟨b15, 0, none⟩) 6 6, leB p.no.toNat 6), (.slice (some ⟨b18, 0, none⟩) 6 6, leB p.place.toNat 6), (.slice (some ⟨b21, 0, none⟩) 4 4, leB p.era.toNat 4), (.slice Av p.data.length cv, p.data)] : List (Value × List UInt8)).map (·.1)) rfl rfl zS (fun bx => ?_)
          refine WD.gR ?_; refine WD.loud (i := 25) zK rfl rfl rfl ?_; refine Op.cl (seg_cat hmz hb5 hb8 hb12 hb15 hb18 hb21 hv hl.2) rfl Tryz.func152 rfl rfl rfl rfl ?_; rintro v J Lo - ⟨rfl, hown⟩
          try simp only [nf]
          refine WD.gR ?_; refine WD.loud (i := 26) zK rfl rfl rfl ?_; refine Op.copyB (k := 0) (m := 220) (m2 := 22 + p.data.length) (q := 22 + p.data.length) (old := List.replicate 220 0) (new := pin p) (s := phead p ++ p.data) rfl ty_sl_25 rfl rfl rfl rfl (SlAt.blk (Nat.le_refl _)) (hown.rd (by intro p hp; simp [hp])) (Nat.min_eq_left (by omega)) (by rw [List.length_replicate]; omega) (pin_lay hl.2) (by repeat (first | exact Upd.head | apply Upd.tail | apply Upd.tailS)) ?_; refine WD.go (.inl rfl) (fun _ _ h => h.elim) ?_; refine WD.done zK ?_; refine WP.sub [(0, _), (1, _), (2, _), (3, _), (4, _), (11, _)] ?_ ⟨rfl, rfl, rfl, rfl, rfl, rfl, trivial⟩
          exact WP.mt Jn hle ⟨rfl, rfl, trivial⟩ rfl
       ·refine WP.oper rfl rfl ?_
        refine Op.cl (super_putI (k := 6) ⟨by decide, by decide⟩ ⟨by have := hm.place; omega, by have := hm.place; omega⟩) rfl Tryz.func162 rfl rfl rfl rfl ?_; rintro v J L1 - ⟨b18, rfl, rfl, rfl⟩
        try simp only [nf]
        refine WP.share (fun Jn hJn hb18 => ?_)
        replace hle := Imm.le_trans hle hJn
        replace hv := hv.mono (fun b o h => hJn.2 b o h)
        try replace hb5 := hJn.2 _ _ hb5
        try replace hb8 := hJn.2 _ _ hb8
        try replace hb12 := hJn.2 _ _ hb12
        try replace hb15 := hJn.2 _ _ hb15
        try replace hb21 := hJn.2 _ _ hb21
        try replace hmz := mark_mono hJn hmz
        refine WD.gR ?_; refine WD.both (i := 1) (j := 21) zK rfl rfl ?_ ?_
        ·refine WP.oper rfl rfl ?_
         refine Op.buildSlice rfl ty_sl_25 ty_el2_25 rfl rfl rfl rfl (vs := [_, _]) rfl (segs := [(0, [_]), (1, [_])]) (cs := bytesV [80, 66]) rfl rfl zS (fun bz => ?_)
         refine WD.gR ?_; refine WD.both (i := 2) (j := 21) zK rfl rfl ?_ ?_
         ·refine WP.oper rfl rfl ?_
          refine Op.mark (cs := bytesV [80, 66]) rfl Tryz.underlying25 zK rfl rfl rfl (by repeat (first | exact Rm.chunk | exact Rm.here | exact Rm.nil0 | apply Rm.skip | apply Rm.skipS)) (fun Jn hJn hmz => ?_)
          replace hle := Imm.le_trans hle hJn
          replace hv := hv.mono (fun b o h => hJn.2 b o h)
          try replace hb5 := hJn.2 _ _ hb5
          try replace hb8 := hJn.2 _ _ hb8
          try replace hb12 := hJn.2 _ _ hb12
          try replace hb15 := hJn.2 _ _ hb15
          try replace hb18 := hJn.2 _ _ hb18
          try replace hb21 := hJn.2 _ _ hb21
          refine WD.gR ?_; refine WD.loud (i := 21) zK rfl rfl rfl ?_; refine Op.cl (super_putI (k := 4) ⟨by decide, by decide⟩ ⟨by have := hm.era; omega, by have := hm.era; omega⟩) rfl Tryz.func162 rfl rfl rfl rfl ?_; rintro v J L1 - ⟨b21, rfl, rfl, rfl⟩
          try simp only [nf]
          refine WP.share (fun Jn hJn hb21 => ?_)
          replace hle := Imm.le_trans hle hJn
          replace hv := hv.mono (fun b o h => hJn.2 b o h)
          try replace hb5 := hJn.2 _ _ hb5
          try replace hb8 := hJn.2 _ _ hb8
          try replace hb12 := hJn.2 _ _ hb12
          try replace hb15 := hJn.2 _ _ hb15
          try replace hb18 := hJn.2 _ _ hb18
          try replace hmz := mark_mono hJn hmz
          refine WD.gR ?_; refine WD.loud (i := 24) zK rfl rfl rfl ?_; refine Op.buildSlice rfl ty_sl_116 ty_el2_116 rfl rfl rfl rfl (vs := [_, _, _, _, _, _, _, _]) rfl (segs := [(0, [_]), (1, [_]), (2, [_]), (3, [_]), (4, [_]), (5, [_]), (6, [_]), (7, [_])]) (cs := ([(.slice (some ⟨bz, 0, none⟩) 2 2, [80, 66]), (.slice (some ⟨b5, 0, none⟩) 1 1, leB p.parts.toNat 1), (.slice (some ⟨b8, 0, none⟩) 1 1, leB p.index.toNat 1), (.slice (some ⟨b12, 0, none⟩) 2 2, leB p.data.length 2), (.slice (some ⟨b15, 0, none⟩) 6 6, leB p.no.toNat 6), (.slice (some ⟨b18, 0, none⟩) 6 6, leB p.place.toNat 6), (.slice (some ⟨b21, 0, none⟩) 4 4, leB p.era.toNat 4), (.slice Av p.data.length cv, p.data)] : List (Value × List UInt8)).map (·.1)) rfl rfl zS (fun bx => ?_)
          refine WD.gR ?_; refine WD.loud (i := 25) zK rfl rfl rfl ?_; refine Op.cl (seg_cat hmz hb5 hb8 hb12 hb15 hb18 hb21 hv hl.2) rfl Tryz.func152 rfl rfl rfl rfl ?_; rintro v J Lo - ⟨rfl, hown⟩
          try simp only [nf]
          refine WD.gR ?_; refine WD.loud (i := 26) zK rfl rfl rfl ?_; refine Op.copyB (k := 0) (m := 220) (m2 := 22 + p.data.length) (q := 22 + p.data.length) (old := List.replicate 220 0) (new := pin p) (s := phead p ++ p.data) rfl ty_sl_25 rfl rfl rfl rfl (SlAt.blk (Nat.le_refl _)) (hown.rd (by intro p hp; simp [hp])) (Nat.min_eq_left (by omega)) (by rw [List.length_replicate]; omega) (pin_lay hl.2) (by repeat (first | exact Upd.head | apply Upd.tail | apply Upd.tailS)) ?_; refine WD.go (.inl rfl) (fun _ _ h => h.elim) ?_; refine WD.done zK ?_; refine WP.sub [(0, _), (1, _), (2, _), (3, _), (4, _), (11, _)] ?_ ⟨rfl, rfl, rfl, rfl, rfl, rfl, trivial⟩
          exact WP.mt Jn hle ⟨rfl, rfl, trivial⟩ rfl
         ·refine WP.oper rfl rfl ?_
          refine Op.cl (super_putI (k := 4) ⟨by decide, by decide⟩ ⟨by have := hm.era; omega, by have := hm.era; omega⟩) rfl Tryz.func162 rfl rfl rfl rfl ?_; rintro v J L1 - ⟨b21, rfl, rfl, rfl⟩
          try simp only [nf]
          refine WP.share (fun Jn hJn hb21 => ?_)
          replace hle := Imm.le_trans hle hJn
          replace hv := hv.mono (fun b o h => hJn.2 b o h)
          try replace hb5 := hJn.2 _ _ hb5
          try replace hb8 := hJn.2 _ _ hb8
          try replace hb12 := hJn.2 _ _ hb12
          try replace hb15 := hJn.2 _ _ hb15
          try replace hb18 := hJn.2 _ _ hb18
          try replace hmz := mark_mono hJn hmz
          refine WD.gR ?_; refine WD.loud (i := 2) zK rfl rfl rfl ?_; refine Op.mark (cs := bytesV [80, 66]) rfl Tryz.underlying25 zK rfl rfl rfl (by repeat (first | exact Rm.chunk | exact Rm.here | exact Rm.nil0 | apply Rm.skip | apply Rm.skipS)) (fun Jn hJn hmz => ?_)
          replace hle := Imm.le_trans hle hJn
          replace hv := hv.mono (fun b o h => hJn.2 b o h)
          try replace hb5 := hJn.2 _ _ hb5
          try replace hb8 := hJn.2 _ _ hb8
          try replace hb12 := hJn.2 _ _ hb12
          try replace hb15 := hJn.2 _ _ hb15
          try replace hb18 := hJn.2 _ _ hb18
          try replace hb21 := hJn.2 _ _ hb21
          refine WD.gR ?_; refine WD.loud (i := 24) zK rfl rfl rfl ?_; refine Op.buildSlice rfl ty_sl_116 ty_el2_116 rfl rfl rfl rfl (vs := [_, _, _, _, _, _, _, _]) rfl (segs := [(0, [_]), (1, [_]), (2, [_]), (3, [_]), (4, [_]), (5, [_]), (6, [_]), (7, [_])]) (cs := ([(.slice (some ⟨bz, 0, none⟩) 2 2, [80, 66]), (.slice (some ⟨b5, 0, none⟩) 1 1, leB p.parts.toNat 1), (.slice (some ⟨b8, 0, none⟩) 1 1, leB p.index.toNat 1), (.slice (some ⟨b12, 0, none⟩) 2 2, leB p.data.length 2), (.slice (some ⟨b15, 0, none⟩) 6 6, leB p.no.toNat 6), (.slice (some ⟨b18, 0, none⟩) 6 6, leB p.place.toNat 6), (.slice (some ⟨b21, 0, none⟩) 4 4, leB p.era.toNat 4), (.slice Av p.data.length cv, p.data)] : List (Value × List UInt8)).map (·.1)) rfl rfl zS (fun bx => ?_)
          refine WD.gR ?_; refine WD.loud (i := 25) zK rfl rfl rfl ?_; refine Op.cl (seg_cat hmz hb5 hb8 hb12 hb15 hb18 hb21 hv hl.2) rfl Tryz.func152 rfl rfl rfl rfl ?_; rintro v J Lo - ⟨rfl, hown⟩
          try simp only [nf]
          refine WD.gR ?_; refine WD.loud (i := 26) zK rfl rfl rfl ?_; refine Op.copyB (k := 0) (m := 220) (m2 := 22 + p.data.length) (q := 22 + p.data.length) (old := List.replicate 220 0) (new := pin p) (s := phead p ++ p.data) rfl ty_sl_25 rfl rfl rfl rfl (SlAt.blk (Nat.le_refl _)) (hown.rd (by intro p hp; simp [hp])) (Nat.min_eq_left (by omega)) (by rw [List.length_replicate]; omega) (pin_lay hl.2) (by repeat (first | exact Upd.head | apply Upd.tail | apply Upd.tailS)) ?_; refine WD.go (.inl rfl) (fun _ _ h => h.elim) ?_; refine WD.done zK ?_; refine WP.sub [(0, _), (1, _), (2, _), (3, _), (4, _), (11, _)] ?_ ⟨rfl, rfl, rfl, rfl, rfl, rfl, trivial⟩
          exact WP.mt Jn hle ⟨rfl, rfl, trivial⟩ rfl
        ·refine WP.oper rfl rfl ?_
         refine Op.cl (super_putI (k := 4) ⟨by decide, by decide⟩ ⟨by have := hm.era; omega, by have := hm.era; omega⟩) rfl Tryz.func162 rfl rfl rfl rfl ?_; rintro v J L1 - ⟨b21, rfl, rfl, rfl⟩
         try simp only [nf]
         refine WP.share (fun Jn hJn hb21 => ?_)
         replace hle := Imm.le_trans hle hJn
         replace hv := hv.mono (fun b o h => hJn.2 b o h)
         try replace hb5 := hJn.2 _ _ hb5
         try replace hb8 := hJn.2 _ _ hb8
         try replace hb12 := hJn.2 _ _ hb12
         try replace hb15 := hJn.2 _ _ hb15
         try replace hb18 := hJn.2 _ _ hb18
         try replace hmz := mark_mono hJn hmz
         refine WD.gR ?_; refine WD.loud (i := 1) zK rfl rfl rfl ?_; refine Op.buildSlice rfl ty_sl_25 ty_el2_25 rfl rfl rfl rfl (vs := [_, _]) rfl (segs := [(0, [_]), (1, [_])]) (cs := bytesV [80, 66]) rfl rfl zS (fun bz => ?_)
         refine WD.gR ?_; refine WD.loud (i := 2) zK rfl rfl rfl ?_; refine Op.mark (cs := bytesV [80, 66]) rfl Tryz.underlying25 zK rfl rfl rfl (by repeat (first | exact Rm.chunk | exact Rm.here | exact Rm.nil0 | apply Rm.skip | apply Rm.skipS)) (fun Jn hJn hmz => ?_)
         replace hle := Imm.le_trans hle hJn
         replace hv := hv.mono (fun b o h => hJn.2 b o h)
         try replace hb5 := hJn.2 _ _ hb5
         try replace hb8 := hJn.2 _ _ hb8
         try replace hb12 := hJn.2 _ _ hb12
         try replace hb15 := hJn.2 _ _ hb15
         try replace hb18 := hJn.2 _ _ hb18
         try replace hb21 := hJn.2 _ _ hb21
         refine WD.gR ?_; refine WD.loud (i := 24) zK rfl rfl rfl ?_; refine Op.buildSlice rfl ty_sl_116 ty_el2_116 rfl rfl rfl rfl (vs := [_, _, _, _, _, _, _, _]) rfl (segs := [(0, [_]), (1, [_]), (2, [_]), (3, [_]), (4, [_]), (5, [_]), (6, [_]), (7, [_])]) (cs := ([(.slice (some ⟨bz, 0, none⟩) 2 2, [80, 66]), (.slice (some ⟨b5, 0, none⟩) 1 1, leB p.parts.toNat 1), (.slice (some ⟨b8, 0, none⟩) 1 1, leB p.index.toNat 1), (.slice (some ⟨b12, 0, none⟩) 2 2, leB p.data.length 2), (.slice (some ⟨b15, 0, none⟩) 6 6, leB p.no.toNat 6), (.slice (some ⟨b18, 0, none⟩) 6 6, leB p.place.toNat 6), (.slice (some ⟨b21, 0, none⟩) 4 4, leB p.era.toNat 4), (.slice Av p.data.length cv, p.data)] : List (Value × List UInt8)).map (·.1)) rfl rfl zS (fun bx => ?_)
         refine WD.gR ?_; refine WD.loud (i := 25) zK rfl rfl rfl ?_; refine Op.cl (seg_cat hmz hb5 hb8 hb12 hb15 hb18 hb21 hv hl.2) rfl Tryz.func152 rfl rfl rfl rfl ?_; rintro v J Lo - ⟨rfl, hown⟩
         try simp only [nf]
         refine WD.gR ?_; refine WD.loud (i := 26) zK rfl rfl rfl ?_; refine Op.copyB (k := 0) (m := 220) (m2 := 22 + p.data.length) (q := 22 + p.data.length) (old := List.replicate 220 0) (new := pin p) (s := phead p ++ p.data) rfl ty_sl_25 rfl rfl rfl rfl (SlAt.blk (Nat.le_refl _)) (hown.rd (by intro p hp; simp [hp])) (Nat.min_eq_left (by omega)) (by rw [List.length_replicate]; omega) (pin_lay hl.2) (by repeat (first | exact Upd.head | apply Upd.tail | apply Upd.tailS)) ?_; refine WD.go (.inl rfl) (fun _ _ h => h.elim) ?_; refine WD.done zK ?_; refine WP.sub [(0, _), (1, _), (2, _), (3, _), (4, _), (11, _)] ?_ ⟨rfl, rfl, rfl, rfl, rfl, rfl, trivial⟩
         exact WP.mt Jn hle ⟨rfl, rfl, trivial⟩ rfl
  ·intro Jn hle; have hle : I.le Jn := hle
   refine WP.seq ?_; have hpl := pin_len hl.2
   have hin0 : Own 5 1 (.slice (some ⟨b4, 0, none⟩) 220 220) (bytesV (pin p)) (pin p).length [(b4, row 5 (bytesV (pin p)))] := by rw [hpl]; exact own_lit hpl
   refine WP.region [0, 1, 2, 3, 4, 5, 6] rfl ?_; iterate 2 refine WP.mv rfl rfl ?_
   refine WP.loud rfl rfl ?_; refine Op.cl (crc_OfOwn hin0 (by omega)) rfl Tryz.func154 rfl rfl rfl rfl ?_; rintro v J L1 - ⟨rfl, rfl, rfl⟩
   try simp only [nf]
   refine WP.vl rfl (Yld.conv32_64 (crcOf (pin p)) rfl ty_un_260 ty_ik_3 rfl) ?_; refine WP.loud rfl rfl ?_; refine Op.cl (super_put (m := (crcOf (pin p)).toNat) (k := 4) ⟨by decide, by decide⟩ (by have := (crcOf (pin p)).isLt; omega)) rfl Tryz.func162 rfl rfl rfl rfl ?_; rintro v J L1 - ⟨b44, rfl, rfl, rfl⟩
   try simp only [nf]
   refine WP.loud rfl rfl ?_; refine Op.append rfl ty_sl_25 ty_el_25 rfl rfl rfl rfl rfl hin0 (SlRd.lit (m := 4) zM (by rw [bytesV_len, leB_len]) (Nat.le_refl _)) zT (bytesV_one _) (by omega) (by omega) (fun vi Li hi => ?_)
   try simp only [nf]
   have hfull : Own 5 1 vi (bytesV (pfull p)) (pfull p).length Li := by rw [← bytesV_app] at hi; rw [pfull_len hl.2]; rw [hpl] at hi; exact hi
   refine WP.mv rfl rfl ?_; refine WP.nil ?_; refine WP.sub [(1, _), (4, _)] ?_ ⟨rfl, rfl, trivial⟩
   refine WP.next (WP.seq ?_)
   refine WD.start Tryzmixed 6 (fun b o => b = b1 ∧ o = row 223 (ptV p (.slice Av p.data.length cv))) (fun _ _ => False) (by rintro _ _ ⟨rfl, rfl⟩; exact zM) (fun _ _ h => h.elim) 8 [false, false, false, false, false, false, false, false] rfl rfl ?_; refine WD.vl (i := 0) rfl (Yld.fieldAddr rfl ty_fd_223_0 rfl) ?_; refine WD.val1 (i := 1) rfl rfl rfl rfl zK rfl zK (Yld.load rfl ty_sc_3 rfl (.inl ⟨rfl, rfl⟩) rfl) ?_; refine WD.vl (i := 3) rfl (Yld.fieldAddr rfl ty_fd_223_3 rfl) ?_; refine WD.val1 (i := 4) rfl rfl rfl rfl zK rfl zK (Yld.load rfl ty_sc_3 rfl (.inl ⟨rfl, rfl⟩) rfl) ?_; refine WD.loud (i := 2) zK rfl rfl rfl ?_; refine Op.cl (super_putI (k := 4) ⟨by decide, by decide⟩ ⟨by have := hm.place; omega, by have := hm.place; omega⟩) rfl Tryz.func162 rfl rfl rfl rfl ?_; rintro v J L1 - ⟨b48, rfl, rfl, rfl⟩
   try simp only [nf]
   refine WD.gR ?_; refine WD.loud (i := 5) zK rfl rfl rfl ?_; refine Op.cl (super_putI (k := 4) ⟨by decide, by decide⟩ ⟨by have := hm.era; omega, by have := hm.era; omega⟩) rfl Tryz.func162 rfl rfl rfl rfl ?_; rintro v J L1 - ⟨b51, rfl, rfl, rfl⟩
   try simp only [nf]
   refine WD.gR ?_; refine WD.loud (i := 6) zK rfl rfl rfl ?_; refine Op.append rfl ty_sl_25 ty_el_25 rfl rfl rfl rfl rfl (own_lit (b := b48) (leB_len p.place.toNat 4)) (SlRd.lit (m := 4) zM (by rw [bytesV_len, leB_len]) (Nat.le_refl _)) zT (bytesV_one _) (by omega) (by omega) (fun vt Lt ht => ?_)
   try simp only [nf]
   have htag : Own 5 1 vt (bytesV (ptag p)) (ptag p).length Lt := by rw [← bytesV_app] at ht; rw [ptag_len]; exact ht
   refine WD.go (.inl rfl) (fun _ _ h => h.elim) ?_; refine WD.vl (i := 7) rfl (Yld.assign rfl rfl) ?_; refine WD.done zK ?_; refine WP.sub [(1, _), (4, _), (5, _)] ?_ ⟨rfl, rfl, rfl, trivial⟩
   refine WP.next (WP.seq ?_)
   refine WP.region [0] rfl ?_; refine WP.mv rfl rfl ?_; refine WP.nil (WP.next (WP.seq (WP.seq ?_)))
   refine WP.shO hfull (fun J2 hJ2 hin => ?_)
   refine WP.shO htag (fun J3 hJ3 htg => ?_)
   have hin := hin.mono (fun b o h => hJ3.2 b o h)
   have hfl := pfull_len hl.2
   have htl := ptag_len p
   refine WP.region [0] rfl ?_; refine WP.mv rfl rfl ?_; refine WP.nil (WP.next (WP.block ?_))
   refine WP.loop (X := Nat × Value × Chunks) (fun u : Nat × Value × Chunks => [(4, vi), (5, vt), (6, u.2.1), (53, .int .i64 (u.1 : Int))]) (fun _ => J3) (fun u : Nat × Value × Chunks => u.2.2 ++ F) (fun u : Nat × Value × Chunks => u.1 ≤ 4 ∧ Own 5 1 u.2.1 (bytesV (psecs (pfull p) (ptag p) u.1)) (psecs (pfull p) (ptag p) u.1).length u.2.2) (fun u : Nat × Value × Chunks => 4 - u.1) (0, .slice none 0 0, []) ⟨Nat.zero_le _, .none0⟩ ⟨rfl, rfl, rfl, rfl, trivial⟩ rfl zP ?_; rintro ⟨i, vo, Lo⟩ ⟨hi4, hout⟩; dsimp only at hi4 hout
   try dsimp only
   try simp only [nf]
   refine WP.seq ?_; refine WP.region [0] rfl ?_; refine WP.split rfl rfl rfl rfl (Yld.lss rfl rfl rfl) (fun hlt => ?_) (fun hlt => ?_)
   ·have hi : i < 4 := by omega
    have hcl := cutf_len hfl hi
    have hsl := psecs_len hfl htl i (by omega)
    have hsrc := sub_rd hin (l := i * 56) (k := (i + 1) * 56) (by omega) (by omega)
    refine WP.nil (WP.next (WP.seq ?_))
    refine WP.condT rfl ?_; refine WP.skip (WP.next (WP.seq (WP.block (WP.seq ?_))))
    refine WP.region [0, 1] rfl ?_; iterate 2 refine WP.mv rfl rfl ?_
    refine WP.nil ?_; refine WP.sub [(4, _), (5, _), (6, _), (7, _), (53, _), (54, _)] ?_ ⟨rfl, rfl, rfl, rfl, rfl, rfl, trivial⟩
    refine WP.next (WP.seq ?_)
    refine WP.region [0] rfl ?_; refine WP.loud rfl rfl ?_; refine Op.alloc rfl rfl rfl form_zr (fun b8 => ?_)
    refine WP.nil (WP.next (WP.seq ?_))
    refine WQ.start Tryzmixed 8 zK _ rfl [8] rfl ?_; refine WQ.val rfl rfl rfl (Yld.sliceA rfl ty_ar_244 rfl Env.lim0 Env.lim0 (Nat.zero_le _) (Nat.le_refl _)) ?_; iterate 2 refine WQ.val rfl rfl rfl (Yld.move rfl rfl) ?_
    refine WQ.val rfl rfl rfl (Yld.mul64 rfl rfl rfl (by omega)) ?_; refine WQ.val rfl rfl rfl (Yld.move rfl rfl) ?_; refine WQ.val rfl rfl rfl (Yld.add64 rfl rfl rfl (by omega)) ?_; refine WQ.val rfl rfl rfl (Yld.mul64 rfl rfl rfl (by omega)) ?_; refine WQ.val rfl rfl rfl (Yld.sliceR (l := i * 56) (h := (i + 1) * 56) hin rfl ty_sl_25 rfl (Env.limS (n := i * 56) (congrArg (fun z : Int => some (Value.int .i64 z)) (by omega))) (Env.limS (n := (i + 1) * 56) (congrArg (fun z : Int => some (Value.int .i64 z)) (by omega))) (by omega) (by omega)) ?_; refine WQ.nil ?_; refine WP.loud rfl rfl ?_; refine Op.copyB (k := 0) (m := 64) (m2 := (i + 1) * 56 - i * 56) (q := 56) (old := List.replicate 64 0) (new := cut (pfull p) (i * 56) ((i + 1) * 56) ++ List.replicate 8 0) (s := cut (pfull p) (i * 56) ((i + 1) * 56)) rfl ty_sl_25 rfl rfl rfl rfl (SlAt.arr.sub (sz := 1) (Nat.zero_le _) (Nat.le_refl _)) (hsrc.mono (fun b o h => There.i h)) (by rw [show (i + 1) * 56 - i * 56 = 56 by omega]; rfl) (by simp) (sec_lay1 hcl) (by repeat (first | exact Upd.head | apply Upd.tail | apply Upd.tailS)) ?_; refine WP.nil ?_; refine WP.sub [(4, _), (5, _), (6, _), (7, _), (8, _), (53, _), (54, _)] ?_ ⟨rfl, rfl, rfl, rfl, rfl, rfl, rfl, trivial⟩
    refine WP.next (WP.seq ?_)
    refine WP.region [0, 1, 2] rfl ?_; refine WP.vl rfl (Yld.sliceA rfl ty_ar_244 rfl (Env.limS (n := 56) rfl) Env.lim0 (Nat.le_of_ble_eq_true rfl) (Nat.le_refl _)) ?_; refine WP.mv rfl rfl ?_; refine WP.loud rfl rfl ?_; refine Op.copyB (k := 56) (m := 8) (m2 := (ptag p).length) (q := 8) (old := cut (pfull p) (i * 56) ((i + 1) * 56) ++ List.replicate 8 0) (new := cut (pfull p) (i * 56) ((i + 1) * 56) ++ ptag p) (s := ptag p) rfl ty_sl_25 rfl rfl rfl rfl (SlAt.arr.sub (sz := 1) (Nat.le_of_ble_eq_true rfl) (Nat.le_refl _)) (htg.mono (fun b o h => There.i h)) (by rw [htl]; rfl) (by simp [hcl]) (sec_lay2 hcl htl) (by repeat (first | exact Upd.head | apply Upd.tail | apply Upd.tailS)) ?_; refine WP.nil ?_; refine WP.sub [(4, _), (5, _), (6, _), (7, _), (8, _), (53, _), (54, _)] ?_ ⟨rfl, rfl, rfl, rfl, rfl, rfl, rfl, trivial⟩
    refine WP.next ?_; refine WP.region [0, 1, 2, 3] rfl ?_; refine WP.mv rfl rfl ?_; refine WP.vl rfl (Yld.sliceA rfl ty_ar_244 rfl Env.lim0 Env.lim0 (Nat.zero_le _) (Nat.le_refl _)) ?_; refine WP.loud rfl rfl ?_; refine Op.append rfl ty_sl_25 ty_el_25 rfl rfl rfl rfl rfl hout (rd64 (b := b8) (T := 244) (l := cut (pfull p) (i * 56) ((i + 1) * 56) ++ ptag p) zM (by simp [hcl, htl])) zT (bytesV_one _) (by simp [hcl, htl, hsl]; omega) (by simp [hcl, htl, hsl]; omega) (fun vn Ln hn => ?_)
    try simp only [nf]
    have hnew : Own 5 1 vn (bytesV (psecs (pfull p) (ptag p) (i + 1))) (psecs (pfull p) (ptag p) (i + 1)).length Ln := by rw [← bytesV_app, ← List.length_append] at hn; exact hn
    refine WP.mv rfl rfl ?_; refine WP.nil ?_; refine WP.sub [(4, _), (5, _), (6, _), (7, _), (8, _), (53, _), (54, _)] ?_ ⟨rfl, rfl, rfl, rfl, rfl, rfl, rfl, trivial⟩
    refine WP.leave (WP.next ?_)
    refine WP.region [0, 1] rfl ?_; refine WP.vl rfl (Yld.add64 rfl rfl rfl (by omega)) ?_; refine WP.mv rfl rfl ?_; refine WP.nil ?_; refine WP.sub [(4, _), (5, _), (6, _), (7, _), (8, _), (53, _), (54, _)] ?_ ⟨rfl, rfl, rfl, rfl, rfl, rfl, rfl, trivial⟩
    exact WP.ag (i + 1, vn, Ln) ⟨(show i + 1 ≤ 4 by omega), hnew⟩ (show 4 - (i + 1) < 4 - i by omega) ⟨rfl, rfl, rfl, rfl, trivial⟩ rfl
   ·obtain rfl : i = 4 := by omega
    refine WP.nil (WP.next (WP.seq ?_))
    refine WP.condF rfl ?_; refine WP.exit (WP.thenE (WP.thenE (WP.hit (WP.next (WP.seq ?_)))))
    refine WP.region [0, 1, 2] rfl ?_; iterate 3 refine WP.mv rfl rfl ?_
    refine WP.nil ?_; refine WP.sub [(2, _), (3, _), (4, _), (5, _), (6, _), (53, _), (54, _)] ?_ ⟨rfl, rfl, rfl, rfl, rfl, rfl, rfl, trivial⟩
    refine WP.next (WP.ret ?_)
    refine WP.fn .ret (.inr rfl) (res2 rfl rfl rfl) Lo (Imm.le_trans hle (Imm.le_trans hJ2 hJ3)) ?_; exact .inl ⟨hm, _, rfl, hout⟩
 ·have hbt : bm = false := eq_false_of_ne_true hbt
  try rw [hbt]
  refine WP.vl rfl (Yld.not rfl rfl) ?_; refine WP.nil ?_; refine WP.sub [(0, _), (1, _), (2, _), (3, _), (11, _)] ?_ ⟨rfl, rfl, rfl, rfl, rfl, trivial⟩
  refine WP.next ?_; refine WP.condT rfl ?_; refine WP.seq ?_; refine WP.region [0, 1] rfl ?_; iterate 2 refine WP.mv rfl rfl ?_
  refine WP.nil (WP.next (WP.ret ?_))
  refine WP.fn .ret (.inr rfl) (res2 rfl rfl rfl) [] (Imm.le_refl _) ?_; exact .inr ⟨fun h => (by have := hbm.2 h; rw [hbt] at this; cases this), rfl, rfl, rfl⟩


theorem seg_Encode_ok {I : Imm} {p : Pt} {v : Value} (hv : SlRd (Im I) v p.data.length 1 (bytesV p.data)) (hm : p.may) : Spec Tryz.prog 148 [.agg (ptV p v).toArray] I [] (fun v J L => ∃ vb, v = .tuple #[vb, .int .i64 0] ∧ Own 5 1 vb (bytesV (penc p)) (penc p).length L) := (seg_Encode hv).mono (fun v J L _ h => (h.resolve_right (fun h => h.1 hm)).2)
theorem seg_Encode_bad {I : Imm} {p : Pt} {v : Value} (hv : SlRd (Im I) v p.data.length 1 (bytesV p.data)) (hm : ¬ p.may) : Spec Tryz.prog 148 [.agg (ptV p v).toArray] I [] (fun v J L => v = .tuple #[.slice none 0 0, .int .i64 70] ∧ I = J ∧ L = []) := (seg_Encode hv).mono (fun v J L _ h => (h.resolve_left (fun h => hm h.1)).2)

def RPt (J : Imm) (p : Pt) (cs : List Value) : Prop := ∃ va, cs = ptV p va ∧ SlRd (Im J) va p.data.length 1 (bytesV p.data)
theorem RPt.mono {I J : Imm} {p : Pt} {cs : List Value} (h : RPt I p cs) (hJ : I.le J) : RPt J p cs := by
 obtain ⟨va, h1, h2⟩ := h; exact ⟨va, h1, h2.mono fun b o h => hJ.2 b o h⟩
theorem RPt.zero (J : Imm) : RPt J ptZ (ptV ptZ (.slice none 0 0)) := ⟨_, rfl, none, 0, rfl, Nat.le_refl _, rfl, .inl rfl⟩
theorem WP.shareAll {n : Nat} {K : Act → World → Prop} {E : Env} {L1 : Chunks} : ∀ (Ls : Chunks) {I : Imm} {L : Chunks}, L.Perm (Ls ++ L1) → (∀ J : Imm, I.le J → (∀ p ∈ Ls, J.blk p.1 = some p.2) → WP n K E J L1) → WP n K E I L
 | [], I, L, hp, h => WP.perm _ hp (by simpa using h I (Imm.le_refl I) (fun p hp => by cases hp))
 | (b, o) :: Ls, I, L, hp, h => WP.perm _ hp (by
   rw [List.cons_append]
   exact WP.share fun J hJ hb => WP.shareAll Ls (List.Perm.refl _) fun J2 hJ2 hall => h J2 (Imm.le_trans hJ hJ2) fun p hp => by
    rcases List.mem_cons.1 hp with rfl | hp
    ·exact hJ2.2 _ _ hb
    ·exact hall p hp)
def pf (e : Pt × Value) : List Value := ptV e.1 e.2
theorem pf_len (e : Pt × Value) : (pf e).length = 6 := rfl
def pcells (l : List (Pt × Value)) : List Value := l.flatMap pf
theorem pcells_len (l : List (Pt × Value)) : (pcells l).length = l.length * 6 := flat_len pf_len l
theorem pcells_app (l m : List (Pt × Value)) : pcells (l ++ m) = pcells l ++ pcells m := flat_app l m
/-- A list of parts that is read alone. -/
structure RParts (J : Imm) (v : Value) (l : List (Pt × Value)) : Prop where
 rd : SlRd (Im J) v l.length 6 (pcells l)
 data : ∀ e ∈ l, SlRd (Im J) e.2 e.1.data.length 1 (bytesV e.1.data)
theorem RParts.mono {I J : Imm} {v : Value} {l : List (Pt × Value)} (h : RParts I v l) (hJ : I.le J) : RParts J v l := ⟨h.rd.mono fun b o hb => hJ.2 b o hb, fun e he => (h.data e he).mono fun b o hb => hJ.2 b o hb⟩
theorem RParts.nil (J : Imm) : RParts J (.slice none 0 0) [] := ⟨⟨none, 0, rfl, Nat.le_refl _, rfl, .inl rfl⟩, fun e he => by cases he⟩
inductive OData : List (Pt × Value) → Chunks → Prop
 | nil : OData [] []
 | cons {e : Pt × Value} {l : List (Pt × Value)} {La Lb : Chunks} (h : Own 5 1 e.2 (bytesV e.1.data) e.1.data.length La) (ht : OData l Lb) : OData (e :: l) (La ++ Lb)
theorem OData.snoc {e : Pt × Value} {Le : Chunks} (he : Own 5 1 e.2 (bytesV e.1.data) e.1.data.length Le) : ∀ {l : List (Pt × Value)} {L : Chunks}, OData l L → OData (l ++ [e]) (L ++ Le)
 | _, _, .nil => by have := OData.cons he .nil; simpa using this
 | _, _, .cons h ht => by have := OData.cons h (ht.snoc he); simpa [List.append_assoc] using this
theorem own_im {T sz n : Nat} {v : Value} {xs : List Value} {L : Chunks} (h : Own T sz v xs n L) {J : Imm} (hall : ∀ p ∈ L, J.blk p.1 = some p.2) : SlRd (Im J) v n sz xs := by
 cases h with
 | none0 => exact ⟨_, _, rfl, Nat.le_refl _, by simp, .inl rfl⟩
 | @blk b cap n xs sp h h2 h3 => exact ⟨_, _, rfl, h3, h, .inr ⟨b, 0, T, (0, 0), (xs ++ sp).toArray, rfl, hall _ (.head _), by simp⟩⟩
theorem OData.im : ∀ {l : List (Pt × Value)} {L : Chunks}, OData l L → ∀ {J : Imm}, (∀ p ∈ L, J.blk p.1 = some p.2) → ∀ e ∈ l, SlRd (Im J) e.2 e.1.data.length 1 (bytesV e.1.data)
 | _, _, .nil, J, _, e, he => by cases he
 | _, _, .cons h ht, J, hall, e, he => by
  rcases List.mem_cons.1 he with rfl | he
  ·exact own_im h fun p hp => hall p (List.mem_append.2 (.inl hp))
  ·exact ht.im (fun p hp => hall p (List.mem_append.2 (.inr hp))) e he
theorem RParts.own {v : Value} {l : List (Pt × Value)} {Lo Ld : Chunks} (ho : Own 223 6 v (pcells l) l.length Lo) (hd : OData l Ld) {J : Imm} (hall : ∀ p ∈ Lo ++ Ld, J.blk p.1 = some p.2) : RParts J v l :=
 ⟨own_im ho fun p hp => hall p (List.mem_append.2 (.inl hp)), hd.im fun p hp => hall p (List.mem_append.2 (.inr hp))⟩
theorem RParts.cells {J : Imm} {v : Value} {l : List (Pt × Value)} (h : RParts J v l) {i : Nat} (hi : i < l.length) : ∃ b k c T fr arr, v = .slice (some ⟨b, k, none⟩) l.length c ∧ J.blk b = some (.cells arr T fr) ∧ (arr.toList.drop (k + i * 6)).take 6 = ptV l[i].1 l[i].2 ∧ ∀ j v, (ptV l[i].1 l[i].2)[j]? = some v → arr[k + i * 6 + j]? = some v := by
 obtain ⟨b, k, c, T, fr, arr, rfl, hc, hb, hcs⟩ := h.rd.get (by omega)
 have e : (arr.toList.drop (k + i * 6)).take 6 = ptV l[i].1 l[i].2 := by
  have h2 := flat_seg pf_len hi []
  rw [List.append_nil, Nat.zero_add] at h2
  have h3 : pcells l = l.flatMap pf := rfl
  rw [← h3, ← hcs, List.drop_take, List.drop_drop, List.take_take, pcells_len] at h2
  have h4 : (i + 1) * 6 ≤ l.length * 6 := Nat.mul_le_mul_right _ hi
  rw [Nat.min_eq_left (by omega)] at h2
  exact h2
 refine ⟨b, k, c, T, fr, arr, rfl, hb, e, fun j v hv => ?_⟩
 have := take_cells e j v hv (by have := (List.getElem?_eq_some_iff.1 hv).1; exact this)
 rwa [Array.getElem?_toList] at this
theorem seg_mayQ {I : Imm} {p : Pt} {v : Value} (hv : SlRd (Im I) v p.data.length 1 (bytesV p.data)) : Spec Tryz.prog 116 [.agg (ptV p v).toArray] I [] (fun v J L => v = .bool (decide p.may) ∧ I = J ∧ L = []) :=
 (seg_may hv).mono (by
  rintro v J L _ ⟨b, rfl, hb, h1, h2⟩
  refine ⟨congrArg Value.bool ?_, h1, h2⟩
  cases b with
  | true => exact (decide_eq_true (hb.1 rfl)).symm
  | false => exact (decide_eq_false (fun h => by have := hb.2 h; cases this)).symm)
/-- A record's parts. -/
def pmanyOf (b : List UInt8) : Nat := (b.length + 197) / 198
def pcut (no place era : Int) (b : List UInt8) (m : Nat) (i : Nat) : Pt := ⟨place + i, no, i, era, m, (b.drop (i * 198)).take 198⟩
def pcutE (no place era : Int) (b : List UInt8) : Int :=
 if 12672 < b.length then 2 else if pmanyOf b = 0 ∨ place < 0 ∨ 1099511627776 - (pmanyOf b : Int) + 1 < place ∨ ¬ (⟨0, no, 0, era, 1, [0]⟩ : Pt).may then 1 else 0
def pcutL (no place era : Int) (b : List UInt8) : List Pt := if pcutE no place era b = 0 then (List.range (pmanyOf b)).map (pcut no place era b (pmanyOf b)) else []
structure PX2 where
 i : Nat
 v : Value
 vo : Value
 l : List (Pt × Value)
 Lo : Chunks
 Ld : Chunks
structure PX2.ok (I : Imm) (no place era : Int) (b : List UInt8) (m : Nat) (t : PX2) : Prop where
 le : t.i ≤ m
 rd : SlRd (Im I) t.v (b.drop (t.i * 198)).length 1 (bytesV (b.drop (t.i * 198)))
 ow : Own 223 6 t.vo (pcells t.l) t.l.length t.Lo
 od : OData t.l t.Ld
 eq : t.l.map (·.1) = (List.range t.i).map (pcut no place era b m)
set_option maxHeartbeats 1000000 in
theorem seg_Parts {I : Imm} {no place era : Int} {b : List UInt8} {vb : Value} (hb : SlRd (Im I) vb b.length 1 (bytesV b)) (hbl : b.length ≤ 140737488351232) (hno : -9223372036854775808 ≤ no ∧ no ≤ 9223372036854775807) (hpl : -9223372036854775808 ≤ place ∧ place ≤ 9223372036854775807) : Spec Tryz.prog 105 [.int .i64 no, .int .i64 place, .int .i64 era, vb] I [] (fun v J L => ∃ vo l Lo Ld, v = .tuple #[vo, .int .i64 (pcutE no place era b)] ∧ l.map (·.1) = pcutL no place era b ∧ Own 223 6 vo (pcells l) l.length Lo ∧ OData l Ld ∧ L = Lo ++ Ld) := by
 refine Spec.of Tryz.func105 rfl Tryz.ntmps105 (Nat.le_of_ble_eq_true rfl) (fun F => ?_)
 try simp only [nf]
 dsimp only [argsEnv]
 refine WP.seq ?_; refine WP.region [0, 1] rfl ?_; iterate 2 refine WP.mv rfl rfl ?_
 refine WP.nil (WP.next (WP.seq (WP.seq ?_)))
 refine WP.region [0, 1, 2] rfl ?_; refine WP.mv rfl rfl ?_; refine WP.vl rfl (Yld.lenR hb rfl ty_sl_25 rfl) ?_; refine WP.split rfl rfl rfl rfl (Yld.gtr rfl rfl rfl) (fun hlong => ?_) (fun hlong => ?_)
 ·refine WP.nil ?_
  refine WP.sub [(0, _), (1, _), (2, _), (3, _), (8, _), (9, _), (16, _)] ?_ ⟨rfl, rfl, rfl, rfl, rfl, rfl, rfl, trivial⟩
  refine WP.next ?_; refine WP.condT rfl ?_; refine WP.seq ?_; refine WP.region [0, 1] rfl ?_; iterate 2 refine WP.mv rfl rfl ?_
  refine WP.nil (WP.next (WP.ret ?_))
  refine WP.fn .ret (.inr rfl) (res2 rfl rfl rfl) [] (Imm.le_refl _) ?_; have e : pcutE no place era b = 2 := if_pos (by omega)
  have e2 : pcutL no place era b = [] := if_neg (by rw [e]; decide)
  rw [e, e2]; exact ⟨_, [], [], [], rfl, rfl, .none0, .nil, rfl⟩
 ·have hlong : b.length ≤ 12672 := by omega
  refine WP.nil ?_; refine WP.sub [(0, _), (1, _), (2, _), (3, _), (8, _), (9, _), (16, _)] ?_ ⟨rfl, rfl, rfl, rfl, rfl, rfl, rfl, trivial⟩
  refine WP.next ?_; refine WP.condF rfl ?_; refine WP.skip (WP.next (WP.seq ?_))
  refine WP.region [0, 1, 2, 3, 4, 5] rfl ?_; refine WP.mv rfl rfl ?_; refine WP.vl rfl (Yld.lenR hb rfl ty_sl_25 rfl) ?_; refine WP.vl rfl (Yld.add64 rfl rfl rfl (by omega)) ?_; refine WP.vl rfl (Yld.sub64 rfl rfl rfl (by omega)) ?_; refine WP.vl rfl (Yld.quo64 rfl rfl rfl (by omega)) ?_; rw [show ((b.length : Int) + 198 - 1) / 198 = (pmanyOf b : Int) by unfold pmanyOf; omega]
  have hmb : pmanyOf b ≤ 64 := by unfold pmanyOf; omega
  refine WP.mv rfl rfl ?_; refine WP.nil ?_; refine WP.sub [(0, _), (1, _), (2, _), (3, _), (8, _), (9, _), (10, _), (16, _)] ?_ ⟨rfl, rfl, rfl, rfl, rfl, rfl, rfl, rfl, trivial⟩
  refine WP.next (WP.seq (WP.seq ?_))
  refine WP.region [0, 1, 2, 3, 4, 5, 6, 7, 8, 9, 10, 11, 12, 13, 14, 15, 16, 17, 18, 19, 20] rfl ?_; refine WP.mv rfl rfl ?_; refine WP.split rfl rfl rfl rfl (Yld.eql rfl rfl rfl) (fun hz => ?_) (fun hz => ?_)
  ·refine WP.mv rfl rfl ?_
   iterate 2 refine WP.passG rfl rfl rfl rfl rfl rfl rfl rfl ?_
   refine WP.vl rfl (Yld.pickT rfl rfl rfl) ?_; refine WP.mv rfl rfl ?_; iterate 5 refine WP.passG rfl rfl rfl rfl rfl rfl rfl rfl ?_
   refine WP.vl rfl (Yld.pickT rfl rfl rfl) ?_; refine WP.mv rfl rfl ?_; iterate 6 refine WP.passG rfl rfl rfl rfl rfl rfl rfl rfl ?_
   refine WP.vl rfl (Yld.pickT rfl rfl rfl) ?_; refine WP.nil ?_; refine WP.sub [(0, _), (1, _), (2, _), (3, _), (8, _), (9, _), (10, _), (16, _), (42, _)] ?_ ⟨rfl, rfl, rfl, rfl, rfl, rfl, rfl, rfl, rfl, trivial⟩
   refine WP.next ?_; refine WP.condT rfl ?_; refine WP.seq ?_; refine WP.region [0, 1] rfl ?_; iterate 2 refine WP.mv rfl rfl ?_
   refine WP.nil (WP.next (WP.ret ?_))
   refine WP.fn .ret (.inr rfl) (res2 rfl rfl rfl) [] (Imm.le_refl _) ?_; have e : pcutE no place era b = 1 := by unfold pcutE; rw [if_neg (by omega), if_pos (.inl (by omega))]
   have e2 : pcutL no place era b = [] := if_neg (by rw [e]; decide)
   rw [e, e2]; exact ⟨_, [], [], [], rfl, rfl, .none0, .nil, rfl⟩
  ·refine WP.mv rfl rfl ?_
   refine WP.valG rfl rfl rfl rfl rfl rfl rfl (Yld.move rfl rfl) ?_; refine WP.splitG rfl rfl rfl rfl rfl rfl rfl (Yld.lss rfl rfl rfl) (fun hp0 => ?_) (fun hp0 => ?_)
   ·refine WP.vl rfl (Yld.pickF rfl rfl rfl) ?_
    refine WP.mv rfl rfl ?_; iterate 5 refine WP.passG rfl rfl rfl rfl rfl rfl rfl rfl ?_
    refine WP.vl rfl (Yld.pickT rfl rfl rfl) ?_; refine WP.mv rfl rfl ?_; iterate 6 refine WP.passG rfl rfl rfl rfl rfl rfl rfl rfl ?_
    refine WP.vl rfl (Yld.pickT rfl rfl rfl) ?_; refine WP.nil ?_; refine WP.sub [(0, _), (1, _), (2, _), (3, _), (8, _), (9, _), (10, _), (16, _), (42, _)] ?_ ⟨rfl, rfl, rfl, rfl, rfl, rfl, rfl, rfl, rfl, trivial⟩
    refine WP.next ?_; refine WP.condT rfl ?_; refine WP.seq ?_; refine WP.region [0, 1] rfl ?_; iterate 2 refine WP.mv rfl rfl ?_
    refine WP.nil (WP.next (WP.ret ?_))
    refine WP.fn .ret (.inr rfl) (res2 rfl rfl rfl) [] (Imm.le_refl _) ?_; have e : pcutE no place era b = 1 := by unfold pcutE; rw [if_neg (by omega), if_pos (.inr (.inl (by omega)))]
    have e2 : pcutL no place era b = [] := if_neg (by rw [e]; decide)
    rw [e, e2]; exact ⟨_, [], [], [], rfl, rfl, .none0, .nil, rfl⟩
   ·refine WP.vl rfl (Yld.pickF rfl rfl rfl) ?_
    refine WP.mv rfl rfl ?_; iterate 2 refine WP.valG rfl rfl rfl rfl rfl rfl rfl (Yld.move rfl rfl) ?_
    refine WP.valG rfl rfl rfl rfl rfl rfl rfl (Yld.sub64 rfl rfl rfl (by omega)) ?_; refine WP.valG rfl rfl rfl rfl rfl rfl rfl (Yld.add64 rfl rfl rfl (by omega)) ?_; refine WP.splitG rfl rfl rfl rfl rfl rfl rfl (Yld.gtr rfl rfl rfl) (fun hp1 => ?_) (fun hp1 => ?_)
    ·refine WP.vl rfl (Yld.pickF rfl rfl rfl) ?_
     refine WP.mv rfl rfl ?_; iterate 6 refine WP.passG rfl rfl rfl rfl rfl rfl rfl rfl ?_
     refine WP.vl rfl (Yld.pickT rfl rfl rfl) ?_; refine WP.nil ?_; refine WP.sub [(0, _), (1, _), (2, _), (3, _), (8, _), (9, _), (10, _), (16, _), (42, _)] ?_ ⟨rfl, rfl, rfl, rfl, rfl, rfl, rfl, rfl, rfl, trivial⟩
     refine WP.next ?_; refine WP.condT rfl ?_; refine WP.seq ?_; refine WP.region [0, 1] rfl ?_; iterate 2 refine WP.mv rfl rfl ?_
     refine WP.nil (WP.next (WP.ret ?_))
     refine WP.fn .ret (.inr rfl) (res2 rfl rfl rfl) [] (Imm.le_refl _) ?_; have e : pcutE no place era b = 1 := by unfold pcutE; rw [if_neg (by omega), if_pos (.inr (.inr (.inl (by omega))))]
     have e2 : pcutL no place era b = [] := if_neg (by rw [e]; decide)
     rw [e, e2]; exact ⟨_, [], [], [], rfl, rfl, .none0, .nil, rfl⟩
    ·refine WP.vl rfl (Yld.pickF rfl rfl rfl) ?_
     refine WP.mv rfl rfl ?_; iterate 2 refine WP.valG rfl rfl rfl rfl rfl rfl rfl (Yld.move rfl rfl) ?_
     refine WP.loudG rfl rfl rfl rfl rfl ?_; refine Op.buildSlice rfl ty_sl_25 ty_el2_25 rfl rfl rfl rfl (vs := [_]) rfl (segs := [(0, [_])]) (cs := bytesV [0]) rfl rfl zS (fun bz => ?_)
     refine WP.share (fun J1 hJ1 hbz => ?_)
     have hb := hb.mono (fun b o h => hJ1.2 b o h)
     have hp0v := Im_lit (l := [0]) (sp := []) (c := 1) (by rw [List.append_nil]; exact hbz) (Nat.le_refl _)
     refine WP.valG rfl rfl rfl rfl rfl rfl rfl (Yld.buildS (pl := [(1, 1, 1), (3, 3, 1), (4, 4, 1), (5, 5, 1)]) rfl ty_zr_223 ty_zd_223 zK rfl (vs := [_, _, _, _]) rfl (segs := [(1, [_]), (3, [_]), (4, [_]), (5, [_])]) rfl rfl zS) ?_; refine WP.loudG rfl rfl rfl rfl rfl ?_; refine Op.cl (seg_mayQ (p := (⟨0, no, 0, era, 1, [0]⟩ : Pt)) hp0v) rfl Tryz.func116 rfl rfl rfl rfl ?_; rintro v J L1 - ⟨rfl, rfl, rfl⟩
     try simp only [nf]
     by_cases hmay : (decide ((⟨0, no, 0, era, 1, [0]⟩ : Pt).may)) = true
     ·try rw [hmay]
      refine WP.valG rfl rfl rfl rfl rfl rfl rfl (Yld.not rfl rfl) ?_; refine WP.vl rfl (Yld.pickF rfl rfl rfl) ?_; refine WP.nil ?_; refine WP.sub [(0, _), (1, _), (2, _), (3, _), (8, _), (9, _), (10, _), (16, _), (42, _)] ?_ ⟨rfl, rfl, rfl, rfl, rfl, rfl, rfl, rfl, rfl, trivial⟩
      refine WP.next ?_; refine WP.condF rfl ?_; refine WP.skip (WP.next (WP.seq ?_))
      have hE : pcutE no place era b = 0 := by unfold pcutE; rw [if_neg (by omega), if_neg (fun h => by rcases h with h | h | h | h; omega; omega; omega; exact h (of_decide_eq_true hmay))]
      refine WP.region [0] rfl ?_; refine WP.mv rfl rfl ?_; refine WP.nil (WP.next (WP.seq (WP.seq ?_)))
      refine WP.region [0, 1] rfl ?_; iterate 2 refine WP.mv rfl rfl ?_
      refine WP.nil (WP.next (WP.block ?_))
      refine WP.loop (X := PX2) (fun t : PX2 => [(0, .int .i64 no), (1, .int .i64 place), (2, .int .i64 era), (3, t.v), (10, .int .i64 (pmanyOf b : Int)), (11, t.vo), (43, .int .i64 (pmanyOf b : Int)), (44, .int .i64 (t.i : Int))]) (fun _ => J1) (fun t : PX2 => t.Lo ++ (t.Ld ++ F)) (fun t => t.ok J1 no place era b (pmanyOf b)) (fun t => pmanyOf b - t.i) ⟨0, vb, .slice none 0 0, [], [], []⟩ ⟨Nat.zero_le _, (by rw [Nat.zero_mul, List.drop_zero]; exact hb), .none0, .nil, rfl⟩ ⟨rfl, rfl, rfl, rfl, rfl, rfl, rfl, rfl, trivial⟩ rfl zP ?_; rintro ⟨i, v, vo, l, Lo, Ld⟩ ⟨hle, hrd, how, hod, heq⟩; dsimp only at hle hrd how hod heq
      try dsimp only
      try simp only [nf]
      refine WP.seq ?_; refine WP.region [0] rfl ?_; refine WP.split rfl rfl rfl rfl (Yld.lss rfl rfl rfl) (fun hlt => ?_) (fun hlt => ?_)
      ·have hi : i < pmanyOf b := by omega
       have hll := congrArg List.length heq
       simp only [List.length_map, List.length_range] at hll
       obtain ⟨Av, cv, rfl, hcv, _, _⟩ := id hrd
       have hdl : (b.drop (i * 198)).length = b.length - i * 198 := by simp
       have hpos : 0 < (b.drop (i * 198)).length := by unfold pmanyOf at hi; omega
       have hs3 := SlRd.sub3 hrd (h := min 198 (b.drop (i * 198)).length) (Nat.min_le_right _ _)
       rw [Nat.mul_one, bytesV_take] at hs3
       have htk : (b.drop (i * 198)).take (min 198 (b.drop (i * 198)).length) = (b.drop (i * 198)).take 198 := by rcases Nat.le_total 198 (b.drop (i * 198)).length with h | h; rw [Nat.min_eq_left h]; rw [Nat.min_eq_right h, List.take_of_length_le (Nat.le_refl _), List.take_of_length_le h]
       rw [htk] at hs3
       have htl : ((b.drop (i * 198)).take 198).length = min 198 (b.drop (i * 198)).length := List.length_take
       refine WP.nil (WP.next (WP.seq ?_))
       refine WP.condT rfl ?_; refine WP.skip (WP.next (WP.seq (WP.block (WP.seq ?_))))
       refine WP.region [0, 1] rfl ?_; iterate 2 refine WP.mv rfl rfl ?_
       refine WP.nil ?_; refine WP.sub [(0, _), (1, _), (2, _), (3, _), (10, _), (11, _), (12, _), (43, _), (44, _), (45, _)] ?_ ⟨rfl, rfl, rfl, rfl, rfl, rfl, rfl, rfl, rfl, rfl, trivial⟩
       refine WP.next (WP.seq ?_)
       refine WP.region [0, 1, 2, 3] rfl ?_; refine WP.mv rfl rfl ?_; refine WP.vl rfl (Yld.lenR hrd rfl ty_sl_25 rfl) ?_; refine WP.vl rfl (Yld.min2 rfl rfl rfl ((min 198 (b.drop (i * 198)).length : Nat) : Int) (by split <;> omega)) ?_; refine WP.mv rfl rfl ?_; refine WP.nil ?_; refine WP.sub [(0, _), (1, _), (2, _), (3, _), (10, _), (11, _), (12, _), (13, _), (43, _), (44, _), (45, _)] ?_ ⟨rfl, rfl, rfl, rfl, rfl, rfl, rfl, rfl, rfl, rfl, rfl, trivial⟩
       refine WP.next (WP.seq ?_)
       refine WP.region [0, 1, 2, 3, 4, 5, 6, 7, 8, 9, 10, 11, 12, 13, 14, 15, 16] rfl ?_; iterate 3 refine WP.mv rfl rfl ?_
       refine WP.vl rfl (Yld.add64 rfl rfl rfl (by omega)) ?_; iterate 7 refine WP.mv rfl rfl ?_
       refine WP.vl rfl (Yld.slice3 (h := min 198 (b.drop (i * 198)).length) rfl ty_sl_25 rfl rfl rfl (by omega)) ?_; refine WP.loud rfl rfl ?_; refine Op.cl (slices_Clone (bs := (b.drop (i * 198)).take 198) (by rw [htl]; exact hs3) (by rw [htl]; omega)) rfl Tryz.func88 rfl rfl rfl rfl ?_; rintro v J Lc - ⟨rfl, hcn⟩
       try simp only [nf]
       rw [htl] at hcn
       obtain ⟨Ad, cd, rfl, _⟩ := hcn.slice
       refine WP.vl rfl (Yld.buildS (pl := [(0, 0, 1), (1, 1, 1), (2, 2, 1), (3, 3, 1), (4, 4, 1), (5, 5, 1)]) rfl ty_zr_223 ty_zd_223 zK rfl (vs := [_, _, _, _, _, _]) rfl (segs := [(0, [_]), (1, [_]), (2, [_]), (3, [_]), (4, [_]), (5, [_])]) rfl rfl zS) ?_; refine WP.loud rfl rfl ?_; refine Op.buildSlice rfl ty_sl_217 ty_el2_217 rfl rfl rfl rfl (vs := [_]) rfl (segs := [(0, pf (pcut no place era b (pmanyOf b) i, .slice Ad (min 198 (b.drop (i * 198)).length) cd))]) (cs := pf (pcut no place era b (pmanyOf b) i, .slice Ad (min 198 (b.drop (i * 198)).length) cd)) rfl rfl (.seg (Nat.le_refl _) rfl .nil) (fun bq => ?_)
       refine WP.loud rfl rfl ?_; refine Op.append (m := 1) rfl ty_sl_217 ty_el_217 rfl rfl rfl rfl rfl how (SlRd.lit (m := 1) zM rfl (Nat.le_refl _)) zT rfl (by omega) (by omega) (fun vn Ln hn => ?_)
       try simp only [nf]
       refine WP.mv rfl rfl ?_; refine WP.nil ?_; refine WP.sub [(0, _), (1, _), (2, _), (3, _), (10, _), (11, _), (12, _), (13, _), (43, _), (44, _), (45, _)] ?_ ⟨rfl, rfl, rfl, rfl, rfl, rfl, rfl, rfl, rfl, rfl, rfl, trivial⟩
       refine WP.next ?_; refine WP.region [0, 1, 2, 3] rfl ?_; iterate 2 refine WP.mv rfl rfl ?_
       refine WP.vl rfl (Yld.sliceR (l := min 198 (b.drop (i * 198)).length) (h := (b.drop (i * 198)).length) hrd rfl ty_sl_25 rfl (Env.limS rfl) Env.lim0 (Nat.min_le_right _ _) (Nat.le_refl _)) ?_; refine WP.mv rfl rfl ?_; refine WP.nil ?_; refine WP.sub [(0, _), (1, _), (2, _), (3, _), (10, _), (11, _), (12, _), (13, _), (43, _), (44, _), (45, _)] ?_ ⟨rfl, rfl, rfl, rfl, rfl, rfl, rfl, rfl, rfl, rfl, rfl, trivial⟩
       have hown2 : Own 223 6 vn (pcells (l ++ [(pcut no place era b (pmanyOf b) i, .slice Ad (min 198 (b.drop (i * 198)).length) cd)])) (l ++ [(pcut no place era b (pmanyOf b) i, Value.slice Ad (min 198 (b.drop (i * 198)).length) cd)]).length Ln := by rw [pcells_app, List.length_append]; exact hn
       have hod2 := hod.snoc (e := (pcut no place era b (pmanyOf b) i, .slice Ad (min 198 (b.drop (i * 198)).length) cd)) (Le := Lc) (by show Own _ _ _ (bytesV ((b.drop (i * 198)).take 198)) ((b.drop (i * 198)).take 198).length _; rw [htl]; exact hcn)
       have heq2 : (l ++ [(pcut no place era b (pmanyOf b) i, Value.slice Ad (min 198 (b.drop (i * 198)).length) cd)]).map (·.1) = (List.range (i + 1)).map (pcut no place era b (pmanyOf b)) := by rw [List.map_append, heq, List.range_succ, List.map_append]; rfl
       have hrd2 : SlRd (Im J1) (subSl 1 (min 198 (b.drop (i * 198)).length) (b.drop (i * 198)).length (.slice Av (b.drop (i * 198)).length cv)) (b.drop ((i + 1) * 198)).length 1 (bytesV (b.drop ((i + 1) * 198))) := by
        have q := hrd.dropB (l := min 198 (b.drop (i * 198)).length) (Nat.min_le_right _ _)
        have e : (b.drop (i * 198)).drop (min 198 (b.drop (i * 198)).length) = b.drop ((i + 1) * 198) := by
         rcases Nat.le_total 198 (b.drop (i * 198)).length with h | h
         ·rw [Nat.min_eq_left h, List.drop_drop]; congr 1; omega
         ·rw [Nat.min_eq_right h, List.drop_of_length_le (Nat.le_refl _), List.drop_of_length_le (by omega)]
        rw [e] at q; exact q
       refine WP.leave (WP.next ?_)
       refine WP.region [0, 1] rfl ?_; refine WP.vl rfl (Yld.add64 rfl rfl rfl (by omega)) ?_; refine WP.mv rfl rfl ?_; refine WP.nil ?_; refine WP.sub [(0, _), (1, _), (2, _), (3, _), (10, _), (11, _), (12, _), (13, _), (43, _), (44, _), (45, _)] ?_ ⟨rfl, rfl, rfl, rfl, rfl, rfl, rfl, rfl, rfl, rfl, rfl, trivial⟩
       exact WP.again ⟨i + 1, subSl 1 (min 198 (b.drop (i * 198)).length) (b.drop (i * 198)).length (.slice Av (b.drop (i * 198)).length cv), vn, l ++ [(pcut no place era b (pmanyOf b) i, .slice Ad (min 198 (b.drop (i * 198)).length) cd)], Ln, Ld ++ Lc⟩ ⟨(show i + 1 ≤ pmanyOf b by omega), hrd2, hown2, hod2, heq2⟩ (show pmanyOf b - (i + 1) < pmanyOf b - i by omega) ⟨rfl, rfl, rfl, rfl, rfl, rfl, rfl, rfl, trivial⟩ rfl (by (try dsimp only); (try simp only [nf]); repeat (first | exact Rm.chunk | exact Rm.here | exact Rm.nil0 | apply Rm.skip | apply Rm.skipS | apply PX.cons | (apply PX.done; (repeat (first | exact Leave.done | apply Leave.drop | apply Leave.dropS)); done) | apply PX.app))
      ·obtain rfl : i = pmanyOf b := by omega
       refine WP.nil (WP.next (WP.seq ?_))
       refine WP.condF rfl ?_; refine WP.exit (WP.thenE (WP.thenE (WP.hit (WP.next (WP.seq ?_)))))
       refine WP.region [0, 1, 2] rfl ?_; iterate 3 refine WP.mv rfl rfl ?_
       refine WP.nil ?_; refine WP.sub [(0, _), (1, _), (2, _), (3, _), (8, _), (9, _), (10, _), (11, _), (43, _), (44, _), (45, _)] ?_ ⟨rfl, rfl, rfl, rfl, rfl, rfl, rfl, rfl, rfl, rfl, rfl, trivial⟩
       refine WP.next (WP.ret ?_)
       refine WP.fn .ret (.inr rfl) (res2 rfl rfl rfl) (Lo ++ Ld) hJ1 ?_; have e2 : pcutL no place era b = _ := if_pos hE
       rw [hE, e2]; exact ⟨_, _, _, _, rfl, heq, how, hod, rfl⟩
     ·have hmay : (decide ((⟨0, no, 0, era, 1, [0]⟩ : Pt).may)) = false := eq_false_of_ne_true hmay
      try rw [hmay]
      refine WP.valG rfl rfl rfl rfl rfl rfl rfl (Yld.not rfl rfl) ?_; refine WP.vl rfl (Yld.pickF rfl rfl rfl) ?_; refine WP.nil ?_; refine WP.sub [(0, _), (1, _), (2, _), (3, _), (8, _), (9, _), (10, _), (16, _), (42, _)] ?_ ⟨rfl, rfl, rfl, rfl, rfl, rfl, rfl, rfl, rfl, trivial⟩
      refine WP.next ?_; refine WP.condT rfl ?_; refine WP.seq ?_; refine WP.region [0, 1] rfl ?_; iterate 2 refine WP.mv rfl rfl ?_
      refine WP.nil (WP.next (WP.ret ?_))
      refine WP.fn .ret (.inr rfl) (res2 rfl rfl rfl) [] hJ1 ?_; have e : pcutE no place era b = 1 := by unfold pcutE; rw [if_neg (by omega), if_pos (.inr (.inr (.inr (of_decide_eq_false hmay))))]
      have e2 : pcutL no place era b = [] := if_neg (by rw [e]; decide)
      rw [e, e2]; exact ⟨_, [], [], [], rfl, rfl, .none0, .nil, rfl⟩


end Go.Hp
