import Derived.Test.YtcebcphnmbhcpaaGreatSegA
import Derived.Test.YtcebcphnmbhcpaaGreatHpEq
import Derived.Test.YtcebcphnmbhcpaaGreatHpFull
import Derived.Test.YtcebcphnmbhcpaaGreatHpFlat
set_option linter.unusedVariables false
set_option linter.unusedSimpArgs false
namespace Go.Hp
open Go Go.Proofs

theorem seg_may {I : Imm} {p : Pt} {v : Value} (hv : SlRd (Im I) v p.data.length 1 (bytesV p.data)) : Spec Tryz.prog 101 [.agg (ptV p v).toArray] I [] (fun v J L => ∃ b, v = .bool b ∧ (b = true ↔ p.may) ∧ I = J ∧ L = []) := by
 refine Spec.of Tryz.func101 rfl Tryz.ntmps101 (Nat.le_of_ble_eq_true rfl) (fun F => ?_)
 try simp only [nf]
 dsimp only [argsEnv]
 refine WP.seq ?_; refine WP.region [0, 1] rfl ?_; refine WP.loud rfl rfl ?_; refine Op.box rfl rfl rfl rfl rfl (fun b1 => ?_)
 refine WP.mv rfl rfl ?_; refine WP.nil (WP.next (WP.seq ?_))
 refine WP.region [0] rfl ?_; refine WP.mv rfl rfl ?_; refine WP.nil (WP.next (WP.seq (WP.seq ?_)))
 refine WP.region [0, 1, 2, 3, 4, 5, 6, 7, 8, 9, 10, 11, 12, 13, 14, 15, 16, 17, 18, 19, 20, 21, 22, 23, 24, 25, 26, 27, 28, 29, 30, 31, 32, 33, 34, 35] rfl ?_; refine WP.mv rfl rfl ?_; refine WP.vl rfl (Yld.fieldAddr rfl ty_fd_205_0 rfl) ?_; refine WP.vl rfl (Yld.ld rfl ty_sc_3 rfl rfl) ?_; refine WP.loud rfl rfl ?_; refine Op.callE super_in (Enters.closure rfl Tryz.func111 rfl (us := []) rfl (vs := [_, _, _]) rfl) rfl rfl zT ?_; rintro v J L1 - ⟨rfl, rfl, rfl⟩
 try simp only [nf]
 by_cases h1 : (decide (0 ≤ p.place ∧ p.place ≤ 1099511627776)) = true
 ·try rw [h1]
  refine WP.vl rfl (Yld.not rfl rfl) ?_; refine WP.mv rfl rfl ?_; refine WP.valG rfl rfl rfl rfl rfl rfl rfl (Yld.move rfl rfl) ?_; refine WP.valG rfl rfl rfl rfl rfl rfl rfl (Yld.fieldAddr rfl ty_fd_205_1 rfl) ?_; refine WP.valG rfl rfl rfl rfl rfl rfl rfl (Yld.ld rfl ty_sc_3 rfl rfl) ?_; refine WP.loudG rfl rfl rfl rfl rfl ?_; refine Op.callE super_in (Enters.closure rfl Tryz.func111 rfl (us := []) rfl (vs := [_, _, _]) rfl) rfl rfl zT ?_; rintro v J L1 - ⟨rfl, rfl, rfl⟩
  try simp only [nf]
  by_cases h2 : (decide (1 ≤ p.no ∧ p.no ≤ 1099511627776)) = true
  ·try rw [h2]
   refine WP.valG rfl rfl rfl rfl rfl rfl rfl (Yld.not rfl rfl) ?_; refine WP.vl rfl (Yld.pickF rfl rfl rfl) ?_; refine WP.mv rfl rfl ?_; refine WP.valG rfl rfl rfl rfl rfl rfl rfl (Yld.move rfl rfl) ?_; refine WP.valG rfl rfl rfl rfl rfl rfl rfl (Yld.fieldAddr rfl ty_fd_205_3 rfl) ?_; refine WP.valG rfl rfl rfl rfl rfl rfl rfl (Yld.ld rfl ty_sc_3 rfl rfl) ?_; refine WP.loudG rfl rfl rfl rfl rfl ?_; refine Op.callE super_in (Enters.closure rfl Tryz.func111 rfl (us := []) rfl (vs := [_, _, _]) rfl) rfl rfl zT ?_; rintro v J L1 - ⟨rfl, rfl, rfl⟩
   try simp only [nf]
   by_cases h3 : (decide (1 ≤ p.era ∧ p.era ≤ 4294967295)) = true
   ·try rw [h3]
    refine WP.valG rfl rfl rfl rfl rfl rfl rfl (Yld.not rfl rfl) ?_; refine WP.vl rfl (Yld.pickF rfl rfl rfl) ?_; refine WP.mv rfl rfl ?_; refine WP.valG rfl rfl rfl rfl rfl rfl rfl (Yld.move rfl rfl) ?_; refine WP.valG rfl rfl rfl rfl rfl rfl rfl (Yld.fieldAddr rfl ty_fd_205_4 rfl) ?_; refine WP.valG rfl rfl rfl rfl rfl rfl rfl (Yld.ld rfl ty_sc_3 rfl rfl) ?_; refine WP.loudG rfl rfl rfl rfl rfl ?_; refine Op.callE super_in (Enters.closure rfl Tryz.func111 rfl (us := []) rfl (vs := [_, _, _]) rfl) rfl rfl zT ?_; rintro v J L1 - ⟨rfl, rfl, rfl⟩
    try simp only [nf]
    by_cases h4 : (decide (1 ≤ p.parts ∧ p.parts ≤ 64)) = true
    ·try rw [h4]
     refine WP.valG rfl rfl rfl rfl rfl rfl rfl (Yld.not rfl rfl) ?_; refine WP.vl rfl (Yld.pickF rfl rfl rfl) ?_; refine WP.mv rfl rfl ?_; refine WP.valG rfl rfl rfl rfl rfl rfl rfl (Yld.move rfl rfl) ?_; refine WP.valG rfl rfl rfl rfl rfl rfl rfl (Yld.fieldAddr rfl ty_fd_205_2 rfl) ?_; refine WP.valG rfl rfl rfl rfl rfl rfl rfl (Yld.ld rfl ty_sc_3 rfl rfl) ?_; refine WP.valG rfl rfl rfl rfl rfl rfl rfl (Yld.fieldAddr rfl ty_fd_205_4 rfl) ?_; refine WP.valG rfl rfl rfl rfl rfl rfl rfl (Yld.ld rfl ty_sc_3 rfl rfl) ?_; refine WP.valG rfl rfl rfl rfl rfl rfl rfl (Yld.sub64 rfl rfl rfl (by have := of_decide_eq_true h4; omega)) ?_; refine WP.loudG rfl rfl rfl rfl rfl ?_; refine Op.callE super_in (Enters.closure rfl Tryz.func111 rfl (us := []) rfl (vs := [_, _, _]) rfl) rfl rfl zT ?_; rintro v J L1 - ⟨rfl, rfl, rfl⟩
     try simp only [nf]
     by_cases h5 : (decide (0 ≤ p.index ∧ p.index ≤ p.parts - 1)) = true
     ·try rw [h5]
      refine WP.valG rfl rfl rfl rfl rfl rfl rfl (Yld.not rfl rfl) ?_; refine WP.vl rfl (Yld.pickF rfl rfl rfl) ?_; refine WP.nil ?_; refine WP.sub [(0, _), (1, _), (2, _), (3, _), (39, _)] ?_ ⟨rfl, rfl, rfl, rfl, rfl, trivial⟩
      refine WP.next ?_; refine WP.condF rfl ?_; refine WP.skip (WP.next (WP.seq ?_))
      refine WP.region [0, 1, 2, 3, 4, 5, 6, 7, 8, 9, 10, 11, 12, 13, 14, 15, 16, 17, 18, 19] rfl ?_; refine WP.vl rfl (Yld.fieldAddr rfl ty_fd_205_5 rfl) ?_; refine WP.vl rfl (Yld.ld rfl ty_sc_47 rfl rfl) ?_; refine WP.vl rfl (Yld.lenR hv rfl ty_sl_47 rfl) ?_; refine WP.split rfl rfl rfl rfl (Yld.eql rfl rfl rfl) (fun h6 => ?_) (fun h6 => ?_)
      ·refine WP.mv rfl rfl ?_
       iterate 13 refine WP.passG rfl rfl rfl rfl rfl rfl rfl rfl ?_
       refine WP.vl rfl (Yld.pickT rfl rfl rfl) ?_; refine WP.mv rfl rfl ?_; refine WP.nil ?_; refine WP.sub [(0, _), (1, _), (2, _), (3, _), (39, _)] ?_ ⟨rfl, rfl, rfl, rfl, rfl, trivial⟩
       refine WP.next (WP.ret ?_)
       refine WP.fn .ret (.inr rfl) (res1 rfl rfl) [] (Imm.le_refl _) ?_; have h1 := of_decide_eq_true h1
       have h2 := of_decide_eq_true h2
       have h3 := of_decide_eq_true h3
       have h4 := of_decide_eq_true h4
       have h5 := of_decide_eq_true h5
       exact ⟨_, rfl, ⟨fun _ => ⟨h1, h2, h3, h4, h5, .inl (by omega)⟩, fun _ => rfl⟩, rfl, rfl⟩
      ·refine WP.mv rfl rfl ?_
       refine WP.valG rfl rfl rfl rfl rfl rfl rfl (Yld.fieldAddr rfl ty_fd_205_2 rfl) ?_; refine WP.valG rfl rfl rfl rfl rfl rfl rfl (Yld.ld rfl ty_sc_3 rfl rfl) ?_; refine WP.valG rfl rfl rfl rfl rfl rfl rfl (Yld.fieldAddr rfl ty_fd_205_4 rfl) ?_; refine WP.valG rfl rfl rfl rfl rfl rfl rfl (Yld.ld rfl ty_sc_3 rfl rfl) ?_; refine WP.valG rfl rfl rfl rfl rfl rfl rfl (Yld.sub64 rfl rfl rfl (by have := of_decide_eq_true h4; omega)) ?_; refine WP.splitG rfl rfl rfl rfl rfl rfl rfl (Yld.eql rfl rfl rfl) (fun h7 => ?_) (fun h7 => ?_)
       ·refine WP.valG rfl rfl rfl rfl rfl rfl rfl (Yld.move rfl rfl) ?_
        refine WP.valG rfl rfl rfl rfl rfl rfl rfl (Yld.move rfl rfl) ?_; refine WP.valG rfl rfl rfl rfl rfl rfl rfl (Yld.fieldAddr rfl ty_fd_205_5 rfl) ?_; refine WP.valG rfl rfl rfl rfl rfl rfl rfl (Yld.ld rfl ty_sc_47 rfl rfl) ?_; refine WP.valG rfl rfl rfl rfl rfl rfl rfl (Yld.lenR hv rfl ty_sl_47 rfl) ?_; refine WP.loudG rfl rfl rfl rfl rfl ?_; refine Op.callE super_in (Enters.closure rfl Tryz.func111 rfl (us := []) rfl (vs := [_, _, _]) rfl) rfl rfl zT ?_; rintro v J L1 - ⟨rfl, rfl, rfl⟩
        try simp only [nf]
        by_cases h8 : (decide (1 ≤ (p.data.length : Int) ∧ (p.data.length : Int) ≤ 198)) = true
        ·try rw [h8]
         refine WP.valG rfl rfl rfl rfl rfl rfl rfl (Yld.pickT rfl rfl rfl) ?_; refine WP.vl rfl (Yld.pickF rfl rfl rfl) ?_; refine WP.mv rfl rfl ?_; refine WP.nil ?_; refine WP.sub [(0, _), (1, _), (2, _), (3, _), (39, _)] ?_ ⟨rfl, rfl, rfl, rfl, rfl, trivial⟩
         refine WP.next (WP.ret ?_)
         refine WP.fn .ret (.inr rfl) (res1 rfl rfl) [] (Imm.le_refl _) ?_; have h1 := of_decide_eq_true h1
         have h2 := of_decide_eq_true h2
         have h3 := of_decide_eq_true h3
         have h4 := of_decide_eq_true h4
         have h5 := of_decide_eq_true h5
         have h8 := of_decide_eq_true h8
         exact ⟨_, rfl, ⟨fun _ => ⟨h1, h2, h3, h4, h5, .inr ⟨h7, by omega, by omega⟩⟩, fun _ => rfl⟩, rfl, rfl⟩
        ·have h8 : (decide (1 ≤ (p.data.length : Int) ∧ (p.data.length : Int) ≤ 198)) = false := eq_false_of_ne_true h8
         try rw [h8]
         refine WP.valG rfl rfl rfl rfl rfl rfl rfl (Yld.pickT rfl rfl rfl) ?_; refine WP.vl rfl (Yld.pickF rfl rfl rfl) ?_; refine WP.mv rfl rfl ?_; refine WP.nil ?_; refine WP.sub [(0, _), (1, _), (2, _), (3, _), (39, _)] ?_ ⟨rfl, rfl, rfl, rfl, rfl, trivial⟩
         refine WP.next (WP.ret ?_)
         refine WP.fn .ret (.inr rfl) (res1 rfl rfl) [] (Imm.le_refl _) ?_; have h1 := of_decide_eq_true h1
         have h2 := of_decide_eq_true h2
         have h3 := of_decide_eq_true h3
         have h4 := of_decide_eq_true h4
         have h5 := of_decide_eq_true h5
         have h8 := of_decide_eq_false h8
         exact ⟨_, rfl, ⟨fun h => Bool.noConfusion h, fun h => (by obtain ⟨q1, q2, q3, q4, q5, q6⟩ := h; omega)⟩, rfl, rfl⟩
       ·refine WP.valG rfl rfl rfl rfl rfl rfl rfl (Yld.move rfl rfl) ?_
        iterate 5 refine WP.passG rfl rfl rfl rfl rfl rfl rfl rfl ?_
        refine WP.valG rfl rfl rfl rfl rfl rfl rfl (Yld.pickF rfl rfl rfl) ?_; refine WP.vl rfl (Yld.pickF rfl rfl rfl) ?_; refine WP.mv rfl rfl ?_; refine WP.nil ?_; refine WP.sub [(0, _), (1, _), (2, _), (3, _), (39, _)] ?_ ⟨rfl, rfl, rfl, rfl, rfl, trivial⟩
        refine WP.next (WP.ret ?_)
        refine WP.fn .ret (.inr rfl) (res1 rfl rfl) [] (Imm.le_refl _) ?_; have h1 := of_decide_eq_true h1
        have h2 := of_decide_eq_true h2
        have h3 := of_decide_eq_true h3
        have h4 := of_decide_eq_true h4
        have h5 := of_decide_eq_true h5
        exact ⟨_, rfl, ⟨fun h => Bool.noConfusion h, fun h => (by obtain ⟨q1, q2, q3, q4, q5, q6⟩ := h; omega)⟩, rfl, rfl⟩
     ·have h5 : (decide (0 ≤ p.index ∧ p.index ≤ p.parts - 1)) = false := eq_false_of_ne_true h5
      try rw [h5]
      refine WP.valG rfl rfl rfl rfl rfl rfl rfl (Yld.not rfl rfl) ?_; refine WP.vl rfl (Yld.pickF rfl rfl rfl) ?_; refine WP.nil ?_; refine WP.sub [(0, _), (1, _), (2, _), (3, _), (39, _)] ?_ ⟨rfl, rfl, rfl, rfl, rfl, trivial⟩
      refine WP.next ?_; refine WP.condT rfl ?_; refine WP.seq ?_; refine WP.region [0] rfl ?_; refine WP.mv rfl rfl ?_; refine WP.nil (WP.next (WP.ret ?_))
      refine WP.fn .ret (.inr rfl) (res1 rfl rfl) [] (Imm.le_refl _) ?_; have h1 := of_decide_eq_true h1
      have h2 := of_decide_eq_true h2
      have h3 := of_decide_eq_true h3
      have h4 := of_decide_eq_true h4
      have h5 := of_decide_eq_false h5
      exact ⟨_, rfl, ⟨fun h => Bool.noConfusion h, fun h => (by obtain ⟨q1, q2, q3, q4, q5, q6⟩ := h; omega)⟩, rfl, rfl⟩
    ·have h4 : (decide (1 ≤ p.parts ∧ p.parts ≤ 64)) = false := eq_false_of_ne_true h4
     try rw [h4]
     refine WP.valG rfl rfl rfl rfl rfl rfl rfl (Yld.not rfl rfl) ?_; refine WP.vl rfl (Yld.pickF rfl rfl rfl) ?_; refine WP.mv rfl rfl ?_; iterate 8 refine WP.passG rfl rfl rfl rfl rfl rfl rfl rfl ?_
     refine WP.vl rfl (Yld.pickT rfl rfl rfl) ?_; refine WP.nil ?_; refine WP.sub [(0, _), (1, _), (2, _), (3, _), (39, _)] ?_ ⟨rfl, rfl, rfl, rfl, rfl, trivial⟩
     refine WP.next ?_; refine WP.condT rfl ?_; refine WP.seq ?_; refine WP.region [0] rfl ?_; refine WP.mv rfl rfl ?_; refine WP.nil (WP.next (WP.ret ?_))
     refine WP.fn .ret (.inr rfl) (res1 rfl rfl) [] (Imm.le_refl _) ?_; have h1 := of_decide_eq_true h1
     have h2 := of_decide_eq_true h2
     have h3 := of_decide_eq_true h3
     have h4 := of_decide_eq_false h4
     exact ⟨_, rfl, ⟨fun h => Bool.noConfusion h, fun h => (by obtain ⟨q1, q2, q3, q4, q5, q6⟩ := h; omega)⟩, rfl, rfl⟩
   ·have h3 : (decide (1 ≤ p.era ∧ p.era ≤ 4294967295)) = false := eq_false_of_ne_true h3
    try rw [h3]
    refine WP.valG rfl rfl rfl rfl rfl rfl rfl (Yld.not rfl rfl) ?_; refine WP.vl rfl (Yld.pickF rfl rfl rfl) ?_; refine WP.mv rfl rfl ?_; iterate 5 refine WP.passG rfl rfl rfl rfl rfl rfl rfl rfl ?_
    refine WP.vl rfl (Yld.pickT rfl rfl rfl) ?_; refine WP.mv rfl rfl ?_; iterate 8 refine WP.passG rfl rfl rfl rfl rfl rfl rfl rfl ?_
    refine WP.vl rfl (Yld.pickT rfl rfl rfl) ?_; refine WP.nil ?_; refine WP.sub [(0, _), (1, _), (2, _), (3, _), (39, _)] ?_ ⟨rfl, rfl, rfl, rfl, rfl, trivial⟩
    refine WP.next ?_; refine WP.condT rfl ?_; refine WP.seq ?_; refine WP.region [0] rfl ?_; refine WP.mv rfl rfl ?_; refine WP.nil (WP.next (WP.ret ?_))
    refine WP.fn .ret (.inr rfl) (res1 rfl rfl) [] (Imm.le_refl _) ?_; have h1 := of_decide_eq_true h1
    have h2 := of_decide_eq_true h2
    have h3 := of_decide_eq_false h3
    exact ⟨_, rfl, ⟨fun h => Bool.noConfusion h, fun h => (by obtain ⟨q1, q2, q3, q4, q5, q6⟩ := h; omega)⟩, rfl, rfl⟩
  ·have h2 : (decide (1 ≤ p.no ∧ p.no ≤ 1099511627776)) = false := eq_false_of_ne_true h2
   try rw [h2]
   refine WP.valG rfl rfl rfl rfl rfl rfl rfl (Yld.not rfl rfl) ?_; refine WP.vl rfl (Yld.pickF rfl rfl rfl) ?_; refine WP.mv rfl rfl ?_; iterate 5 refine WP.passG rfl rfl rfl rfl rfl rfl rfl rfl ?_
   refine WP.vl rfl (Yld.pickT rfl rfl rfl) ?_; refine WP.mv rfl rfl ?_; iterate 5 refine WP.passG rfl rfl rfl rfl rfl rfl rfl rfl ?_
   refine WP.vl rfl (Yld.pickT rfl rfl rfl) ?_; refine WP.mv rfl rfl ?_; iterate 8 refine WP.passG rfl rfl rfl rfl rfl rfl rfl rfl ?_
   refine WP.vl rfl (Yld.pickT rfl rfl rfl) ?_; refine WP.nil ?_; refine WP.sub [(0, _), (1, _), (2, _), (3, _), (39, _)] ?_ ⟨rfl, rfl, rfl, rfl, rfl, trivial⟩
   refine WP.next ?_; refine WP.condT rfl ?_; refine WP.seq ?_; refine WP.region [0] rfl ?_; refine WP.mv rfl rfl ?_; refine WP.nil (WP.next (WP.ret ?_))
   refine WP.fn .ret (.inr rfl) (res1 rfl rfl) [] (Imm.le_refl _) ?_; have h1 := of_decide_eq_true h1
   have h2 := of_decide_eq_false h2
   exact ⟨_, rfl, ⟨fun h => Bool.noConfusion h, fun h => (by obtain ⟨q1, q2, q3, q4, q5, q6⟩ := h; omega)⟩, rfl, rfl⟩
 ·have h1 : (decide (0 ≤ p.place ∧ p.place ≤ 1099511627776)) = false := eq_false_of_ne_true h1
  try rw [h1]
  refine WP.vl rfl (Yld.not rfl rfl) ?_; refine WP.mv rfl rfl ?_; iterate 5 refine WP.passG rfl rfl rfl rfl rfl rfl rfl rfl ?_
  refine WP.vl rfl (Yld.pickT rfl rfl rfl) ?_; refine WP.mv rfl rfl ?_; iterate 5 refine WP.passG rfl rfl rfl rfl rfl rfl rfl rfl ?_
  refine WP.vl rfl (Yld.pickT rfl rfl rfl) ?_; refine WP.mv rfl rfl ?_; iterate 5 refine WP.passG rfl rfl rfl rfl rfl rfl rfl rfl ?_
  refine WP.vl rfl (Yld.pickT rfl rfl rfl) ?_; refine WP.mv rfl rfl ?_; iterate 8 refine WP.passG rfl rfl rfl rfl rfl rfl rfl rfl ?_
  refine WP.vl rfl (Yld.pickT rfl rfl rfl) ?_; refine WP.nil ?_; refine WP.sub [(0, _), (1, _), (2, _), (3, _), (39, _)] ?_ ⟨rfl, rfl, rfl, rfl, rfl, trivial⟩
  refine WP.next ?_; refine WP.condT rfl ?_; refine WP.seq ?_; refine WP.region [0] rfl ?_; refine WP.mv rfl rfl ?_; refine WP.nil (WP.next (WP.ret ?_))
  refine WP.fn .ret (.inr rfl) (res1 rfl rfl) [] (Imm.le_refl _) ?_; have h1 := of_decide_eq_false h1
  exact ⟨_, rfl, ⟨fun h => Bool.noConfusion h, fun h => (by obtain ⟨q1, q2, q3, q4, q5, q6⟩ := h; omega)⟩, rfl, rfl⟩

theorem slices_Clone {I : Imm} {bs : List UInt8} {vb : Value} (hb : SlRd (fun b o => I.blk b = some o) vb bs.length 1 (bytesV bs)) (hbl : bs.length ≤ 140737488351232) : Spec Tryz.prog 46 [vb] I [] (fun v J L => I = J ∧ Own 5 1 v (bytesV bs) bs.length L) := by
 obtain ⟨A, c, rfl, hc, _, _⟩ := id hb
 refine Spec.of Tryz.func46 rfl Tryz.ntmps46 (Nat.le_of_ble_eq_true rfl) (fun F => ?_)
 try simp only [nf]
 dsimp only [argsEnv]
 refine WP.seq ?_; refine WP.region [0] rfl ?_; refine WP.mv rfl rfl ?_; refine WP.nil (WP.next (WP.seq (WP.seq ?_)))
 refine WP.region [0, 1] rfl ?_; refine WP.mv rfl rfl ?_; refine WP.vl rfl (Yld.eqlSlNil rfl ty_sl_47 rfl rfl) ?_; by_cases hA : A.isNone = true
 ·try rw [hA]
  refine WP.nil ?_; refine WP.sub [(0, _), (2, _), (4, _)] ?_ ⟨rfl, rfl, rfl, trivial⟩
  refine WP.next ?_; refine WP.condT rfl ?_; refine WP.seq ?_; refine WP.region [0] rfl ?_; refine WP.mv rfl rfl ?_; refine WP.nil (WP.next (WP.ret ?_))
  refine WP.fn .ret (.inr rfl) (res1 rfl rfl) [] (Imm.le_refl _) ?_; obtain rfl : bs = [] := by obtain ⟨A', c', e, _, _, h3⟩ := hb; cases e; rcases h3 with h3 | ⟨b, k, T, fr, arr, rfl, _, _⟩; exact List.eq_nil_of_length_eq_zero h3; cases hA
  exact ⟨rfl, .none0⟩
 ·have hA : A.isNone = false := eq_false_of_ne_true hA
  try rw [hA]
  refine WP.nil ?_; refine WP.sub [(0, _), (2, _), (4, _)] ?_ ⟨rfl, rfl, rfl, trivial⟩
  refine WP.next ?_; refine WP.condF rfl ?_; refine WP.skip (WP.next (WP.seq ?_))
  refine WP.region [0, 1, 2, 3] rfl ?_; refine WP.loud rfl rfl ?_; refine Op.buildSlice rfl ty_sl_47 ty_el2_47 rfl rfl rfl rfl (vs := []) rfl (segs := []) (cs := []) rfl rfl .nil (fun be => ?_)
  refine WP.mv rfl rfl ?_; refine WP.loud rfl rfl ?_; refine Op.append rfl ty_sl_47 ty_el_47 rfl rfl rfl rfl rfl (Own.blk (T := 5) (sz := 1) (b := be) (cap := 0) (n := 0) (xs := []) (sp := []) rfl rfl (Nat.le_refl _)) (hb.mono (fun b o h => There.i h)) zT (bytesV_one _) (by omega) (by omega) (fun vp Lp hp => ?_)
  rw [List.nil_append, Nat.zero_add] at hp
  try simp only [nf]
  refine WP.mv rfl rfl ?_; refine WP.nil ?_; refine WP.sub [(0, _), (2, _), (4, _)] ?_ ⟨rfl, rfl, rfl, trivial⟩
  refine WP.next (WP.ret ?_)
  refine WP.fn .ret (.inr rfl) (res1 rfl rfl) Lp (Imm.le_refl _) ?_; exact ⟨rfl, hp⟩

theorem own_lit {b k : Nat} {l : List UInt8} (h : l.length = k) : Own 5 1 (.slice (some ⟨b, 0, none⟩) k k) (bytesV l) k [(b, row 5 (bytesV l))] := by
 have q := Own.blk (T := 5) (sz := 1) (b := b) (cap := k) (n := k) (xs := bytesV l) (sp := []) (by rw [bytesV_len, h, Nat.mul_one]) (by simp [bytesV_len, h]) (Nat.le_refl _)
 rwa [List.append_nil] at q
def RPt (J : Imm) (p : Pt) (cs : List Value) : Prop := ∃ va, cs = ptV p va ∧ SlRd (Im J) va p.data.length 1 (bytesV p.data)
theorem RPt.mono {I J : Imm} {p : Pt} {cs : List Value} (h : RPt I p cs) (hJ : I.le J) : RPt J p cs := by
 obtain ⟨va, h1, h2⟩ := h; exact ⟨va, h1, h2.mono fun b o h => hJ.2 b o h⟩
theorem RPt.zero (J : Imm) : RPt J ptZ (ptV ptZ (.slice none 0 0)) := ⟨_, rfl, none, 0, rfl, Nat.le_refl _, rfl, .inl rfl⟩
theorem WP.shareAll {n : Nat} {K : Act → World → Prop} {E : Env} {L1 : Chunks} : ∀ (Ls : Chunks) {I : Imm} {L : Chunks}, L.Perm (Ls ++ L1) → (∀ J : Imm, I.le J → (∀ p ∈ Ls, J.blk p.1 = some p.2) → WP n K E J L1) → WP n K E I L
 | [], I, L, hp, h => WP.perm _ hp (by simpa using h I (Imm.le_refl I) (fun p hp => by cases hp))
 | (b, o) :: Ls, I, L, hp, h => WP.perm _ hp (by
   rw [List.cons_append]
   exact WP.share fun J hJ hb => WP.shareAll Ls (List.Perm.refl _) fun J2 hJ2 hall => h J2 (Imm.le_trans hJ hJ2) fun p hp => by
    rcases List.mem_cons.1 hp with rfl | hp
    ·exact hJ2.2 _ _ hb
    ·exact hall p hp)
def pf (e : Pt × Value) : List Value := ptV e.1 e.2
theorem pf_len (e : Pt × Value) : (pf e).length = 6 := rfl
def pcells (l : List (Pt × Value)) : List Value := l.flatMap pf
theorem pcells_len (l : List (Pt × Value)) : (pcells l).length = l.length * 6 := flat_len pf_len l
theorem pcells_app (l m : List (Pt × Value)) : pcells (l ++ m) = pcells l ++ pcells m := flat_app l m
/-- A list of parts that is read alone. -/
structure RParts (J : Imm) (v : Value) (l : List (Pt × Value)) : Prop where
 rd : SlRd (Im J) v l.length 6 (pcells l)
 data : ∀ e ∈ l, SlRd (Im J) e.2 e.1.data.length 1 (bytesV e.1.data)
theorem RParts.mono {I J : Imm} {v : Value} {l : List (Pt × Value)} (h : RParts I v l) (hJ : I.le J) : RParts J v l := ⟨h.rd.mono fun b o hb => hJ.2 b o hb, fun e he => (h.data e he).mono fun b o hb => hJ.2 b o hb⟩
theorem RParts.nil (J : Imm) : RParts J (.slice none 0 0) [] := ⟨⟨none, 0, rfl, Nat.le_refl _, rfl, .inl rfl⟩, fun e he => by cases he⟩
inductive OData : List (Pt × Value) → Chunks → Prop
 | nil : OData [] []
 | cons {e : Pt × Value} {l : List (Pt × Value)} {La Lb : Chunks} (h : Own 5 1 e.2 (bytesV e.1.data) e.1.data.length La) (ht : OData l Lb) : OData (e :: l) (La ++ Lb)
theorem OData.snoc {e : Pt × Value} {Le : Chunks} (he : Own 5 1 e.2 (bytesV e.1.data) e.1.data.length Le) : ∀ {l : List (Pt × Value)} {L : Chunks}, OData l L → OData (l ++ [e]) (L ++ Le)
 | _, _, .nil => by have := OData.cons he .nil; simpa using this
 | _, _, .cons h ht => by have := OData.cons h (ht.snoc he); simpa [List.append_assoc] using this
theorem own_im {T sz n : Nat} {v : Value} {xs : List Value} {L : Chunks} (h : Own T sz v xs n L) {J : Imm} (hall : ∀ p ∈ L, J.blk p.1 = some p.2) : SlRd (Im J) v n sz xs := by
 cases h with
 | none0 => exact ⟨_, _, rfl, Nat.le_refl _, by simp, .inl rfl⟩
 | @blk b cap n xs sp h h2 h3 => exact ⟨_, _, rfl, h3, h, .inr ⟨b, 0, T, (0, 0), (xs ++ sp).toArray, rfl, hall _ (.head _), by simp⟩⟩
theorem OData.im : ∀ {l : List (Pt × Value)} {L : Chunks}, OData l L → ∀ {J : Imm}, (∀ p ∈ L, J.blk p.1 = some p.2) → ∀ e ∈ l, SlRd (Im J) e.2 e.1.data.length 1 (bytesV e.1.data)
 | _, _, .nil, J, _, e, he => by cases he
 | _, _, .cons h ht, J, hall, e, he => by
  rcases List.mem_cons.1 he with rfl | he
  ·exact own_im h fun p hp => hall p (List.mem_append.2 (.inl hp))
  ·exact ht.im (fun p hp => hall p (List.mem_append.2 (.inr hp))) e he
theorem RParts.own {v : Value} {l : List (Pt × Value)} {Lo Ld : Chunks} (ho : Own 205 6 v (pcells l) l.length Lo) (hd : OData l Ld) {J : Imm} (hall : ∀ p ∈ Lo ++ Ld, J.blk p.1 = some p.2) : RParts J v l :=
 ⟨own_im ho fun p hp => hall p (List.mem_append.2 (.inl hp)), hd.im fun p hp => hall p (List.mem_append.2 (.inr hp))⟩
theorem RParts.cells {J : Imm} {v : Value} {l : List (Pt × Value)} (h : RParts J v l) {i : Nat} (hi : i < l.length) : ∃ b k c T fr arr, v = .slice (some ⟨b, k, none⟩) l.length c ∧ J.blk b = some (.cells arr T fr) ∧ (arr.toList.drop (k + i * 6)).take 6 = ptV l[i].1 l[i].2 ∧ ∀ j v, (ptV l[i].1 l[i].2)[j]? = some v → arr[k + i * 6 + j]? = some v := by
 obtain ⟨b, k, c, T, fr, arr, rfl, hc, hb, hcs⟩ := h.rd.get (by omega)
 have e : (arr.toList.drop (k + i * 6)).take 6 = ptV l[i].1 l[i].2 := by
  have h2 := flat_seg pf_len hi []
  rw [List.append_nil, Nat.zero_add] at h2
  have h3 : pcells l = l.flatMap pf := rfl
  rw [← h3, ← hcs, List.drop_take, List.drop_drop, List.take_take, pcells_len] at h2
  have h4 : (i + 1) * 6 ≤ l.length * 6 := Nat.mul_le_mul_right _ hi
  rw [Nat.min_eq_left (by omega)] at h2
  exact h2
 refine ⟨b, k, c, T, fr, arr, rfl, hb, e, fun j v hv => ?_⟩
 have := take_cells e j v hv (by have := (List.getElem?_eq_some_iff.1 hv).1; exact this)
 rwa [Array.getElem?_toList] at this
theorem seg_mayQ {I : Imm} {p : Pt} {v : Value} (hv : SlRd (Im I) v p.data.length 1 (bytesV p.data)) : Spec Tryz.prog 101 [.agg (ptV p v).toArray] I [] (fun v J L => v = .bool (decide p.may) ∧ I = J ∧ L = []) :=
 (seg_may hv).mono (by
  rintro v J L _ ⟨b, rfl, hb, h1, h2⟩
  refine ⟨congrArg Value.bool ?_, h1, h2⟩
  cases b with
  | true => exact (decide_eq_true (hb.1 rfl)).symm
  | false => exact (decide_eq_false (fun h => by have := hb.2 h; cases this)).symm)
/-- A record's parts. -/
def pmanyOf (b : List UInt8) : Nat := (b.length + 197) / 198
def pcut (no place era : Int) (b : List UInt8) (m : Nat) (i : Nat) : Pt := ⟨place + i, no, i, era, m, (b.drop (i * 198)).take 198⟩
def pcutE (no place era : Int) (b : List UInt8) : Int :=
 if 12672 < b.length then 2 else if pmanyOf b = 0 ∨ place < 0 ∨ 1099511627776 - (pmanyOf b : Int) + 1 < place ∨ ¬ (⟨0, no, 0, era, 1, [0]⟩ : Pt).may then 1 else 0
def pcutL (no place era : Int) (b : List UInt8) : List Pt := if pcutE no place era b = 0 then (List.range (pmanyOf b)).map (pcut no place era b (pmanyOf b)) else []
structure PX2 where
 i : Nat
 v : Value
 vo : Value
 l : List (Pt × Value)
 Lo : Chunks
 Ld : Chunks
structure PX2.ok (I : Imm) (no place era : Int) (b : List UInt8) (m : Nat) (t : PX2) : Prop where
 le : t.i ≤ m
 rd : SlRd (Im I) t.v (b.drop (t.i * 198)).length 1 (bytesV (b.drop (t.i * 198)))
 ow : Own 205 6 t.vo (pcells t.l) t.l.length t.Lo
 od : OData t.l t.Ld
 eq : t.l.map (·.1) = (List.range t.i).map (pcut no place era b m)
set_option maxHeartbeats 1000000 in
theorem seg_Parts {I : Imm} {no place era : Int} {b : List UInt8} {vb : Value} (hb : SlRd (Im I) vb b.length 1 (bytesV b)) (hbl : b.length ≤ 140737488351232) (hno : -9223372036854775808 ≤ no ∧ no ≤ 9223372036854775807) (hpl : -9223372036854775808 ≤ place ∧ place ≤ 9223372036854775807) : Spec Tryz.prog 88 [.int .i64 no, .int .i64 place, .int .i64 era, vb] I [] (fun v J L => ∃ vo l Lo Ld, v = .tuple #[vo, .int .i64 (pcutE no place era b)] ∧ l.map (·.1) = pcutL no place era b ∧ Own 205 6 vo (pcells l) l.length Lo ∧ OData l Ld ∧ L = Lo ++ Ld) := by
 refine Spec.of Tryz.func88 rfl Tryz.ntmps88 (Nat.le_of_ble_eq_true rfl) (fun F => ?_)
 try simp only [nf]
 dsimp only [argsEnv]
 refine WP.seq ?_; refine WP.region [0, 1] rfl ?_; iterate 2 refine WP.mv rfl rfl ?_
 refine WP.nil (WP.next (WP.seq (WP.seq ?_)))
 refine WP.region [0, 1, 2] rfl ?_; refine WP.mv rfl rfl ?_; refine WP.vl rfl (Yld.lenR hb rfl ty_sl_47 rfl) ?_; refine WP.split rfl rfl rfl rfl (Yld.gtr rfl rfl rfl) (fun hlong => ?_) (fun hlong => ?_)
 ·refine WP.nil ?_
  refine WP.sub [(0, _), (1, _), (2, _), (3, _), (8, _), (9, _), (16, _)] ?_ ⟨rfl, rfl, rfl, rfl, rfl, rfl, rfl, trivial⟩
  refine WP.next ?_; refine WP.condT rfl ?_; refine WP.seq ?_; refine WP.region [0, 1] rfl ?_; iterate 2 refine WP.mv rfl rfl ?_
  refine WP.nil (WP.next (WP.ret ?_))
  refine WP.fn .ret (.inr rfl) (res2 rfl rfl rfl) [] (Imm.le_refl _) ?_; have e : pcutE no place era b = 2 := if_pos (by omega)
  have e2 : pcutL no place era b = [] := if_neg (by rw [e]; decide)
  rw [e, e2]; exact ⟨_, [], [], [], rfl, rfl, .none0, .nil, rfl⟩
 ·have hlong : b.length ≤ 12672 := by omega
  refine WP.nil ?_; refine WP.sub [(0, _), (1, _), (2, _), (3, _), (8, _), (9, _), (16, _)] ?_ ⟨rfl, rfl, rfl, rfl, rfl, rfl, rfl, trivial⟩
  refine WP.next ?_; refine WP.condF rfl ?_; refine WP.skip (WP.next (WP.seq ?_))
  refine WP.region [0, 1, 2, 3, 4, 5] rfl ?_; refine WP.mv rfl rfl ?_; refine WP.vl rfl (Yld.lenR hb rfl ty_sl_47 rfl) ?_; refine WP.vl rfl (Yld.add64 rfl rfl rfl (by omega)) ?_; refine WP.vl rfl (Yld.sub64 rfl rfl rfl (by omega)) ?_; refine WP.vl rfl (Yld.quo64 rfl rfl rfl (by omega)) ?_; rw [show ((b.length : Int) + 198 - 1) / 198 = (pmanyOf b : Int) by unfold pmanyOf; omega]
  have hmb : pmanyOf b ≤ 64 := by unfold pmanyOf; omega
  refine WP.mv rfl rfl ?_; refine WP.nil ?_; refine WP.sub [(0, _), (1, _), (2, _), (3, _), (8, _), (9, _), (10, _), (16, _)] ?_ ⟨rfl, rfl, rfl, rfl, rfl, rfl, rfl, rfl, trivial⟩
  refine WP.next (WP.seq (WP.seq ?_))
  refine WP.region [0, 1, 2, 3, 4, 5, 6, 7, 8, 9, 10, 11, 12, 13, 14, 15, 16, 17, 18, 19, 20] rfl ?_; refine WP.mv rfl rfl ?_; refine WP.split rfl rfl rfl rfl (Yld.eql rfl rfl rfl) (fun hz => ?_) (fun hz => ?_)
  ·refine WP.mv rfl rfl ?_
   iterate 2 refine WP.passG rfl rfl rfl rfl rfl rfl rfl rfl ?_
   refine WP.vl rfl (Yld.pickT rfl rfl rfl) ?_; refine WP.mv rfl rfl ?_; iterate 5 refine WP.passG rfl rfl rfl rfl rfl rfl rfl rfl ?_
   refine WP.vl rfl (Yld.pickT rfl rfl rfl) ?_; refine WP.mv rfl rfl ?_; iterate 6 refine WP.passG rfl rfl rfl rfl rfl rfl rfl rfl ?_
   refine WP.vl rfl (Yld.pickT rfl rfl rfl) ?_; refine WP.nil ?_; refine WP.sub [(0, _), (1, _), (2, _), (3, _), (8, _), (9, _), (10, _), (16, _), (42, _)] ?_ ⟨rfl, rfl, rfl, rfl, rfl, rfl, rfl, rfl, rfl, trivial⟩
   refine WP.next ?_; refine WP.condT rfl ?_; refine WP.seq ?_; refine WP.region [0, 1] rfl ?_; iterate 2 refine WP.mv rfl rfl ?_
   refine WP.nil (WP.next (WP.ret ?_))
   refine WP.fn .ret (.inr rfl) (res2 rfl rfl rfl) [] (Imm.le_refl _) ?_; have e : pcutE no place era b = 1 := by unfold pcutE; rw [if_neg (by omega), if_pos (.inl (by omega))]
   have e2 : pcutL no place era b = [] := if_neg (by rw [e]; decide)
   rw [e, e2]; exact ⟨_, [], [], [], rfl, rfl, .none0, .nil, rfl⟩
  ·refine WP.mv rfl rfl ?_
   refine WP.valG rfl rfl rfl rfl rfl rfl rfl (Yld.move rfl rfl) ?_; refine WP.splitG rfl rfl rfl rfl rfl rfl rfl (Yld.lss rfl rfl rfl) (fun hp0 => ?_) (fun hp0 => ?_)
   ·refine WP.vl rfl (Yld.pickF rfl rfl rfl) ?_
    refine WP.mv rfl rfl ?_; iterate 5 refine WP.passG rfl rfl rfl rfl rfl rfl rfl rfl ?_
    refine WP.vl rfl (Yld.pickT rfl rfl rfl) ?_; refine WP.mv rfl rfl ?_; iterate 6 refine WP.passG rfl rfl rfl rfl rfl rfl rfl rfl ?_
    refine WP.vl rfl (Yld.pickT rfl rfl rfl) ?_; refine WP.nil ?_; refine WP.sub [(0, _), (1, _), (2, _), (3, _), (8, _), (9, _), (10, _), (16, _), (42, _)] ?_ ⟨rfl, rfl, rfl, rfl, rfl, rfl, rfl, rfl, rfl, trivial⟩
    refine WP.next ?_; refine WP.condT rfl ?_; refine WP.seq ?_; refine WP.region [0, 1] rfl ?_; iterate 2 refine WP.mv rfl rfl ?_
    refine WP.nil (WP.next (WP.ret ?_))
    refine WP.fn .ret (.inr rfl) (res2 rfl rfl rfl) [] (Imm.le_refl _) ?_; have e : pcutE no place era b = 1 := by unfold pcutE; rw [if_neg (by omega), if_pos (.inr (.inl (by omega)))]
    have e2 : pcutL no place era b = [] := if_neg (by rw [e]; decide)
    rw [e, e2]; exact ⟨_, [], [], [], rfl, rfl, .none0, .nil, rfl⟩
   ·refine WP.vl rfl (Yld.pickF rfl rfl rfl) ?_
    refine WP.mv rfl rfl ?_; iterate 2 refine WP.valG rfl rfl rfl rfl rfl rfl rfl (Yld.move rfl rfl) ?_
    refine WP.valG rfl rfl rfl rfl rfl rfl rfl (Yld.sub64 rfl rfl rfl (by omega)) ?_; refine WP.valG rfl rfl rfl rfl rfl rfl rfl (Yld.add64 rfl rfl rfl (by omega)) ?_; refine WP.splitG rfl rfl rfl rfl rfl rfl rfl (Yld.gtr rfl rfl rfl) (fun hp1 => ?_) (fun hp1 => ?_)
    ·refine WP.vl rfl (Yld.pickF rfl rfl rfl) ?_
     refine WP.mv rfl rfl ?_; iterate 6 refine WP.passG rfl rfl rfl rfl rfl rfl rfl rfl ?_
     refine WP.vl rfl (Yld.pickT rfl rfl rfl) ?_; refine WP.nil ?_; refine WP.sub [(0, _), (1, _), (2, _), (3, _), (8, _), (9, _), (10, _), (16, _), (42, _)] ?_ ⟨rfl, rfl, rfl, rfl, rfl, rfl, rfl, rfl, rfl, trivial⟩
     refine WP.next ?_; refine WP.condT rfl ?_; refine WP.seq ?_; refine WP.region [0, 1] rfl ?_; iterate 2 refine WP.mv rfl rfl ?_
     refine WP.nil (WP.next (WP.ret ?_))
     refine WP.fn .ret (.inr rfl) (res2 rfl rfl rfl) [] (Imm.le_refl _) ?_; have e : pcutE no place era b = 1 := by unfold pcutE; rw [if_neg (by omega), if_pos (.inr (.inr (.inl (by omega))))]
     have e2 : pcutL no place era b = [] := if_neg (by rw [e]; decide)
     rw [e, e2]; exact ⟨_, [], [], [], rfl, rfl, .none0, .nil, rfl⟩
    ·refine WP.vl rfl (Yld.pickF rfl rfl rfl) ?_
     refine WP.mv rfl rfl ?_; iterate 2 refine WP.valG rfl rfl rfl rfl rfl rfl rfl (Yld.move rfl rfl) ?_
     refine WP.loudG rfl rfl rfl rfl rfl ?_; refine Op.buildSlice rfl ty_sl_47 ty_el2_47 rfl rfl rfl rfl (vs := [_]) rfl (segs := [(0, [_])]) (cs := bytesV [0]) rfl rfl zS (fun bz => ?_)
     refine WP.share (fun J1 hJ1 hbz => ?_)
     have hb := hb.mono (fun b o h => hJ1.2 b o h)
     have hp0v := Im_lit (l := [0]) (sp := []) (c := 1) (by rw [List.append_nil]; exact hbz) (Nat.le_refl _)
     refine WP.valG rfl rfl rfl rfl rfl rfl rfl (Yld.buildS (pl := [(1, 1, 1), (3, 3, 1), (4, 4, 1), (5, 5, 1)]) rfl ty_zr_205 ty_zd_205 zK rfl (vs := [_, _, _, _]) rfl (segs := [(1, [_]), (3, [_]), (4, [_]), (5, [_])]) rfl rfl zS) ?_; refine WP.loudG rfl rfl rfl rfl rfl ?_; refine Op.cl (seg_mayQ (p := (⟨0, no, 0, era, 1, [0]⟩ : Pt)) hp0v) rfl Tryz.func101 rfl rfl rfl rfl ?_; rintro v J L1 - ⟨rfl, rfl, rfl⟩
     try simp only [nf]
     by_cases hmay : (decide ((⟨0, no, 0, era, 1, [0]⟩ : Pt).may)) = true
     ·try rw [hmay]
      refine WP.valG rfl rfl rfl rfl rfl rfl rfl (Yld.not rfl rfl) ?_; refine WP.vl rfl (Yld.pickF rfl rfl rfl) ?_; refine WP.nil ?_; refine WP.sub [(0, _), (1, _), (2, _), (3, _), (8, _), (9, _), (10, _), (16, _), (42, _)] ?_ ⟨rfl, rfl, rfl, rfl, rfl, rfl, rfl, rfl, rfl, trivial⟩
      refine WP.next ?_; refine WP.condF rfl ?_; refine WP.skip (WP.next (WP.seq ?_))
      have hE : pcutE no place era b = 0 := by unfold pcutE; rw [if_neg (by omega), if_neg (fun h => by rcases h with h | h | h | h; omega; omega; omega; exact h (of_decide_eq_true hmay))]
      refine WP.region [0] rfl ?_; refine WP.mv rfl rfl ?_; refine WP.nil (WP.next (WP.seq (WP.seq ?_)))
      refine WP.region [0, 1] rfl ?_; iterate 2 refine WP.mv rfl rfl ?_
      refine WP.nil (WP.next (WP.block ?_))
      refine WP.loop (X := PX2) (fun t : PX2 => [(0, .int .i64 no), (1, .int .i64 place), (2, .int .i64 era), (3, t.v), (10, .int .i64 (pmanyOf b : Int)), (11, t.vo), (43, .int .i64 (pmanyOf b : Int)), (44, .int .i64 (t.i : Int))]) (fun _ => J1) (fun t : PX2 => t.Lo ++ (t.Ld ++ F)) (fun t => t.ok J1 no place era b (pmanyOf b)) (fun t => pmanyOf b - t.i) ⟨0, vb, .slice none 0 0, [], [], []⟩ ⟨Nat.zero_le _, (by rw [Nat.zero_mul, List.drop_zero]; exact hb), .none0, .nil, rfl⟩ ⟨rfl, rfl, rfl, rfl, rfl, rfl, rfl, rfl, trivial⟩ rfl zP ?_; rintro ⟨i, v, vo, l, Lo, Ld⟩ ⟨hle, hrd, how, hod, heq⟩; dsimp only at hle hrd how hod heq
      try dsimp only
      try simp only [nf]
      refine WP.seq ?_; refine WP.region [0] rfl ?_; refine WP.split rfl rfl rfl rfl (Yld.lss rfl rfl rfl) (fun hlt => ?_) (fun hlt => ?_)
      ·have hi : i < pmanyOf b := by omega
       have hll := congrArg List.length heq
       simp only [List.length_map, List.length_range] at hll
       obtain ⟨Av, cv, rfl, hcv, _, _⟩ := id hrd
       have hdl : (b.drop (i * 198)).length = b.length - i * 198 := by simp
       have hpos : 0 < (b.drop (i * 198)).length := by unfold pmanyOf at hi; omega
       have hs3 := SlRd.sub3 hrd (h := min 198 (b.drop (i * 198)).length) (Nat.min_le_right _ _)
       rw [Nat.mul_one, bytesV_take] at hs3
       have htk : (b.drop (i * 198)).take (min 198 (b.drop (i * 198)).length) = (b.drop (i * 198)).take 198 := by rcases Nat.le_total 198 (b.drop (i * 198)).length with h | h; rw [Nat.min_eq_left h]; rw [Nat.min_eq_right h, List.take_of_length_le (Nat.le_refl _), List.take_of_length_le h]
       rw [htk] at hs3
       have htl : ((b.drop (i * 198)).take 198).length = min 198 (b.drop (i * 198)).length := List.length_take
       refine WP.nil (WP.next (WP.seq ?_))
       refine WP.condT rfl ?_; refine WP.skip (WP.next (WP.seq (WP.block (WP.seq ?_))))
       refine WP.region [0, 1] rfl ?_; iterate 2 refine WP.mv rfl rfl ?_
       refine WP.nil ?_; refine WP.sub [(0, _), (1, _), (2, _), (3, _), (10, _), (11, _), (12, _), (43, _), (44, _), (45, _)] ?_ ⟨rfl, rfl, rfl, rfl, rfl, rfl, rfl, rfl, rfl, rfl, trivial⟩
       refine WP.next (WP.seq ?_)
       refine WP.region [0, 1, 2, 3] rfl ?_; refine WP.mv rfl rfl ?_; refine WP.vl rfl (Yld.lenR hrd rfl ty_sl_47 rfl) ?_; refine WP.vl rfl (Yld.min2 rfl rfl rfl ((min 198 (b.drop (i * 198)).length : Nat) : Int) (by split <;> omega)) ?_; refine WP.mv rfl rfl ?_; refine WP.nil ?_; refine WP.sub [(0, _), (1, _), (2, _), (3, _), (10, _), (11, _), (12, _), (13, _), (43, _), (44, _), (45, _)] ?_ ⟨rfl, rfl, rfl, rfl, rfl, rfl, rfl, rfl, rfl, rfl, rfl, trivial⟩
       refine WP.next (WP.seq ?_)
       refine WP.region [0, 1, 2, 3, 4, 5, 6, 7, 8, 9, 10, 11, 12, 13, 14, 15, 16] rfl ?_; iterate 3 refine WP.mv rfl rfl ?_
       refine WP.vl rfl (Yld.add64 rfl rfl rfl (by omega)) ?_; iterate 7 refine WP.mv rfl rfl ?_
       refine WP.vl rfl (Yld.slice3 (h := min 198 (b.drop (i * 198)).length) rfl ty_sl_47 rfl rfl rfl (by omega)) ?_; refine WP.loud rfl rfl ?_; refine Op.cl (slices_Clone (bs := (b.drop (i * 198)).take 198) (by rw [htl]; exact hs3) (by rw [htl]; omega)) rfl Tryz.func46 rfl rfl rfl rfl ?_; rintro v J Lc - ⟨rfl, hcn⟩
       try simp only [nf]
       rw [htl] at hcn
       obtain ⟨Ad, cd, rfl, _⟩ := hcn.slice
       refine WP.vl rfl (Yld.buildS (pl := [(0, 0, 1), (1, 1, 1), (2, 2, 1), (3, 3, 1), (4, 4, 1), (5, 5, 1)]) rfl ty_zr_205 ty_zd_205 zK rfl (vs := [_, _, _, _, _, _]) rfl (segs := [(0, [_]), (1, [_]), (2, [_]), (3, [_]), (4, [_]), (5, [_])]) rfl rfl zS) ?_; refine WP.loud rfl rfl ?_; refine Op.buildSlice rfl ty_sl_198 ty_el2_198 rfl rfl rfl rfl (vs := [_]) rfl (segs := [(0, pf (pcut no place era b (pmanyOf b) i, .slice Ad (min 198 (b.drop (i * 198)).length) cd))]) (cs := pf (pcut no place era b (pmanyOf b) i, .slice Ad (min 198 (b.drop (i * 198)).length) cd)) rfl rfl (.seg (Nat.le_refl _) rfl .nil) (fun bq => ?_)
       refine WP.loud rfl rfl ?_; refine Op.append (m := 1) rfl ty_sl_198 ty_el_198 rfl rfl rfl rfl rfl how (SlRd.lit (m := 1) zM rfl (Nat.le_refl _)) zT rfl (by omega) (by omega) (fun vn Ln hn => ?_)
       try simp only [nf]
       refine WP.mv rfl rfl ?_; refine WP.nil ?_; refine WP.sub [(0, _), (1, _), (2, _), (3, _), (10, _), (11, _), (12, _), (13, _), (43, _), (44, _), (45, _)] ?_ ⟨rfl, rfl, rfl, rfl, rfl, rfl, rfl, rfl, rfl, rfl, rfl, trivial⟩
       refine WP.next ?_; refine WP.region [0, 1, 2, 3] rfl ?_; iterate 2 refine WP.mv rfl rfl ?_
       refine WP.vl rfl (Yld.sliceR (l := min 198 (b.drop (i * 198)).length) (h := (b.drop (i * 198)).length) hrd rfl ty_sl_47 rfl (Env.limS rfl) Env.lim0 (Nat.min_le_right _ _) (Nat.le_refl _)) ?_; refine WP.mv rfl rfl ?_; refine WP.nil ?_; refine WP.sub [(0, _), (1, _), (2, _), (3, _), (10, _), (11, _), (12, _), (13, _), (43, _), (44, _), (45, _)] ?_ ⟨rfl, rfl, rfl, rfl, rfl, rfl, rfl, rfl, rfl, rfl, rfl, trivial⟩
       have hown2 : Own 205 6 vn (pcells (l ++ [(pcut no place era b (pmanyOf b) i, .slice Ad (min 198 (b.drop (i * 198)).length) cd)])) (l ++ [(pcut no place era b (pmanyOf b) i, Value.slice Ad (min 198 (b.drop (i * 198)).length) cd)]).length Ln := by rw [pcells_app, List.length_append]; exact hn
       have hod2 := hod.snoc (e := (pcut no place era b (pmanyOf b) i, .slice Ad (min 198 (b.drop (i * 198)).length) cd)) (Le := Lc) (by show Own _ _ _ (bytesV ((b.drop (i * 198)).take 198)) ((b.drop (i * 198)).take 198).length _; rw [htl]; exact hcn)
       have heq2 : (l ++ [(pcut no place era b (pmanyOf b) i, Value.slice Ad (min 198 (b.drop (i * 198)).length) cd)]).map (·.1) = (List.range (i + 1)).map (pcut no place era b (pmanyOf b)) := by rw [List.map_append, heq, List.range_succ, List.map_append]; rfl
       have hrd2 : SlRd (Im J1) (subSl 1 (min 198 (b.drop (i * 198)).length) (b.drop (i * 198)).length (.slice Av (b.drop (i * 198)).length cv)) (b.drop ((i + 1) * 198)).length 1 (bytesV (b.drop ((i + 1) * 198))) := by
        have q := hrd.dropB (l := min 198 (b.drop (i * 198)).length) (Nat.min_le_right _ _)
        have e : (b.drop (i * 198)).drop (min 198 (b.drop (i * 198)).length) = b.drop ((i + 1) * 198) := by
         rcases Nat.le_total 198 (b.drop (i * 198)).length with h | h
         ·rw [Nat.min_eq_left h, List.drop_drop]; congr 1; omega
         ·rw [Nat.min_eq_right h, List.drop_of_length_le (Nat.le_refl _), List.drop_of_length_le (by omega)]
        rw [e] at q; exact q
       refine WP.leave (WP.next ?_)
       refine WP.region [0, 1] rfl ?_; refine WP.vl rfl (Yld.add64 rfl rfl rfl (by omega)) ?_; refine WP.mv rfl rfl ?_; refine WP.nil ?_; refine WP.sub [(0, _), (1, _), (2, _), (3, _), (10, _), (11, _), (12, _), (13, _), (43, _), (44, _), (45, _)] ?_ ⟨rfl, rfl, rfl, rfl, rfl, rfl, rfl, rfl, rfl, rfl, rfl, trivial⟩
       exact WP.again ⟨i + 1, subSl 1 (min 198 (b.drop (i * 198)).length) (b.drop (i * 198)).length (.slice Av (b.drop (i * 198)).length cv), vn, l ++ [(pcut no place era b (pmanyOf b) i, .slice Ad (min 198 (b.drop (i * 198)).length) cd)], Ln, Ld ++ Lc⟩ ⟨(show i + 1 ≤ pmanyOf b by omega), hrd2, hown2, hod2, heq2⟩ (show pmanyOf b - (i + 1) < pmanyOf b - i by omega) ⟨rfl, rfl, rfl, rfl, rfl, rfl, rfl, rfl, trivial⟩ rfl (by (try dsimp only); (try simp only [nf]); repeat (first | exact Rm.chunk | exact Rm.here | exact Rm.nil0 | apply Rm.skip | apply Rm.skipS | apply PX.cons | (apply PX.done; (repeat (first | exact Leave.done | apply Leave.drop | apply Leave.dropS)); done) | apply PX.app))
      ·obtain rfl : i = pmanyOf b := by omega
       refine WP.nil (WP.next (WP.seq ?_))
       refine WP.condF rfl ?_; refine WP.exit (WP.thenE (WP.thenE (WP.hit (WP.next (WP.seq ?_)))))
       refine WP.region [0, 1, 2] rfl ?_; iterate 3 refine WP.mv rfl rfl ?_
       refine WP.nil ?_; refine WP.sub [(0, _), (1, _), (2, _), (3, _), (8, _), (9, _), (10, _), (11, _), (43, _), (44, _), (45, _)] ?_ ⟨rfl, rfl, rfl, rfl, rfl, rfl, rfl, rfl, rfl, rfl, rfl, trivial⟩
       refine WP.next (WP.ret ?_)
       refine WP.fn .ret (.inr rfl) (res2 rfl rfl rfl) (Lo ++ Ld) hJ1 ?_; have e2 : pcutL no place era b = _ := if_pos hE
       rw [hE, e2]; exact ⟨_, _, _, _, rfl, heq, how, hod, rfl⟩
     ·have hmay : (decide ((⟨0, no, 0, era, 1, [0]⟩ : Pt).may)) = false := eq_false_of_ne_true hmay
      try rw [hmay]
      refine WP.valG rfl rfl rfl rfl rfl rfl rfl (Yld.not rfl rfl) ?_; refine WP.vl rfl (Yld.pickF rfl rfl rfl) ?_; refine WP.nil ?_; refine WP.sub [(0, _), (1, _), (2, _), (3, _), (8, _), (9, _), (10, _), (16, _), (42, _)] ?_ ⟨rfl, rfl, rfl, rfl, rfl, rfl, rfl, rfl, rfl, trivial⟩
      refine WP.next ?_; refine WP.condT rfl ?_; refine WP.seq ?_; refine WP.region [0, 1] rfl ?_; iterate 2 refine WP.mv rfl rfl ?_
      refine WP.nil (WP.next (WP.ret ?_))
      refine WP.fn .ret (.inr rfl) (res2 rfl rfl rfl) [] hJ1 ?_; have e : pcutE no place era b = 1 := by unfold pcutE; rw [if_neg (by omega), if_pos (.inr (.inr (.inr (of_decide_eq_false hmay))))]
      have e2 : pcutL no place era b = [] := if_neg (by rw [e]; decide)
      rw [e, e2]; exact ⟨_, [], [], [], rfl, rfl, .none0, .nil, rfl⟩


end Go.Hp
