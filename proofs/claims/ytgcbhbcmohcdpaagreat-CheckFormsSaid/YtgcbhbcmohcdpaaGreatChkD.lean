import Derived.Test.YtgcbhbcmohcdpaaGreatChkC
set_option linter.unusedVariables false
set_option linter.unusedSimpArgs false
namespace Go.Hp
open Go Go.Proofs

theorem rchk_May {I : Imm} {c : Ck} {vp : Value} (hv : SlRd (Im I) vp c.ps.length 4 (c.ps.flatMap mpV)) : Spec Tryz.prog 19 [.agg (kV c vp).toArray] I [] (fun v J L => ∃ b : Bool, v = .bool b ∧ (b = true ↔ c.may) ∧ I = J ∧ L = []) := by
 obtain ⟨Ap, cp, rfl, _, _, _⟩ := id hv
 refine Spec.of Tryz.func19 rfl Tryz.ntmps19 (Nat.le_of_ble_eq_true rfl) (fun F => ?_)
 try simp only [nf]
 dsimp only [argsEnv]
 refine WP.seq ?_; refine WP.region [0, 1] rfl ?_; refine WP.loud rfl rfl ?_; refine Op.box rfl rfl rfl rfl rfl (fun b1 => ?_)
 refine WP.mv rfl rfl ?_; refine WP.nil (WP.next (WP.seq ?_))
 refine WP.region [0, 1, 2, 3] rfl ?_; refine WP.vl rfl (Yld.fieldAddr rfl ty_fd_24_0 rfl) ?_; refine WP.vl rfl (Yld.ld rfl ty_sc_3 rfl rfl) ?_; refine WP.loud rfl rfl ?_; refine Op.cl rchk_in rfl Tryz.func34 rfl rfl rfl rfl ?_; rintro v J L1 - ⟨rfl, rfl, rfl⟩
 try simp only [nf]
 by_cases h1 : (decide (1 ≤ c.fr ∧ c.fr ≤ 1099511627776)) = true
 ·try rw [h1]
  refine WP.mv rfl rfl ?_; refine WP.nil ?_; refine WP.sub [(0, _), (1, _), (2, _), (3, _)] ?_ ⟨rfl, rfl, rfl, rfl, trivial⟩
  refine WP.next (WP.seq ?_)
  refine WP.region [0, 1, 2, 3] rfl ?_; refine WP.vl rfl (Yld.fieldAddr rfl ty_fd_24_1 rfl) ?_; refine WP.vl rfl (Yld.ld rfl ty_sc_3 rfl rfl) ?_; refine WP.loud rfl rfl ?_; refine Op.cl rchk_in rfl Tryz.func34 rfl rfl rfl rfl ?_; rintro v J L1 - ⟨rfl, rfl, rfl⟩
  try simp only [nf]
  by_cases h2 : (decide (0 ≤ c.pl ∧ c.pl ≤ 1099511627776)) = true
  ·try rw [h2]
   refine WP.mv rfl rfl ?_; refine WP.nil ?_; refine WP.sub [(0, _), (1, _), (2, _), (3, _), (4, _)] ?_ ⟨rfl, rfl, rfl, rfl, rfl, trivial⟩
   refine WP.next (WP.seq ?_)
   refine WP.region [0, 1, 2, 3] rfl ?_; refine WP.vl rfl (Yld.fieldAddr rfl ty_fd_24_2 rfl) ?_; refine WP.vl rfl (Yld.ld rfl ty_sc_3 rfl rfl) ?_; refine WP.loud rfl rfl ?_; refine Op.cl rchk_in rfl Tryz.func34 rfl rfl rfl rfl ?_; rintro v J L1 - ⟨rfl, rfl, rfl⟩
   try simp only [nf]
   by_cases h3 : (decide (0 ≤ c.root ∧ c.root ≤ 512)) = true
   ·try rw [h3]
    refine WP.mv rfl rfl ?_; refine WP.nil ?_; refine WP.sub [(0, _), (1, _), (2, _), (3, _), (4, _), (5, _)] ?_ ⟨rfl, rfl, rfl, rfl, rfl, rfl, trivial⟩
    refine WP.next (WP.seq ?_)
    refine WP.region [0, 1, 2, 3] rfl ?_; refine WP.vl rfl (Yld.fieldAddr rfl ty_fd_24_3 rfl) ?_; refine WP.vl rfl (Yld.ld rfl ty_sc_3 rfl rfl) ?_; refine WP.loud rfl rfl ?_; refine Op.cl rchk_in rfl Tryz.func34 rfl rfl rfl rfl ?_; rintro v J L1 - ⟨rfl, rfl, rfl⟩
    try simp only [nf]
    by_cases h4 : (decide (1 ≤ c.nx ∧ c.nx ≤ 513)) = true
    ·try rw [h4]
     refine WP.mv rfl rfl ?_; refine WP.nil ?_; refine WP.sub [(0, _), (1, _), (2, _), (3, _), (4, _), (5, _), (6, _)] ?_ ⟨rfl, rfl, rfl, rfl, rfl, rfl, rfl, trivial⟩
     refine WP.next (WP.seq (WP.seq ?_))
     refine WP.region [0, 1, 2, 3, 4, 5, 6, 7, 8, 9, 10, 11, 12, 13] rfl ?_; refine WP.mv rfl rfl ?_; refine WP.vl rfl (Yld.not rfl rfl) ?_; refine WP.mv rfl rfl ?_; refine WP.valG rfl rfl rfl rfl rfl rfl rfl (Yld.move rfl rfl) ?_; refine WP.valG rfl rfl rfl rfl rfl rfl rfl (Yld.not rfl rfl) ?_; refine WP.vl rfl (Yld.pickF rfl rfl rfl) ?_; refine WP.mv rfl rfl ?_; refine WP.valG rfl rfl rfl rfl rfl rfl rfl (Yld.move rfl rfl) ?_; refine WP.valG rfl rfl rfl rfl rfl rfl rfl (Yld.not rfl rfl) ?_; refine WP.vl rfl (Yld.pickF rfl rfl rfl) ?_; refine WP.mv rfl rfl ?_; refine WP.valG rfl rfl rfl rfl rfl rfl rfl (Yld.move rfl rfl) ?_; refine WP.valG rfl rfl rfl rfl rfl rfl rfl (Yld.not rfl rfl) ?_; refine WP.vl rfl (Yld.pickF rfl rfl rfl) ?_; refine WP.nil ?_; refine WP.sub [(0, _), (1, _), (2, _), (3, _), (4, _), (5, _), (6, _), (38, _)] ?_ ⟨rfl, rfl, rfl, rfl, rfl, rfl, rfl, rfl, trivial⟩
     refine WP.next ?_; refine WP.condF rfl ?_; refine WP.skip (WP.next (WP.seq ?_))
     have hd : c.hd := ⟨of_decide_eq_true h1, of_decide_eq_true h2, of_decide_eq_true h3, of_decide_eq_true h4⟩
     refine WP.region [0] rfl ?_; refine WP.mv rfl rfl ?_; refine WP.nil (WP.next (WP.seq (WP.seq ?_)))
     refine WP.region [0] rfl ?_; refine WP.mv rfl rfl ?_; refine WP.nil (WP.next (WP.block ?_))
     refine WP.loop (X := Nat) (fun i : Nat => [(1, .pointer (some ⟨b1, 0, none⟩)), (7, .int .i64 (lastP c.ps i)), (8, .int .i64 (i : Int))]) (fun _ => I) (fun _ : Nat => (b1, row 24 (kV c (.slice Ap c.ps.length cp))) :: F) (fun i : Nat => i ≤ c.ps.length ∧ ∀ k (h : k < c.ps.length), k < i → (c.ps[k]).ok c.nx (lastP c.ps k)) (fun i => c.ps.length - i) 0 ⟨Nat.zero_le _, fun k h hk => absurd hk (Nat.not_lt_zero _)⟩ ⟨rfl, congrArg (fun z => some (Value.int .i64 z)) (lastP_0 _).symm, rfl, trivial⟩ rfl zP ?_; rintro i ⟨hle, hall⟩; have hlb := lastP_b hd.2.2.2.2 hle hall
     try dsimp only
     try simp only [nf]
     refine WP.seq (WP.seq ?_)
     refine WP.region [0, 1, 2, 3, 4] rfl ?_; refine WP.mv rfl rfl ?_; refine WP.vl rfl (Yld.fieldAddr rfl ty_fd_24_4 rfl) ?_; refine WP.vl rfl (Yld.ld (v := .slice Ap c.ps.length cp) rfl ty_sc_22 rfl rfl) ?_; refine WP.vl rfl (Yld.len rfl ty_sl_22 rfl) ?_; refine WP.split rfl rfl rfl rfl (Yld.lss rfl rfl rfl) (fun hlt => ?_) (fun hlt => ?_)
     ·have hi : i < c.ps.length := by omega
      obtain ⟨bp, kp, Tp, fp, arp, ep, hbp, hcp⟩ := mps_at hv hi
      refine WP.nil ?_; refine WP.sub [(1, _), (7, _), (8, _), (43, _)] ?_ ⟨rfl, rfl, rfl, rfl, trivial⟩
      refine WP.next ?_; refine WP.condT rfl ?_; refine WP.skip (WP.next (WP.seq (WP.block (WP.seq ?_))))
      refine WP.region [0, 1, 2, 3, 4, 5, 6] rfl ?_; refine WP.vl rfl (Yld.fieldAddr rfl ty_fd_24_4 rfl) ?_; refine WP.vl rfl (Yld.ld (v := .slice Ap c.ps.length cp) rfl ty_sc_22 rfl rfl) ?_; refine WP.mv rfl rfl ?_; refine WP.vl rfl (Yld.indexAddr (i := i) rfl ty_sl_22 (congrArg (fun a => some (Value.slice a c.ps.length cp)) ep) rfl hi) ?_; refine WP.vl rfl (Yld.loadAggC (vs := mpV (c.ps[i])) rfl ty_ag_65 rfl (There.i hbp) hcp rfl) ?_; refine WP.loud rfl rfl ?_; refine Op.alloc rfl rfl rfl ty_zr_65 (fun b9 => ?_)
      refine WP.loud rfl rfl ?_; refine Op.sA rfl rfl ty_sz_65 rfl rfl rfl rfl rfl ?_; refine WP.nil ?_; refine WP.sub [(1, _), (7, _), (8, _), (9, _), (43, _)] ?_ ⟨rfl, rfl, rfl, rfl, rfl, trivial⟩
      refine WP.next (WP.seq ?_)
      refine WP.region [0, 1, 2, 3] rfl ?_; refine WP.vl rfl (Yld.fieldAddr rfl ty_fd_65_1 rfl) ?_; refine WP.vl rfl (Yld.ld rfl ty_sc_3 rfl rfl) ?_; refine WP.loud rfl rfl ?_; refine Op.cl rchk_in rfl Tryz.func34 rfl rfl rfl rfl ?_; rintro v J L1 - ⟨rfl, rfl, rfl⟩
      try simp only [nf]
      by_cases q10 : (decide (1 ≤ c.ps[i].place ∧ c.ps[i].place ≤ 1099511627776)) = true
      ·try rw [q10]
       refine WP.mv rfl rfl ?_; refine WP.nil ?_; refine WP.sub [(1, _), (7, _), (8, _), (9, _), (10, _), (43, _)] ?_ ⟨rfl, rfl, rfl, rfl, rfl, rfl, trivial⟩
       refine WP.next (WP.seq ?_)
       refine WP.region [0, 1, 2, 3] rfl ?_; refine WP.vl rfl (Yld.fieldAddr rfl ty_fd_65_2 rfl) ?_; refine WP.vl rfl (Yld.ld rfl ty_sc_3 rfl rfl) ?_; refine WP.loud rfl rfl ?_; refine Op.cl rchk_in rfl Tryz.func34 rfl rfl rfl rfl ?_; rintro v J L1 - ⟨rfl, rfl, rfl⟩
       try simp only [nf]
       by_cases q11 : (decide (1 ≤ c.ps[i].no ∧ c.ps[i].no ≤ 1099511627776)) = true
       ·try rw [q11]
        refine WP.mv rfl rfl ?_; refine WP.nil ?_; refine WP.sub [(1, _), (7, _), (8, _), (9, _), (10, _), (11, _), (43, _)] ?_ ⟨rfl, rfl, rfl, rfl, rfl, rfl, rfl, trivial⟩
        refine WP.next (WP.seq ?_)
        refine WP.region [0, 1, 2, 3, 4, 5] rfl ?_; refine WP.vl rfl (Yld.fieldAddr rfl ty_fd_65_3 rfl) ?_; refine WP.vl rfl (Yld.ld rfl ty_sc_3 rfl rfl) ?_; refine WP.vl rfl (Yld.fieldAddr rfl ty_fd_65_1 rfl) ?_; refine WP.vl rfl (Yld.ld rfl ty_sc_3 rfl rfl) ?_; refine WP.loud rfl rfl ?_; refine Op.cl rchk_in rfl Tryz.func34 rfl rfl rfl rfl ?_; rintro v J L1 - ⟨rfl, rfl, rfl⟩
        try simp only [nf]
        by_cases q12 : (decide (1 ≤ c.ps[i].low ∧ c.ps[i].low ≤ c.ps[i].place)) = true
        ·try rw [q12]
         refine WP.mv rfl rfl ?_; refine WP.nil ?_; refine WP.sub [(1, _), (7, _), (8, _), (9, _), (10, _), (11, _), (12, _), (43, _)] ?_ ⟨rfl, rfl, rfl, rfl, rfl, rfl, rfl, rfl, trivial⟩
         refine WP.next (WP.seq (WP.seq ?_))
         refine WP.region [0, 1, 2, 3, 4, 5, 6, 7, 8, 9, 10, 11, 12, 13, 14, 15, 16, 17, 18, 19, 20, 21, 22] rfl ?_; refine WP.vl rfl (Yld.fieldAddr rfl ty_fd_65_0 rfl) ?_; refine WP.vl rfl (Yld.ld rfl ty_sc_3 rfl rfl) ?_; refine WP.mv rfl rfl ?_; refine WP.split rfl rfl rfl rfl (Yld.leq rfl rfl rfl) (fun hp1 => ?_) (fun hp1 => ?_)
         ·refine WP.mv rfl rfl ?_
          iterate 5 refine WP.passG rfl rfl rfl rfl rfl rfl rfl rfl ?_
          refine WP.vl rfl (Yld.pickT rfl rfl rfl) ?_; refine WP.mv rfl rfl ?_; iterate 2 refine WP.passG rfl rfl rfl rfl rfl rfl rfl rfl ?_
          refine WP.vl rfl (Yld.pickT rfl rfl rfl) ?_; refine WP.mv rfl rfl ?_; iterate 2 refine WP.passG rfl rfl rfl rfl rfl rfl rfl rfl ?_
          refine WP.vl rfl (Yld.pickT rfl rfl rfl) ?_; refine WP.mv rfl rfl ?_; iterate 2 refine WP.passG rfl rfl rfl rfl rfl rfl rfl rfl ?_
          refine WP.vl rfl (Yld.pickT rfl rfl rfl) ?_; refine WP.nil ?_; refine WP.sub [(1, _), (7, _), (8, _), (9, _), (10, _), (11, _), (12, _), (43, _), (84, _)] ?_ ⟨rfl, rfl, rfl, rfl, rfl, rfl, rfl, rfl, rfl, trivial⟩
          refine WP.next ?_; refine WP.condT rfl ?_; refine WP.seq ?_; refine WP.region [0] rfl ?_; refine WP.mv rfl rfl ?_; refine WP.nil (WP.next (WP.ret ?_))
          refine WP.fn .ret (.inr rfl) (res1 rfl rfl) [] (Imm.le_refl _) ?_; exact ⟨false, rfl, ⟨fun h => (by cases h), fun h => by have h1 := (h.2 i hi).1; omega⟩, rfl, rfl⟩
         ·refine WP.mv rfl rfl ?_
          refine WP.valG rfl rfl rfl rfl rfl rfl rfl (Yld.fieldAddr rfl ty_fd_65_0 rfl) ?_; refine WP.valG rfl rfl rfl rfl rfl rfl rfl (Yld.ld rfl ty_sc_3 rfl rfl) ?_; refine WP.valG rfl rfl rfl rfl rfl rfl rfl (Yld.fieldAddr rfl ty_fd_24_3 rfl) ?_; refine WP.valG rfl rfl rfl rfl rfl rfl rfl (Yld.ld rfl ty_sc_3 rfl rfl) ?_; refine WP.splitG rfl rfl rfl rfl rfl rfl rfl (Yld.geq rfl rfl rfl) (fun hp2 => ?_) (fun hp2 => ?_)
          ·refine WP.vl rfl (Yld.pickF rfl rfl rfl) ?_
           refine WP.mv rfl rfl ?_; iterate 2 refine WP.passG rfl rfl rfl rfl rfl rfl rfl rfl ?_
           refine WP.vl rfl (Yld.pickT rfl rfl rfl) ?_; refine WP.mv rfl rfl ?_; iterate 2 refine WP.passG rfl rfl rfl rfl rfl rfl rfl rfl ?_
           refine WP.vl rfl (Yld.pickT rfl rfl rfl) ?_; refine WP.mv rfl rfl ?_; iterate 2 refine WP.passG rfl rfl rfl rfl rfl rfl rfl rfl ?_
           refine WP.vl rfl (Yld.pickT rfl rfl rfl) ?_; refine WP.nil ?_; refine WP.sub [(1, _), (7, _), (8, _), (9, _), (10, _), (11, _), (12, _), (43, _), (84, _)] ?_ ⟨rfl, rfl, rfl, rfl, rfl, rfl, rfl, rfl, rfl, trivial⟩
           refine WP.next ?_; refine WP.condT rfl ?_; refine WP.seq ?_; refine WP.region [0] rfl ?_; refine WP.mv rfl rfl ?_; refine WP.nil (WP.next (WP.ret ?_))
           refine WP.fn .ret (.inr rfl) (res1 rfl rfl) [] (Imm.le_refl _) ?_; exact ⟨false, rfl, ⟨fun h => (by cases h), fun h => by have h1 := (h.2 i hi).1; omega⟩, rfl, rfl⟩
          ·refine WP.vl rfl (Yld.pickF rfl rfl rfl) ?_
           refine WP.mv rfl rfl ?_; refine WP.valG rfl rfl rfl rfl rfl rfl rfl (Yld.move rfl rfl) ?_; refine WP.valG rfl rfl rfl rfl rfl rfl rfl (Yld.not rfl rfl) ?_; refine WP.vl rfl (Yld.pickF rfl rfl rfl) ?_; refine WP.mv rfl rfl ?_; refine WP.valG rfl rfl rfl rfl rfl rfl rfl (Yld.move rfl rfl) ?_; refine WP.valG rfl rfl rfl rfl rfl rfl rfl (Yld.not rfl rfl) ?_; refine WP.vl rfl (Yld.pickF rfl rfl rfl) ?_; refine WP.mv rfl rfl ?_; refine WP.valG rfl rfl rfl rfl rfl rfl rfl (Yld.move rfl rfl) ?_; refine WP.valG rfl rfl rfl rfl rfl rfl rfl (Yld.not rfl rfl) ?_; refine WP.vl rfl (Yld.pickF rfl rfl rfl) ?_; refine WP.nil ?_; refine WP.sub [(1, _), (7, _), (8, _), (9, _), (10, _), (11, _), (12, _), (43, _), (84, _)] ?_ ⟨rfl, rfl, rfl, rfl, rfl, rfl, rfl, rfl, rfl, trivial⟩
           refine WP.next ?_; refine WP.condF rfl ?_; refine WP.skip (WP.next ?_)
           refine WP.region [0, 1, 2] rfl ?_; refine WP.vl rfl (Yld.fieldAddr rfl ty_fd_65_0 rfl) ?_; refine WP.vl rfl (Yld.ld rfl ty_sc_3 rfl rfl) ?_; refine WP.mv rfl rfl ?_; refine WP.nil ?_; refine WP.sub [(1, _), (7, _), (8, _), (9, _), (10, _), (11, _), (12, _), (43, _), (84, _)] ?_ ⟨rfl, rfl, rfl, rfl, rfl, rfl, rfl, rfl, rfl, trivial⟩
           refine WP.leave (WP.next ?_)
           refine WP.region [0, 1, 2] rfl ?_; refine WP.mv rfl rfl ?_; refine WP.vl rfl (Yld.add64 rfl rfl rfl (by omega)) ?_; refine WP.mv rfl rfl ?_; refine WP.nil ?_; refine WP.sub [(1, _), (7, _), (8, _), (9, _), (10, _), (11, _), (12, _), (43, _), (84, _)] ?_ ⟨rfl, rfl, rfl, rfl, rfl, rfl, rfl, rfl, rfl, trivial⟩
           exact WP.ag (i + 1) ⟨hi, fun k h hk => by
    rcases Nat.lt_succ_iff_lt_or_eq.1 hk with hk | hk
    ·exact hall k h hk
    ·subst hk; exact ⟨⟨by omega, by omega⟩, of_decide_eq_true q10, of_decide_eq_true q11, of_decide_eq_true q12⟩⟩ (show c.ps.length - (i + 1) < c.ps.length - i by omega) ⟨rfl, congrArg (fun z => some (Value.int .i64 z)) (lastP_succ hi).symm, rfl, trivial⟩ rfl
        ·have q12 : (decide (1 ≤ c.ps[i].low ∧ c.ps[i].low ≤ c.ps[i].place)) = false := eq_false_of_ne_true q12
         try rw [q12]
         refine WP.mv rfl rfl ?_; refine WP.nil ?_; refine WP.sub [(1, _), (7, _), (8, _), (9, _), (10, _), (11, _), (12, _), (43, _)] ?_ ⟨rfl, rfl, rfl, rfl, rfl, rfl, rfl, rfl, trivial⟩
         refine WP.next (WP.seq (WP.seq ?_))
         refine WP.region [0, 1, 2, 3, 4, 5, 6, 7, 8, 9, 10, 11, 12, 13, 14, 15, 16, 17, 18, 19, 20, 21, 22] rfl ?_; refine WP.vl rfl (Yld.fieldAddr rfl ty_fd_65_0 rfl) ?_; refine WP.vl rfl (Yld.ld rfl ty_sc_3 rfl rfl) ?_; refine WP.mv rfl rfl ?_; refine WP.split rfl rfl rfl rfl (Yld.leq rfl rfl rfl) (fun hp1 => ?_) (fun hp1 => ?_)
         ·refine WP.mv rfl rfl ?_
          iterate 5 refine WP.passG rfl rfl rfl rfl rfl rfl rfl rfl ?_
          refine WP.vl rfl (Yld.pickT rfl rfl rfl) ?_; refine WP.mv rfl rfl ?_; iterate 2 refine WP.passG rfl rfl rfl rfl rfl rfl rfl rfl ?_
          refine WP.vl rfl (Yld.pickT rfl rfl rfl) ?_; refine WP.mv rfl rfl ?_; iterate 2 refine WP.passG rfl rfl rfl rfl rfl rfl rfl rfl ?_
          refine WP.vl rfl (Yld.pickT rfl rfl rfl) ?_; refine WP.mv rfl rfl ?_; iterate 2 refine WP.passG rfl rfl rfl rfl rfl rfl rfl rfl ?_
          refine WP.vl rfl (Yld.pickT rfl rfl rfl) ?_; refine WP.nil ?_; refine WP.sub [(1, _), (7, _), (8, _), (9, _), (10, _), (11, _), (12, _), (43, _), (84, _)] ?_ ⟨rfl, rfl, rfl, rfl, rfl, rfl, rfl, rfl, rfl, trivial⟩
          refine WP.next ?_; refine WP.condT rfl ?_; refine WP.seq ?_; refine WP.region [0] rfl ?_; refine WP.mv rfl rfl ?_; refine WP.nil (WP.next (WP.ret ?_))
          refine WP.fn .ret (.inr rfl) (res1 rfl rfl) [] (Imm.le_refl _) ?_; exact ⟨false, rfl, ⟨fun h => (by cases h), fun h => by have h1 := (h.2 i hi).1; omega⟩, rfl, rfl⟩
         ·refine WP.mv rfl rfl ?_
          refine WP.valG rfl rfl rfl rfl rfl rfl rfl (Yld.fieldAddr rfl ty_fd_65_0 rfl) ?_; refine WP.valG rfl rfl rfl rfl rfl rfl rfl (Yld.ld rfl ty_sc_3 rfl rfl) ?_; refine WP.valG rfl rfl rfl rfl rfl rfl rfl (Yld.fieldAddr rfl ty_fd_24_3 rfl) ?_; refine WP.valG rfl rfl rfl rfl rfl rfl rfl (Yld.ld rfl ty_sc_3 rfl rfl) ?_; refine WP.splitG rfl rfl rfl rfl rfl rfl rfl (Yld.geq rfl rfl rfl) (fun hp2 => ?_) (fun hp2 => ?_)
          ·refine WP.vl rfl (Yld.pickF rfl rfl rfl) ?_
           refine WP.mv rfl rfl ?_; iterate 2 refine WP.passG rfl rfl rfl rfl rfl rfl rfl rfl ?_
           refine WP.vl rfl (Yld.pickT rfl rfl rfl) ?_; refine WP.mv rfl rfl ?_; iterate 2 refine WP.passG rfl rfl rfl rfl rfl rfl rfl rfl ?_
           refine WP.vl rfl (Yld.pickT rfl rfl rfl) ?_; refine WP.mv rfl rfl ?_; iterate 2 refine WP.passG rfl rfl rfl rfl rfl rfl rfl rfl ?_
           refine WP.vl rfl (Yld.pickT rfl rfl rfl) ?_; refine WP.nil ?_; refine WP.sub [(1, _), (7, _), (8, _), (9, _), (10, _), (11, _), (12, _), (43, _), (84, _)] ?_ ⟨rfl, rfl, rfl, rfl, rfl, rfl, rfl, rfl, rfl, trivial⟩
           refine WP.next ?_; refine WP.condT rfl ?_; refine WP.seq ?_; refine WP.region [0] rfl ?_; refine WP.mv rfl rfl ?_; refine WP.nil (WP.next (WP.ret ?_))
           refine WP.fn .ret (.inr rfl) (res1 rfl rfl) [] (Imm.le_refl _) ?_; exact ⟨false, rfl, ⟨fun h => (by cases h), fun h => by have h1 := (h.2 i hi).1; omega⟩, rfl, rfl⟩
          ·refine WP.vl rfl (Yld.pickF rfl rfl rfl) ?_
           refine WP.mv rfl rfl ?_; refine WP.valG rfl rfl rfl rfl rfl rfl rfl (Yld.move rfl rfl) ?_; refine WP.valG rfl rfl rfl rfl rfl rfl rfl (Yld.not rfl rfl) ?_; refine WP.vl rfl (Yld.pickF rfl rfl rfl) ?_; refine WP.mv rfl rfl ?_; refine WP.valG rfl rfl rfl rfl rfl rfl rfl (Yld.move rfl rfl) ?_; refine WP.valG rfl rfl rfl rfl rfl rfl rfl (Yld.not rfl rfl) ?_; refine WP.vl rfl (Yld.pickF rfl rfl rfl) ?_; refine WP.mv rfl rfl ?_; refine WP.valG rfl rfl rfl rfl rfl rfl rfl (Yld.move rfl rfl) ?_; refine WP.valG rfl rfl rfl rfl rfl rfl rfl (Yld.not rfl rfl) ?_; refine WP.vl rfl (Yld.pickF rfl rfl rfl) ?_; refine WP.nil ?_; refine WP.sub [(1, _), (7, _), (8, _), (9, _), (10, _), (11, _), (12, _), (43, _), (84, _)] ?_ ⟨rfl, rfl, rfl, rfl, rfl, rfl, rfl, rfl, rfl, trivial⟩
           refine WP.next ?_; refine WP.condT rfl ?_; refine WP.seq ?_; refine WP.region [0] rfl ?_; refine WP.mv rfl rfl ?_; refine WP.nil (WP.next (WP.ret ?_))
           refine WP.fn .ret (.inr rfl) (res1 rfl rfl) [] (Imm.le_refl _) ?_; exact ⟨false, rfl, ⟨fun h => (by cases h), fun h => absurd (h.2 i hi).2.2.2 (of_decide_eq_false q12)⟩, rfl, rfl⟩
       ·have q11 : (decide (1 ≤ c.ps[i].no ∧ c.ps[i].no ≤ 1099511627776)) = false := eq_false_of_ne_true q11
        try rw [q11]
        refine WP.mv rfl rfl ?_; refine WP.nil ?_; refine WP.sub [(1, _), (7, _), (8, _), (9, _), (10, _), (11, _), (43, _)] ?_ ⟨rfl, rfl, rfl, rfl, rfl, rfl, rfl, trivial⟩
        refine WP.next (WP.seq ?_)
        refine WP.region [0, 1, 2, 3, 4, 5] rfl ?_; refine WP.vl rfl (Yld.fieldAddr rfl ty_fd_65_3 rfl) ?_; refine WP.vl rfl (Yld.ld rfl ty_sc_3 rfl rfl) ?_; refine WP.vl rfl (Yld.fieldAddr rfl ty_fd_65_1 rfl) ?_; refine WP.vl rfl (Yld.ld rfl ty_sc_3 rfl rfl) ?_; refine WP.loud rfl rfl ?_; refine Op.cl rchk_in rfl Tryz.func34 rfl rfl rfl rfl ?_; rintro v J L1 - ⟨rfl, rfl, rfl⟩
        try simp only [nf]
        by_cases q12 : (decide (1 ≤ c.ps[i].low ∧ c.ps[i].low ≤ c.ps[i].place)) = true
        ·try rw [q12]
         refine WP.mv rfl rfl ?_; refine WP.nil ?_; refine WP.sub [(1, _), (7, _), (8, _), (9, _), (10, _), (11, _), (12, _), (43, _)] ?_ ⟨rfl, rfl, rfl, rfl, rfl, rfl, rfl, rfl, trivial⟩
         refine WP.next (WP.seq (WP.seq ?_))
         refine WP.region [0, 1, 2, 3, 4, 5, 6, 7, 8, 9, 10, 11, 12, 13, 14, 15, 16, 17, 18, 19, 20, 21, 22] rfl ?_; refine WP.vl rfl (Yld.fieldAddr rfl ty_fd_65_0 rfl) ?_; refine WP.vl rfl (Yld.ld rfl ty_sc_3 rfl rfl) ?_; refine WP.mv rfl rfl ?_; refine WP.split rfl rfl rfl rfl (Yld.leq rfl rfl rfl) (fun hp1 => ?_) (fun hp1 => ?_)
         ·refine WP.mv rfl rfl ?_
          iterate 5 refine WP.passG rfl rfl rfl rfl rfl rfl rfl rfl ?_
          refine WP.vl rfl (Yld.pickT rfl rfl rfl) ?_; refine WP.mv rfl rfl ?_; iterate 2 refine WP.passG rfl rfl rfl rfl rfl rfl rfl rfl ?_
          refine WP.vl rfl (Yld.pickT rfl rfl rfl) ?_; refine WP.mv rfl rfl ?_; iterate 2 refine WP.passG rfl rfl rfl rfl rfl rfl rfl rfl ?_
          refine WP.vl rfl (Yld.pickT rfl rfl rfl) ?_; refine WP.mv rfl rfl ?_; iterate 2 refine WP.passG rfl rfl rfl rfl rfl rfl rfl rfl ?_
          refine WP.vl rfl (Yld.pickT rfl rfl rfl) ?_; refine WP.nil ?_; refine WP.sub [(1, _), (7, _), (8, _), (9, _), (10, _), (11, _), (12, _), (43, _), (84, _)] ?_ ⟨rfl, rfl, rfl, rfl, rfl, rfl, rfl, rfl, rfl, trivial⟩
          refine WP.next ?_; refine WP.condT rfl ?_; refine WP.seq ?_; refine WP.region [0] rfl ?_; refine WP.mv rfl rfl ?_; refine WP.nil (WP.next (WP.ret ?_))
          refine WP.fn .ret (.inr rfl) (res1 rfl rfl) [] (Imm.le_refl _) ?_; exact ⟨false, rfl, ⟨fun h => (by cases h), fun h => by have h1 := (h.2 i hi).1; omega⟩, rfl, rfl⟩
         ·refine WP.mv rfl rfl ?_
          refine WP.valG rfl rfl rfl rfl rfl rfl rfl (Yld.fieldAddr rfl ty_fd_65_0 rfl) ?_; refine WP.valG rfl rfl rfl rfl rfl rfl rfl (Yld.ld rfl ty_sc_3 rfl rfl) ?_; refine WP.valG rfl rfl rfl rfl rfl rfl rfl (Yld.fieldAddr rfl ty_fd_24_3 rfl) ?_; refine WP.valG rfl rfl rfl rfl rfl rfl rfl (Yld.ld rfl ty_sc_3 rfl rfl) ?_; refine WP.splitG rfl rfl rfl rfl rfl rfl rfl (Yld.geq rfl rfl rfl) (fun hp2 => ?_) (fun hp2 => ?_)
          ·refine WP.vl rfl (Yld.pickF rfl rfl rfl) ?_
           refine WP.mv rfl rfl ?_; iterate 2 refine WP.passG rfl rfl rfl rfl rfl rfl rfl rfl ?_
           refine WP.vl rfl (Yld.pickT rfl rfl rfl) ?_; refine WP.mv rfl rfl ?_; iterate 2 refine WP.passG rfl rfl rfl rfl rfl rfl rfl rfl ?_
           refine WP.vl rfl (Yld.pickT rfl rfl rfl) ?_; refine WP.mv rfl rfl ?_; iterate 2 refine WP.passG rfl rfl rfl rfl rfl rfl rfl rfl ?_
           refine WP.vl rfl (Yld.pickT rfl rfl rfl) ?_; refine WP.nil ?_; refine WP.sub [(1, _), (7, _), (8, _), (9, _), (10, _), (11, _), (12, _), (43, _), (84, _)] ?_ ⟨rfl, rfl, rfl, rfl, rfl, rfl, rfl, rfl, rfl, trivial⟩
           refine WP.next ?_; refine WP.condT rfl ?_; refine WP.seq ?_; refine WP.region [0] rfl ?_; refine WP.mv rfl rfl ?_; refine WP.nil (WP.next (WP.ret ?_))
           refine WP.fn .ret (.inr rfl) (res1 rfl rfl) [] (Imm.le_refl _) ?_; exact ⟨false, rfl, ⟨fun h => (by cases h), fun h => by have h1 := (h.2 i hi).1; omega⟩, rfl, rfl⟩
          ·refine WP.vl rfl (Yld.pickF rfl rfl rfl) ?_
           refine WP.mv rfl rfl ?_; refine WP.valG rfl rfl rfl rfl rfl rfl rfl (Yld.move rfl rfl) ?_; refine WP.valG rfl rfl rfl rfl rfl rfl rfl (Yld.not rfl rfl) ?_; refine WP.vl rfl (Yld.pickF rfl rfl rfl) ?_; refine WP.mv rfl rfl ?_; refine WP.valG rfl rfl rfl rfl rfl rfl rfl (Yld.move rfl rfl) ?_; refine WP.valG rfl rfl rfl rfl rfl rfl rfl (Yld.not rfl rfl) ?_; refine WP.vl rfl (Yld.pickF rfl rfl rfl) ?_; refine WP.mv rfl rfl ?_; iterate 2 refine WP.passG rfl rfl rfl rfl rfl rfl rfl rfl ?_
           refine WP.vl rfl (Yld.pickT rfl rfl rfl) ?_; refine WP.nil ?_; refine WP.sub [(1, _), (7, _), (8, _), (9, _), (10, _), (11, _), (12, _), (43, _), (84, _)] ?_ ⟨rfl, rfl, rfl, rfl, rfl, rfl, rfl, rfl, rfl, trivial⟩
           refine WP.next ?_; refine WP.condT rfl ?_; refine WP.seq ?_; refine WP.region [0] rfl ?_; refine WP.mv rfl rfl ?_; refine WP.nil (WP.next (WP.ret ?_))
           refine WP.fn .ret (.inr rfl) (res1 rfl rfl) [] (Imm.le_refl _) ?_; exact ⟨false, rfl, ⟨fun h => (by cases h), fun h => absurd (h.2 i hi).2.2.1 (of_decide_eq_false q11)⟩, rfl, rfl⟩
        ·have q12 : (decide (1 ≤ c.ps[i].low ∧ c.ps[i].low ≤ c.ps[i].place)) = false := eq_false_of_ne_true q12
         try rw [q12]
         refine WP.mv rfl rfl ?_; refine WP.nil ?_; refine WP.sub [(1, _), (7, _), (8, _), (9, _), (10, _), (11, _), (12, _), (43, _)] ?_ ⟨rfl, rfl, rfl, rfl, rfl, rfl, rfl, rfl, trivial⟩
         refine WP.next (WP.seq (WP.seq ?_))
         refine WP.region [0, 1, 2, 3, 4, 5, 6, 7, 8, 9, 10, 11, 12, 13, 14, 15, 16, 17, 18, 19, 20, 21, 22] rfl ?_; refine WP.vl rfl (Yld.fieldAddr rfl ty_fd_65_0 rfl) ?_; refine WP.vl rfl (Yld.ld rfl ty_sc_3 rfl rfl) ?_; refine WP.mv rfl rfl ?_; refine WP.split rfl rfl rfl rfl (Yld.leq rfl rfl rfl) (fun hp1 => ?_) (fun hp1 => ?_)
         ·refine WP.mv rfl rfl ?_
          iterate 5 refine WP.passG rfl rfl rfl rfl rfl rfl rfl rfl ?_
          refine WP.vl rfl (Yld.pickT rfl rfl rfl) ?_; refine WP.mv rfl rfl ?_; iterate 2 refine WP.passG rfl rfl rfl rfl rfl rfl rfl rfl ?_
          refine WP.vl rfl (Yld.pickT rfl rfl rfl) ?_; refine WP.mv rfl rfl ?_; iterate 2 refine WP.passG rfl rfl rfl rfl rfl rfl rfl rfl ?_
          refine WP.vl rfl (Yld.pickT rfl rfl rfl) ?_; refine WP.mv rfl rfl ?_; iterate 2 refine WP.passG rfl rfl rfl rfl rfl rfl rfl rfl ?_
          refine WP.vl rfl (Yld.pickT rfl rfl rfl) ?_; refine WP.nil ?_; refine WP.sub [(1, _), (7, _), (8, _), (9, _), (10, _), (11, _), (12, _), (43, _), (84, _)] ?_ ⟨rfl, rfl, rfl, rfl, rfl, rfl, rfl, rfl, rfl, trivial⟩
          refine WP.next ?_; refine WP.condT rfl ?_; refine WP.seq ?_; refine WP.region [0] rfl ?_; refine WP.mv rfl rfl ?_; refine WP.nil (WP.next (WP.ret ?_))
          refine WP.fn .ret (.inr rfl) (res1 rfl rfl) [] (Imm.le_refl _) ?_; exact ⟨false, rfl, ⟨fun h => (by cases h), fun h => by have h1 := (h.2 i hi).1; omega⟩, rfl, rfl⟩
         ·refine WP.mv rfl rfl ?_
          refine WP.valG rfl rfl rfl rfl rfl rfl rfl (Yld.fieldAddr rfl ty_fd_65_0 rfl) ?_; refine WP.valG rfl rfl rfl rfl rfl rfl rfl (Yld.ld rfl ty_sc_3 rfl rfl) ?_; refine WP.valG rfl rfl rfl rfl rfl rfl rfl (Yld.fieldAddr rfl ty_fd_24_3 rfl) ?_; refine WP.valG rfl rfl rfl rfl rfl rfl rfl (Yld.ld rfl ty_sc_3 rfl rfl) ?_; refine WP.splitG rfl rfl rfl rfl rfl rfl rfl (Yld.geq rfl rfl rfl) (fun hp2 => ?_) (fun hp2 => ?_)
          ·refine WP.vl rfl (Yld.pickF rfl rfl rfl) ?_
           refine WP.mv rfl rfl ?_; iterate 2 refine WP.passG rfl rfl rfl rfl rfl rfl rfl rfl ?_
           refine WP.vl rfl (Yld.pickT rfl rfl rfl) ?_; refine WP.mv rfl rfl ?_; iterate 2 refine WP.passG rfl rfl rfl rfl rfl rfl rfl rfl ?_
           refine WP.vl rfl (Yld.pickT rfl rfl rfl) ?_; refine WP.mv rfl rfl ?_; iterate 2 refine WP.passG rfl rfl rfl rfl rfl rfl rfl rfl ?_
           refine WP.vl rfl (Yld.pickT rfl rfl rfl) ?_; refine WP.nil ?_; refine WP.sub [(1, _), (7, _), (8, _), (9, _), (10, _), (11, _), (12, _), (43, _), (84, _)] ?_ ⟨rfl, rfl, rfl, rfl, rfl, rfl, rfl, rfl, rfl, trivial⟩
           refine WP.next ?_; refine WP.condT rfl ?_; refine WP.seq ?_; refine WP.region [0] rfl ?_; refine WP.mv rfl rfl ?_; refine WP.nil (WP.next (WP.ret ?_))
           refine WP.fn .ret (.inr rfl) (res1 rfl rfl) [] (Imm.le_refl _) ?_; exact ⟨false, rfl, ⟨fun h => (by cases h), fun h => by have h1 := (h.2 i hi).1; omega⟩, rfl, rfl⟩
          ·refine WP.vl rfl (Yld.pickF rfl rfl rfl) ?_
           refine WP.mv rfl rfl ?_; refine WP.valG rfl rfl rfl rfl rfl rfl rfl (Yld.move rfl rfl) ?_; refine WP.valG rfl rfl rfl rfl rfl rfl rfl (Yld.not rfl rfl) ?_; refine WP.vl rfl (Yld.pickF rfl rfl rfl) ?_; refine WP.mv rfl rfl ?_; refine WP.valG rfl rfl rfl rfl rfl rfl rfl (Yld.move rfl rfl) ?_; refine WP.valG rfl rfl rfl rfl rfl rfl rfl (Yld.not rfl rfl) ?_; refine WP.vl rfl (Yld.pickF rfl rfl rfl) ?_; refine WP.mv rfl rfl ?_; iterate 2 refine WP.passG rfl rfl rfl rfl rfl rfl rfl rfl ?_
           refine WP.vl rfl (Yld.pickT rfl rfl rfl) ?_; refine WP.nil ?_; refine WP.sub [(1, _), (7, _), (8, _), (9, _), (10, _), (11, _), (12, _), (43, _), (84, _)] ?_ ⟨rfl, rfl, rfl, rfl, rfl, rfl, rfl, rfl, rfl, trivial⟩
           refine WP.next ?_; refine WP.condT rfl ?_; refine WP.seq ?_; refine WP.region [0] rfl ?_; refine WP.mv rfl rfl ?_; refine WP.nil (WP.next (WP.ret ?_))
           refine WP.fn .ret (.inr rfl) (res1 rfl rfl) [] (Imm.le_refl _) ?_; exact ⟨false, rfl, ⟨fun h => (by cases h), fun h => absurd (h.2 i hi).2.2.1 (of_decide_eq_false q11)⟩, rfl, rfl⟩
      ·have q10 : (decide (1 ≤ c.ps[i].place ∧ c.ps[i].place ≤ 1099511627776)) = false := eq_false_of_ne_true q10
       try rw [q10]
       refine WP.mv rfl rfl ?_; refine WP.nil ?_; refine WP.sub [(1, _), (7, _), (8, _), (9, _), (10, _), (43, _)] ?_ ⟨rfl, rfl, rfl, rfl, rfl, rfl, trivial⟩
       refine WP.next (WP.seq ?_)
       refine WP.region [0, 1, 2, 3] rfl ?_; refine WP.vl rfl (Yld.fieldAddr rfl ty_fd_65_2 rfl) ?_; refine WP.vl rfl (Yld.ld rfl ty_sc_3 rfl rfl) ?_; refine WP.loud rfl rfl ?_; refine Op.cl rchk_in rfl Tryz.func34 rfl rfl rfl rfl ?_; rintro v J L1 - ⟨rfl, rfl, rfl⟩
       try simp only [nf]
       by_cases q11 : (decide (1 ≤ c.ps[i].no ∧ c.ps[i].no ≤ 1099511627776)) = true
       ·try rw [q11]
        refine WP.mv rfl rfl ?_; refine WP.nil ?_; refine WP.sub [(1, _), (7, _), (8, _), (9, _), (10, _), (11, _), (43, _)] ?_ ⟨rfl, rfl, rfl, rfl, rfl, rfl, rfl, trivial⟩
        refine WP.next (WP.seq ?_)
        refine WP.region [0, 1, 2, 3, 4, 5] rfl ?_; refine WP.vl rfl (Yld.fieldAddr rfl ty_fd_65_3 rfl) ?_; refine WP.vl rfl (Yld.ld rfl ty_sc_3 rfl rfl) ?_; refine WP.vl rfl (Yld.fieldAddr rfl ty_fd_65_1 rfl) ?_; refine WP.vl rfl (Yld.ld rfl ty_sc_3 rfl rfl) ?_; refine WP.loud rfl rfl ?_; refine Op.cl rchk_in rfl Tryz.func34 rfl rfl rfl rfl ?_; rintro v J L1 - ⟨rfl, rfl, rfl⟩
        try simp only [nf]
        by_cases q12 : (decide (1 ≤ c.ps[i].low ∧ c.ps[i].low ≤ c.ps[i].place)) = true
        ·try rw [q12]
         refine WP.mv rfl rfl ?_; refine WP.nil ?_; refine WP.sub [(1, _), (7, _), (8, _), (9, _), (10, _), (11, _), (12, _), (43, _)] ?_ ⟨rfl, rfl, rfl, rfl, rfl, rfl, rfl, rfl, trivial⟩
         refine WP.next (WP.seq (WP.seq ?_))
         refine WP.region [0, 1, 2, 3, 4, 5, 6, 7, 8, 9, 10, 11, 12, 13, 14, 15, 16, 17, 18, 19, 20, 21, 22] rfl ?_; refine WP.vl rfl (Yld.fieldAddr rfl ty_fd_65_0 rfl) ?_; refine WP.vl rfl (Yld.ld rfl ty_sc_3 rfl rfl) ?_; refine WP.mv rfl rfl ?_; refine WP.split rfl rfl rfl rfl (Yld.leq rfl rfl rfl) (fun hp1 => ?_) (fun hp1 => ?_)
         ·refine WP.mv rfl rfl ?_
          iterate 5 refine WP.passG rfl rfl rfl rfl rfl rfl rfl rfl ?_
          refine WP.vl rfl (Yld.pickT rfl rfl rfl) ?_; refine WP.mv rfl rfl ?_; iterate 2 refine WP.passG rfl rfl rfl rfl rfl rfl rfl rfl ?_
          refine WP.vl rfl (Yld.pickT rfl rfl rfl) ?_; refine WP.mv rfl rfl ?_; iterate 2 refine WP.passG rfl rfl rfl rfl rfl rfl rfl rfl ?_
          refine WP.vl rfl (Yld.pickT rfl rfl rfl) ?_; refine WP.mv rfl rfl ?_; iterate 2 refine WP.passG rfl rfl rfl rfl rfl rfl rfl rfl ?_
          refine WP.vl rfl (Yld.pickT rfl rfl rfl) ?_; refine WP.nil ?_; refine WP.sub [(1, _), (7, _), (8, _), (9, _), (10, _), (11, _), (12, _), (43, _), (84, _)] ?_ ⟨rfl, rfl, rfl, rfl, rfl, rfl, rfl, rfl, rfl, trivial⟩
          refine WP.next ?_; refine WP.condT rfl ?_; refine WP.seq ?_; refine WP.region [0] rfl ?_; refine WP.mv rfl rfl ?_; refine WP.nil (WP.next (WP.ret ?_))
          refine WP.fn .ret (.inr rfl) (res1 rfl rfl) [] (Imm.le_refl _) ?_; exact ⟨false, rfl, ⟨fun h => (by cases h), fun h => by have h1 := (h.2 i hi).1; omega⟩, rfl, rfl⟩
         ·refine WP.mv rfl rfl ?_
          refine WP.valG rfl rfl rfl rfl rfl rfl rfl (Yld.fieldAddr rfl ty_fd_65_0 rfl) ?_; refine WP.valG rfl rfl rfl rfl rfl rfl rfl (Yld.ld rfl ty_sc_3 rfl rfl) ?_; refine WP.valG rfl rfl rfl rfl rfl rfl rfl (Yld.fieldAddr rfl ty_fd_24_3 rfl) ?_; refine WP.valG rfl rfl rfl rfl rfl rfl rfl (Yld.ld rfl ty_sc_3 rfl rfl) ?_; refine WP.splitG rfl rfl rfl rfl rfl rfl rfl (Yld.geq rfl rfl rfl) (fun hp2 => ?_) (fun hp2 => ?_)
          ·refine WP.vl rfl (Yld.pickF rfl rfl rfl) ?_
           refine WP.mv rfl rfl ?_; iterate 2 refine WP.passG rfl rfl rfl rfl rfl rfl rfl rfl ?_
           refine WP.vl rfl (Yld.pickT rfl rfl rfl) ?_; refine WP.mv rfl rfl ?_; iterate 2 refine WP.passG rfl rfl rfl rfl rfl rfl rfl rfl ?_
           refine WP.vl rfl (Yld.pickT rfl rfl rfl) ?_; refine WP.mv rfl rfl ?_; iterate 2 refine WP.passG rfl rfl rfl rfl rfl rfl rfl rfl ?_
           refine WP.vl rfl (Yld.pickT rfl rfl rfl) ?_; refine WP.nil ?_; refine WP.sub [(1, _), (7, _), (8, _), (9, _), (10, _), (11, _), (12, _), (43, _), (84, _)] ?_ ⟨rfl, rfl, rfl, rfl, rfl, rfl, rfl, rfl, rfl, trivial⟩
           refine WP.next ?_; refine WP.condT rfl ?_; refine WP.seq ?_; refine WP.region [0] rfl ?_; refine WP.mv rfl rfl ?_; refine WP.nil (WP.next (WP.ret ?_))
           refine WP.fn .ret (.inr rfl) (res1 rfl rfl) [] (Imm.le_refl _) ?_; exact ⟨false, rfl, ⟨fun h => (by cases h), fun h => by have h1 := (h.2 i hi).1; omega⟩, rfl, rfl⟩
          ·refine WP.vl rfl (Yld.pickF rfl rfl rfl) ?_
           refine WP.mv rfl rfl ?_; refine WP.valG rfl rfl rfl rfl rfl rfl rfl (Yld.move rfl rfl) ?_; refine WP.valG rfl rfl rfl rfl rfl rfl rfl (Yld.not rfl rfl) ?_; refine WP.vl rfl (Yld.pickF rfl rfl rfl) ?_; refine WP.mv rfl rfl ?_; iterate 2 refine WP.passG rfl rfl rfl rfl rfl rfl rfl rfl ?_
           refine WP.vl rfl (Yld.pickT rfl rfl rfl) ?_; refine WP.mv rfl rfl ?_; iterate 2 refine WP.passG rfl rfl rfl rfl rfl rfl rfl rfl ?_
           refine WP.vl rfl (Yld.pickT rfl rfl rfl) ?_; refine WP.nil ?_; refine WP.sub [(1, _), (7, _), (8, _), (9, _), (10, _), (11, _), (12, _), (43, _), (84, _)] ?_ ⟨rfl, rfl, rfl, rfl, rfl, rfl, rfl, rfl, rfl, trivial⟩
           refine WP.next ?_; refine WP.condT rfl ?_; refine WP.seq ?_; refine WP.region [0] rfl ?_; refine WP.mv rfl rfl ?_; refine WP.nil (WP.next (WP.ret ?_))
           refine WP.fn .ret (.inr rfl) (res1 rfl rfl) [] (Imm.le_refl _) ?_; exact ⟨false, rfl, ⟨fun h => (by cases h), fun h => absurd (h.2 i hi).2.1 (of_decide_eq_false q10)⟩, rfl, rfl⟩
        ·have q12 : (decide (1 ≤ c.ps[i].low ∧ c.ps[i].low ≤ c.ps[i].place)) = false := eq_false_of_ne_true q12
         try rw [q12]
         refine WP.mv rfl rfl ?_; refine WP.nil ?_; refine WP.sub [(1, _), (7, _), (8, _), (9, _), (10, _), (11, _), (12, _), (43, _)] ?_ ⟨rfl, rfl, rfl, rfl, rfl, rfl, rfl, rfl, trivial⟩
         refine WP.next (WP.seq (WP.seq ?_))
         refine WP.region [0, 1, 2, 3, 4, 5, 6, 7, 8, 9, 10, 11, 12, 13, 14, 15, 16, 17, 18, 19, 20, 21, 22] rfl ?_; refine WP.vl rfl (Yld.fieldAddr rfl ty_fd_65_0 rfl) ?_; refine WP.vl rfl (Yld.ld rfl ty_sc_3 rfl rfl) ?_; refine WP.mv rfl rfl ?_; refine WP.split rfl rfl rfl rfl (Yld.leq rfl rfl rfl) (fun hp1 => ?_) (fun hp1 => ?_)
         ·refine WP.mv rfl rfl ?_
          iterate 5 refine WP.passG rfl rfl rfl rfl rfl rfl rfl rfl ?_
          refine WP.vl rfl (Yld.pickT rfl rfl rfl) ?_; refine WP.mv rfl rfl ?_; iterate 2 refine WP.passG rfl rfl rfl rfl rfl rfl rfl rfl ?_
          refine WP.vl rfl (Yld.pickT rfl rfl rfl) ?_; refine WP.mv rfl rfl ?_; iterate 2 refine WP.passG rfl rfl rfl rfl rfl rfl rfl rfl ?_
          refine WP.vl rfl (Yld.pickT rfl rfl rfl) ?_; refine WP.mv rfl rfl ?_; iterate 2 refine WP.passG rfl rfl rfl rfl rfl rfl rfl rfl ?_
          refine WP.vl rfl (Yld.pickT rfl rfl rfl) ?_; refine WP.nil ?_; refine WP.sub [(1, _), (7, _), (8, _), (9, _), (10, _), (11, _), (12, _), (43, _), (84, _)] ?_ ⟨rfl, rfl, rfl, rfl, rfl, rfl, rfl, rfl, rfl, trivial⟩
          refine WP.next ?_; refine WP.condT rfl ?_; refine WP.seq ?_; refine WP.region [0] rfl ?_; refine WP.mv rfl rfl ?_; refine WP.nil (WP.next (WP.ret ?_))
          refine WP.fn .ret (.inr rfl) (res1 rfl rfl) [] (Imm.le_refl _) ?_; exact ⟨false, rfl, ⟨fun h => (by cases h), fun h => by have h1 := (h.2 i hi).1; omega⟩, rfl, rfl⟩
         ·refine WP.mv rfl rfl ?_
          refine WP.valG rfl rfl rfl rfl rfl rfl rfl (Yld.fieldAddr rfl ty_fd_65_0 rfl) ?_; refine WP.valG rfl rfl rfl rfl rfl rfl rfl (Yld.ld rfl ty_sc_3 rfl rfl) ?_; refine WP.valG rfl rfl rfl rfl rfl rfl rfl (Yld.fieldAddr rfl ty_fd_24_3 rfl) ?_; refine WP.valG rfl rfl rfl rfl rfl rfl rfl (Yld.ld rfl ty_sc_3 rfl rfl) ?_; refine WP.splitG rfl rfl rfl rfl rfl rfl rfl (Yld.geq rfl rfl rfl) (fun hp2 => ?_) (fun hp2 => ?_)
          ·refine WP.vl rfl (Yld.pickF rfl rfl rfl) ?_
           refine WP.mv rfl rfl ?_; iterate 2 refine WP.passG rfl rfl rfl rfl rfl rfl rfl rfl ?_
           refine WP.vl rfl (Yld.pickT rfl rfl rfl) ?_; refine WP.mv rfl rfl ?_; iterate 2 refine WP.passG rfl rfl rfl rfl rfl rfl rfl rfl ?_
           refine WP.vl rfl (Yld.pickT rfl rfl rfl) ?_; refine WP.mv rfl rfl ?_; iterate 2 refine WP.passG rfl rfl rfl rfl rfl rfl rfl rfl ?_
           refine WP.vl rfl (Yld.pickT rfl rfl rfl) ?_; refine WP.nil ?_; refine WP.sub [(1, _), (7, _), (8, _), (9, _), (10, _), (11, _), (12, _), (43, _), (84, _)] ?_ ⟨rfl, rfl, rfl, rfl, rfl, rfl, rfl, rfl, rfl, trivial⟩
           refine WP.next ?_; refine WP.condT rfl ?_; refine WP.seq ?_; refine WP.region [0] rfl ?_; refine WP.mv rfl rfl ?_; refine WP.nil (WP.next (WP.ret ?_))
           refine WP.fn .ret (.inr rfl) (res1 rfl rfl) [] (Imm.le_refl _) ?_; exact ⟨false, rfl, ⟨fun h => (by cases h), fun h => by have h1 := (h.2 i hi).1; omega⟩, rfl, rfl⟩
          ·refine WP.vl rfl (Yld.pickF rfl rfl rfl) ?_
           refine WP.mv rfl rfl ?_; refine WP.valG rfl rfl rfl rfl rfl rfl rfl (Yld.move rfl rfl) ?_; refine WP.valG rfl rfl rfl rfl rfl rfl rfl (Yld.not rfl rfl) ?_; refine WP.vl rfl (Yld.pickF rfl rfl rfl) ?_; refine WP.mv rfl rfl ?_; iterate 2 refine WP.passG rfl rfl rfl rfl rfl rfl rfl rfl ?_
           refine WP.vl rfl (Yld.pickT rfl rfl rfl) ?_; refine WP.mv rfl rfl ?_; iterate 2 refine WP.passG rfl rfl rfl rfl rfl rfl rfl rfl ?_
           refine WP.vl rfl (Yld.pickT rfl rfl rfl) ?_; refine WP.nil ?_; refine WP.sub [(1, _), (7, _), (8, _), (9, _), (10, _), (11, _), (12, _), (43, _), (84, _)] ?_ ⟨rfl, rfl, rfl, rfl, rfl, rfl, rfl, rfl, rfl, trivial⟩
           refine WP.next ?_; refine WP.condT rfl ?_; refine WP.seq ?_; refine WP.region [0] rfl ?_; refine WP.mv rfl rfl ?_; refine WP.nil (WP.next (WP.ret ?_))
           refine WP.fn .ret (.inr rfl) (res1 rfl rfl) [] (Imm.le_refl _) ?_; exact ⟨false, rfl, ⟨fun h => (by cases h), fun h => absurd (h.2 i hi).2.1 (of_decide_eq_false q10)⟩, rfl, rfl⟩
       ·have q11 : (decide (1 ≤ c.ps[i].no ∧ c.ps[i].no ≤ 1099511627776)) = false := eq_false_of_ne_true q11
        try rw [q11]
        refine WP.mv rfl rfl ?_; refine WP.nil ?_; refine WP.sub [(1, _), (7, _), (8, _), (9, _), (10, _), (11, _), (43, _)] ?_ ⟨rfl, rfl, rfl, rfl, rfl, rfl, rfl, trivial⟩
        refine WP.next (WP.seq ?_)
        refine WP.region [0, 1, 2, 3, 4, 5] rfl ?_; refine WP.vl rfl (Yld.fieldAddr rfl ty_fd_65_3 rfl) ?_; refine WP.vl rfl (Yld.ld rfl ty_sc_3 rfl rfl) ?_; refine WP.vl rfl (Yld.fieldAddr rfl ty_fd_65_1 rfl) ?_; refine WP.vl rfl (Yld.ld rfl ty_sc_3 rfl rfl) ?_; refine WP.loud rfl rfl ?_; refine Op.cl rchk_in rfl Tryz.func34 rfl rfl rfl rfl ?_; rintro v J L1 - ⟨rfl, rfl, rfl⟩
        try simp only [nf]
        by_cases q12 : (decide (1 ≤ c.ps[i].low ∧ c.ps[i].low ≤ c.ps[i].place)) = true
        ·try rw [q12]
         refine WP.mv rfl rfl ?_; refine WP.nil ?_; refine WP.sub [(1, _), (7, _), (8, _), (9, _), (10, _), (11, _), (12, _), (43, _)] ?_ ⟨rfl, rfl, rfl, rfl, rfl, rfl, rfl, rfl, trivial⟩
         refine WP.next (WP.seq (WP.seq ?_))
         refine WP.region [0, 1, 2, 3, 4, 5, 6, 7, 8, 9, 10, 11, 12, 13, 14, 15, 16, 17, 18, 19, 20, 21, 22] rfl ?_; refine WP.vl rfl (Yld.fieldAddr rfl ty_fd_65_0 rfl) ?_; refine WP.vl rfl (Yld.ld rfl ty_sc_3 rfl rfl) ?_; refine WP.mv rfl rfl ?_; refine WP.split rfl rfl rfl rfl (Yld.leq rfl rfl rfl) (fun hp1 => ?_) (fun hp1 => ?_)
         ·refine WP.mv rfl rfl ?_
          iterate 5 refine WP.passG rfl rfl rfl rfl rfl rfl rfl rfl ?_
          refine WP.vl rfl (Yld.pickT rfl rfl rfl) ?_; refine WP.mv rfl rfl ?_; iterate 2 refine WP.passG rfl rfl rfl rfl rfl rfl rfl rfl ?_
          refine WP.vl rfl (Yld.pickT rfl rfl rfl) ?_; refine WP.mv rfl rfl ?_; iterate 2 refine WP.passG rfl rfl rfl rfl rfl rfl rfl rfl ?_
          refine WP.vl rfl (Yld.pickT rfl rfl rfl) ?_; refine WP.mv rfl rfl ?_; iterate 2 refine WP.passG rfl rfl rfl rfl rfl rfl rfl rfl ?_
          refine WP.vl rfl (Yld.pickT rfl rfl rfl) ?_; refine WP.nil ?_; refine WP.sub [(1, _), (7, _), (8, _), (9, _), (10, _), (11, _), (12, _), (43, _), (84, _)] ?_ ⟨rfl, rfl, rfl, rfl, rfl, rfl, rfl, rfl, rfl, trivial⟩
          refine WP.next ?_; refine WP.condT rfl ?_; refine WP.seq ?_; refine WP.region [0] rfl ?_; refine WP.mv rfl rfl ?_; refine WP.nil (WP.next (WP.ret ?_))
          refine WP.fn .ret (.inr rfl) (res1 rfl rfl) [] (Imm.le_refl _) ?_; exact ⟨false, rfl, ⟨fun h => (by cases h), fun h => by have h1 := (h.2 i hi).1; omega⟩, rfl, rfl⟩
         ·refine WP.mv rfl rfl ?_
          refine WP.valG rfl rfl rfl rfl rfl rfl rfl (Yld.fieldAddr rfl ty_fd_65_0 rfl) ?_; refine WP.valG rfl rfl rfl rfl rfl rfl rfl (Yld.ld rfl ty_sc_3 rfl rfl) ?_; refine WP.valG rfl rfl rfl rfl rfl rfl rfl (Yld.fieldAddr rfl ty_fd_24_3 rfl) ?_; refine WP.valG rfl rfl rfl rfl rfl rfl rfl (Yld.ld rfl ty_sc_3 rfl rfl) ?_; refine WP.splitG rfl rfl rfl rfl rfl rfl rfl (Yld.geq rfl rfl rfl) (fun hp2 => ?_) (fun hp2 => ?_)
          ·refine WP.vl rfl (Yld.pickF rfl rfl rfl) ?_
           refine WP.mv rfl rfl ?_; iterate 2 refine WP.passG rfl rfl rfl rfl rfl rfl rfl rfl ?_
           refine WP.vl rfl (Yld.pickT rfl rfl rfl) ?_; refine WP.mv rfl rfl ?_; iterate 2 refine WP.passG rfl rfl rfl rfl rfl rfl rfl rfl ?_
           refine WP.vl rfl (Yld.pickT rfl rfl rfl) ?_; refine WP.mv rfl rfl ?_; iterate 2 refine WP.passG rfl rfl rfl rfl rfl rfl rfl rfl ?_
           refine WP.vl rfl (Yld.pickT rfl rfl rfl) ?_; refine WP.nil ?_; refine WP.sub [(1, _), (7, _), (8, _), (9, _), (10, _), (11, _), (12, _), (43, _), (84, _)] ?_ ⟨rfl, rfl, rfl, rfl, rfl, rfl, rfl, rfl, rfl, trivial⟩
           refine WP.next ?_; refine WP.condT rfl ?_; refine WP.seq ?_; refine WP.region [0] rfl ?_; refine WP.mv rfl rfl ?_; refine WP.nil (WP.next (WP.ret ?_))
           refine WP.fn .ret (.inr rfl) (res1 rfl rfl) [] (Imm.le_refl _) ?_; exact ⟨false, rfl, ⟨fun h => (by cases h), fun h => by have h1 := (h.2 i hi).1; omega⟩, rfl, rfl⟩
          ·refine WP.vl rfl (Yld.pickF rfl rfl rfl) ?_
           refine WP.mv rfl rfl ?_; refine WP.valG rfl rfl rfl rfl rfl rfl rfl (Yld.move rfl rfl) ?_; refine WP.valG rfl rfl rfl rfl rfl rfl rfl (Yld.not rfl rfl) ?_; refine WP.vl rfl (Yld.pickF rfl rfl rfl) ?_; refine WP.mv rfl rfl ?_; iterate 2 refine WP.passG rfl rfl rfl rfl rfl rfl rfl rfl ?_
           refine WP.vl rfl (Yld.pickT rfl rfl rfl) ?_; refine WP.mv rfl rfl ?_; iterate 2 refine WP.passG rfl rfl rfl rfl rfl rfl rfl rfl ?_
           refine WP.vl rfl (Yld.pickT rfl rfl rfl) ?_; refine WP.nil ?_; refine WP.sub [(1, _), (7, _), (8, _), (9, _), (10, _), (11, _), (12, _), (43, _), (84, _)] ?_ ⟨rfl, rfl, rfl, rfl, rfl, rfl, rfl, rfl, rfl, trivial⟩
           refine WP.next ?_; refine WP.condT rfl ?_; refine WP.seq ?_; refine WP.region [0] rfl ?_; refine WP.mv rfl rfl ?_; refine WP.nil (WP.next (WP.ret ?_))
           refine WP.fn .ret (.inr rfl) (res1 rfl rfl) [] (Imm.le_refl _) ?_; exact ⟨false, rfl, ⟨fun h => (by cases h), fun h => absurd (h.2 i hi).2.1 (of_decide_eq_false q10)⟩, rfl, rfl⟩
        ·have q12 : (decide (1 ≤ c.ps[i].low ∧ c.ps[i].low ≤ c.ps[i].place)) = false := eq_false_of_ne_true q12
         try rw [q12]
         refine WP.mv rfl rfl ?_; refine WP.nil ?_; refine WP.sub [(1, _), (7, _), (8, _), (9, _), (10, _), (11, _), (12, _), (43, _)] ?_ ⟨rfl, rfl, rfl, rfl, rfl, rfl, rfl, rfl, trivial⟩
         refine WP.next (WP.seq (WP.seq ?_))
         refine WP.region [0, 1, 2, 3, 4, 5, 6, 7, 8, 9, 10, 11, 12, 13, 14, 15, 16, 17, 18, 19, 20, 21, 22] rfl ?_; refine WP.vl rfl (Yld.fieldAddr rfl ty_fd_65_0 rfl) ?_; refine WP.vl rfl (Yld.ld rfl ty_sc_3 rfl rfl) ?_; refine WP.mv rfl rfl ?_; refine WP.split rfl rfl rfl rfl (Yld.leq rfl rfl rfl) (fun hp1 => ?_) (fun hp1 => ?_)
         ·refine WP.mv rfl rfl ?_
          iterate 5 refine WP.passG rfl rfl rfl rfl rfl rfl rfl rfl ?_
          refine WP.vl rfl (Yld.pickT rfl rfl rfl) ?_; refine WP.mv rfl rfl ?_; iterate 2 refine WP.passG rfl rfl rfl rfl rfl rfl rfl rfl ?_
          refine WP.vl rfl (Yld.pickT rfl rfl rfl) ?_; refine WP.mv rfl rfl ?_; iterate 2 refine WP.passG rfl rfl rfl rfl rfl rfl rfl rfl ?_
          refine WP.vl rfl (Yld.pickT rfl rfl rfl) ?_; refine WP.mv rfl rfl ?_; iterate 2 refine WP.passG rfl rfl rfl rfl rfl rfl rfl rfl ?_
          refine WP.vl rfl (Yld.pickT rfl rfl rfl) ?_; refine WP.nil ?_; refine WP.sub [(1, _), (7, _), (8, _), (9, _), (10, _), (11, _), (12, _), (43, _), (84, _)] ?_ ⟨rfl, rfl, rfl, rfl, rfl, rfl, rfl, rfl, rfl, trivial⟩
          refine WP.next ?_; refine WP.condT rfl ?_; refine WP.seq ?_; refine WP.region [0] rfl ?_; refine WP.mv rfl rfl ?_; refine WP.nil (WP.next (WP.ret ?_))
          refine WP.fn .ret (.inr rfl) (res1 rfl rfl) [] (Imm.le_refl _) ?_; exact ⟨false, rfl, ⟨fun h => (by cases h), fun h => by have h1 := (h.2 i hi).1; omega⟩, rfl, rfl⟩
         ·refine WP.mv rfl rfl ?_
          refine WP.valG rfl rfl rfl rfl rfl rfl rfl (Yld.fieldAddr rfl ty_fd_65_0 rfl) ?_; refine WP.valG rfl rfl rfl rfl rfl rfl rfl (Yld.ld rfl ty_sc_3 rfl rfl) ?_; refine WP.valG rfl rfl rfl rfl rfl rfl rfl (Yld.fieldAddr rfl ty_fd_24_3 rfl) ?_; refine WP.valG rfl rfl rfl rfl rfl rfl rfl (Yld.ld rfl ty_sc_3 rfl rfl) ?_; refine WP.splitG rfl rfl rfl rfl rfl rfl rfl (Yld.geq rfl rfl rfl) (fun hp2 => ?_) (fun hp2 => ?_)
          ·refine WP.vl rfl (Yld.pickF rfl rfl rfl) ?_
           refine WP.mv rfl rfl ?_; iterate 2 refine WP.passG rfl rfl rfl rfl rfl rfl rfl rfl ?_
           refine WP.vl rfl (Yld.pickT rfl rfl rfl) ?_; refine WP.mv rfl rfl ?_; iterate 2 refine WP.passG rfl rfl rfl rfl rfl rfl rfl rfl ?_
           refine WP.vl rfl (Yld.pickT rfl rfl rfl) ?_; refine WP.mv rfl rfl ?_; iterate 2 refine WP.passG rfl rfl rfl rfl rfl rfl rfl rfl ?_
           refine WP.vl rfl (Yld.pickT rfl rfl rfl) ?_; refine WP.nil ?_; refine WP.sub [(1, _), (7, _), (8, _), (9, _), (10, _), (11, _), (12, _), (43, _), (84, _)] ?_ ⟨rfl, rfl, rfl, rfl, rfl, rfl, rfl, rfl, rfl, trivial⟩
           refine WP.next ?_; refine WP.condT rfl ?_; refine WP.seq ?_; refine WP.region [0] rfl ?_; refine WP.mv rfl rfl ?_; refine WP.nil (WP.next (WP.ret ?_))
           refine WP.fn .ret (.inr rfl) (res1 rfl rfl) [] (Imm.le_refl _) ?_; exact ⟨false, rfl, ⟨fun h => (by cases h), fun h => by have h1 := (h.2 i hi).1; omega⟩, rfl, rfl⟩
          ·refine WP.vl rfl (Yld.pickF rfl rfl rfl) ?_
           refine WP.mv rfl rfl ?_; refine WP.valG rfl rfl rfl rfl rfl rfl rfl (Yld.move rfl rfl) ?_; refine WP.valG rfl rfl rfl rfl rfl rfl rfl (Yld.not rfl rfl) ?_; refine WP.vl rfl (Yld.pickF rfl rfl rfl) ?_; refine WP.mv rfl rfl ?_; iterate 2 refine WP.passG rfl rfl rfl rfl rfl rfl rfl rfl ?_
           refine WP.vl rfl (Yld.pickT rfl rfl rfl) ?_; refine WP.mv rfl rfl ?_; iterate 2 refine WP.passG rfl rfl rfl rfl rfl rfl rfl rfl ?_
           refine WP.vl rfl (Yld.pickT rfl rfl rfl) ?_; refine WP.nil ?_; refine WP.sub [(1, _), (7, _), (8, _), (9, _), (10, _), (11, _), (12, _), (43, _), (84, _)] ?_ ⟨rfl, rfl, rfl, rfl, rfl, rfl, rfl, rfl, rfl, trivial⟩
           refine WP.next ?_; refine WP.condT rfl ?_; refine WP.seq ?_; refine WP.region [0] rfl ?_; refine WP.mv rfl rfl ?_; refine WP.nil (WP.next (WP.ret ?_))
           refine WP.fn .ret (.inr rfl) (res1 rfl rfl) [] (Imm.le_refl _) ?_; exact ⟨false, rfl, ⟨fun h => (by cases h), fun h => absurd (h.2 i hi).2.1 (of_decide_eq_false q10)⟩, rfl, rfl⟩
     ·refine WP.nil ?_
      refine WP.sub [(1, _), (7, _), (8, _), (43, _)] ?_ ⟨rfl, rfl, rfl, rfl, trivial⟩
      refine WP.next ?_; refine WP.condF rfl ?_; refine WP.exit (WP.thenE (WP.thenE (WP.hit (WP.next (WP.seq ?_)))))
      refine WP.region [0] rfl ?_; refine WP.mv rfl rfl ?_; refine WP.nil (WP.next (WP.ret ?_))
      refine WP.fn .ret (.inr rfl) (res1 rfl rfl) [] (Imm.le_refl _) ?_; exact ⟨true, rfl, ⟨fun _ => ⟨hd, fun k hk => hall k hk (by omega)⟩, fun _ => rfl⟩, rfl, rfl⟩
    ·have h4 : (decide (1 ≤ c.nx ∧ c.nx ≤ 513)) = false := eq_false_of_ne_true h4
     try rw [h4]
     refine WP.mv rfl rfl ?_; refine WP.nil ?_; refine WP.sub [(0, _), (1, _), (2, _), (3, _), (4, _), (5, _), (6, _)] ?_ ⟨rfl, rfl, rfl, rfl, rfl, rfl, rfl, trivial⟩
     refine WP.next (WP.seq (WP.seq ?_))
     refine WP.region [0, 1, 2, 3, 4, 5, 6, 7, 8, 9, 10, 11, 12, 13] rfl ?_; refine WP.mv rfl rfl ?_; refine WP.vl rfl (Yld.not rfl rfl) ?_; refine WP.mv rfl rfl ?_; refine WP.valG rfl rfl rfl rfl rfl rfl rfl (Yld.move rfl rfl) ?_; refine WP.valG rfl rfl rfl rfl rfl rfl rfl (Yld.not rfl rfl) ?_; refine WP.vl rfl (Yld.pickF rfl rfl rfl) ?_; refine WP.mv rfl rfl ?_; refine WP.valG rfl rfl rfl rfl rfl rfl rfl (Yld.move rfl rfl) ?_; refine WP.valG rfl rfl rfl rfl rfl rfl rfl (Yld.not rfl rfl) ?_; refine WP.vl rfl (Yld.pickF rfl rfl rfl) ?_; refine WP.mv rfl rfl ?_; refine WP.valG rfl rfl rfl rfl rfl rfl rfl (Yld.move rfl rfl) ?_; refine WP.valG rfl rfl rfl rfl rfl rfl rfl (Yld.not rfl rfl) ?_; refine WP.vl rfl (Yld.pickF rfl rfl rfl) ?_; refine WP.nil ?_; refine WP.sub [(0, _), (1, _), (2, _), (3, _), (4, _), (5, _), (6, _), (38, _)] ?_ ⟨rfl, rfl, rfl, rfl, rfl, rfl, rfl, rfl, trivial⟩
     refine WP.next ?_; refine WP.condT rfl ?_; refine WP.seq ?_; refine WP.region [0] rfl ?_; refine WP.mv rfl rfl ?_; refine WP.nil (WP.next (WP.ret ?_))
     refine WP.fn .ret (.inr rfl) (res1 rfl rfl) [] (Imm.le_refl _) ?_; exact ⟨false, rfl, ⟨fun h => (by cases h), fun h => absurd h.1.2.2.2 (of_decide_eq_false h4)⟩, rfl, rfl⟩
   ·have h3 : (decide (0 ≤ c.root ∧ c.root ≤ 512)) = false := eq_false_of_ne_true h3
    try rw [h3]
    refine WP.mv rfl rfl ?_; refine WP.nil ?_; refine WP.sub [(0, _), (1, _), (2, _), (3, _), (4, _), (5, _)] ?_ ⟨rfl, rfl, rfl, rfl, rfl, rfl, trivial⟩
    refine WP.next (WP.seq ?_)
    refine WP.region [0, 1, 2, 3] rfl ?_; refine WP.vl rfl (Yld.fieldAddr rfl ty_fd_24_3 rfl) ?_; refine WP.vl rfl (Yld.ld rfl ty_sc_3 rfl rfl) ?_; refine WP.loud rfl rfl ?_; refine Op.cl rchk_in rfl Tryz.func34 rfl rfl rfl rfl ?_; rintro v J L1 - ⟨rfl, rfl, rfl⟩
    try simp only [nf]
    by_cases h4 : (decide (1 ≤ c.nx ∧ c.nx ≤ 513)) = true
    ·try rw [h4]
     refine WP.mv rfl rfl ?_; refine WP.nil ?_; refine WP.sub [(0, _), (1, _), (2, _), (3, _), (4, _), (5, _), (6, _)] ?_ ⟨rfl, rfl, rfl, rfl, rfl, rfl, rfl, trivial⟩
     refine WP.next (WP.seq (WP.seq ?_))
     refine WP.region [0, 1, 2, 3, 4, 5, 6, 7, 8, 9, 10, 11, 12, 13] rfl ?_; refine WP.mv rfl rfl ?_; refine WP.vl rfl (Yld.not rfl rfl) ?_; refine WP.mv rfl rfl ?_; refine WP.valG rfl rfl rfl rfl rfl rfl rfl (Yld.move rfl rfl) ?_; refine WP.valG rfl rfl rfl rfl rfl rfl rfl (Yld.not rfl rfl) ?_; refine WP.vl rfl (Yld.pickF rfl rfl rfl) ?_; refine WP.mv rfl rfl ?_; refine WP.valG rfl rfl rfl rfl rfl rfl rfl (Yld.move rfl rfl) ?_; refine WP.valG rfl rfl rfl rfl rfl rfl rfl (Yld.not rfl rfl) ?_; refine WP.vl rfl (Yld.pickF rfl rfl rfl) ?_; refine WP.mv rfl rfl ?_; iterate 2 refine WP.passG rfl rfl rfl rfl rfl rfl rfl rfl ?_
     refine WP.vl rfl (Yld.pickT rfl rfl rfl) ?_; refine WP.nil ?_; refine WP.sub [(0, _), (1, _), (2, _), (3, _), (4, _), (5, _), (6, _), (38, _)] ?_ ⟨rfl, rfl, rfl, rfl, rfl, rfl, rfl, rfl, trivial⟩
     refine WP.next ?_; refine WP.condT rfl ?_; refine WP.seq ?_; refine WP.region [0] rfl ?_; refine WP.mv rfl rfl ?_; refine WP.nil (WP.next (WP.ret ?_))
     refine WP.fn .ret (.inr rfl) (res1 rfl rfl) [] (Imm.le_refl _) ?_; exact ⟨false, rfl, ⟨fun h => (by cases h), fun h => absurd h.1.2.2.1 (of_decide_eq_false h3)⟩, rfl, rfl⟩
    ·have h4 : (decide (1 ≤ c.nx ∧ c.nx ≤ 513)) = false := eq_false_of_ne_true h4
     try rw [h4]
     refine WP.mv rfl rfl ?_; refine WP.nil ?_; refine WP.sub [(0, _), (1, _), (2, _), (3, _), (4, _), (5, _), (6, _)] ?_ ⟨rfl, rfl, rfl, rfl, rfl, rfl, rfl, trivial⟩
     refine WP.next (WP.seq (WP.seq ?_))
     refine WP.region [0, 1, 2, 3, 4, 5, 6, 7, 8, 9, 10, 11, 12, 13] rfl ?_; refine WP.mv rfl rfl ?_; refine WP.vl rfl (Yld.not rfl rfl) ?_; refine WP.mv rfl rfl ?_; refine WP.valG rfl rfl rfl rfl rfl rfl rfl (Yld.move rfl rfl) ?_; refine WP.valG rfl rfl rfl rfl rfl rfl rfl (Yld.not rfl rfl) ?_; refine WP.vl rfl (Yld.pickF rfl rfl rfl) ?_; refine WP.mv rfl rfl ?_; refine WP.valG rfl rfl rfl rfl rfl rfl rfl (Yld.move rfl rfl) ?_; refine WP.valG rfl rfl rfl rfl rfl rfl rfl (Yld.not rfl rfl) ?_; refine WP.vl rfl (Yld.pickF rfl rfl rfl) ?_; refine WP.mv rfl rfl ?_; iterate 2 refine WP.passG rfl rfl rfl rfl rfl rfl rfl rfl ?_
     refine WP.vl rfl (Yld.pickT rfl rfl rfl) ?_; refine WP.nil ?_; refine WP.sub [(0, _), (1, _), (2, _), (3, _), (4, _), (5, _), (6, _), (38, _)] ?_ ⟨rfl, rfl, rfl, rfl, rfl, rfl, rfl, rfl, trivial⟩
     refine WP.next ?_; refine WP.condT rfl ?_; refine WP.seq ?_; refine WP.region [0] rfl ?_; refine WP.mv rfl rfl ?_; refine WP.nil (WP.next (WP.ret ?_))
     refine WP.fn .ret (.inr rfl) (res1 rfl rfl) [] (Imm.le_refl _) ?_; exact ⟨false, rfl, ⟨fun h => (by cases h), fun h => absurd h.1.2.2.1 (of_decide_eq_false h3)⟩, rfl, rfl⟩
  ·have h2 : (decide (0 ≤ c.pl ∧ c.pl ≤ 1099511627776)) = false := eq_false_of_ne_true h2
   try rw [h2]
   refine WP.mv rfl rfl ?_; refine WP.nil ?_; refine WP.sub [(0, _), (1, _), (2, _), (3, _), (4, _)] ?_ ⟨rfl, rfl, rfl, rfl, rfl, trivial⟩
   refine WP.next (WP.seq ?_)
   refine WP.region [0, 1, 2, 3] rfl ?_; refine WP.vl rfl (Yld.fieldAddr rfl ty_fd_24_2 rfl) ?_; refine WP.vl rfl (Yld.ld rfl ty_sc_3 rfl rfl) ?_; refine WP.loud rfl rfl ?_; refine Op.cl rchk_in rfl Tryz.func34 rfl rfl rfl rfl ?_; rintro v J L1 - ⟨rfl, rfl, rfl⟩
   try simp only [nf]
   by_cases h3 : (decide (0 ≤ c.root ∧ c.root ≤ 512)) = true
   ·try rw [h3]
    refine WP.mv rfl rfl ?_; refine WP.nil ?_; refine WP.sub [(0, _), (1, _), (2, _), (3, _), (4, _), (5, _)] ?_ ⟨rfl, rfl, rfl, rfl, rfl, rfl, trivial⟩
    refine WP.next (WP.seq ?_)
    refine WP.region [0, 1, 2, 3] rfl ?_; refine WP.vl rfl (Yld.fieldAddr rfl ty_fd_24_3 rfl) ?_; refine WP.vl rfl (Yld.ld rfl ty_sc_3 rfl rfl) ?_; refine WP.loud rfl rfl ?_; refine Op.cl rchk_in rfl Tryz.func34 rfl rfl rfl rfl ?_; rintro v J L1 - ⟨rfl, rfl, rfl⟩
    try simp only [nf]
    by_cases h4 : (decide (1 ≤ c.nx ∧ c.nx ≤ 513)) = true
    ·try rw [h4]
     refine WP.mv rfl rfl ?_; refine WP.nil ?_; refine WP.sub [(0, _), (1, _), (2, _), (3, _), (4, _), (5, _), (6, _)] ?_ ⟨rfl, rfl, rfl, rfl, rfl, rfl, rfl, trivial⟩
     refine WP.next (WP.seq (WP.seq ?_))
     refine WP.region [0, 1, 2, 3, 4, 5, 6, 7, 8, 9, 10, 11, 12, 13] rfl ?_; refine WP.mv rfl rfl ?_; refine WP.vl rfl (Yld.not rfl rfl) ?_; refine WP.mv rfl rfl ?_; refine WP.valG rfl rfl rfl rfl rfl rfl rfl (Yld.move rfl rfl) ?_; refine WP.valG rfl rfl rfl rfl rfl rfl rfl (Yld.not rfl rfl) ?_; refine WP.vl rfl (Yld.pickF rfl rfl rfl) ?_; refine WP.mv rfl rfl ?_; iterate 2 refine WP.passG rfl rfl rfl rfl rfl rfl rfl rfl ?_
     refine WP.vl rfl (Yld.pickT rfl rfl rfl) ?_; refine WP.mv rfl rfl ?_; iterate 2 refine WP.passG rfl rfl rfl rfl rfl rfl rfl rfl ?_
     refine WP.vl rfl (Yld.pickT rfl rfl rfl) ?_; refine WP.nil ?_; refine WP.sub [(0, _), (1, _), (2, _), (3, _), (4, _), (5, _), (6, _), (38, _)] ?_ ⟨rfl, rfl, rfl, rfl, rfl, rfl, rfl, rfl, trivial⟩
     refine WP.next ?_; refine WP.condT rfl ?_; refine WP.seq ?_; refine WP.region [0] rfl ?_; refine WP.mv rfl rfl ?_; refine WP.nil (WP.next (WP.ret ?_))
     refine WP.fn .ret (.inr rfl) (res1 rfl rfl) [] (Imm.le_refl _) ?_; exact ⟨false, rfl, ⟨fun h => (by cases h), fun h => absurd h.1.2.1 (of_decide_eq_false h2)⟩, rfl, rfl⟩
    ·have h4 : (decide (1 ≤ c.nx ∧ c.nx ≤ 513)) = false := eq_false_of_ne_true h4
     try rw [h4]
     refine WP.mv rfl rfl ?_; refine WP.nil ?_; refine WP.sub [(0, _), (1, _), (2, _), (3, _), (4, _), (5, _), (6, _)] ?_ ⟨rfl, rfl, rfl, rfl, rfl, rfl, rfl, trivial⟩
     refine WP.next (WP.seq (WP.seq ?_))
     refine WP.region [0, 1, 2, 3, 4, 5, 6, 7, 8, 9, 10, 11, 12, 13] rfl ?_; refine WP.mv rfl rfl ?_; refine WP.vl rfl (Yld.not rfl rfl) ?_; refine WP.mv rfl rfl ?_; refine WP.valG rfl rfl rfl rfl rfl rfl rfl (Yld.move rfl rfl) ?_; refine WP.valG rfl rfl rfl rfl rfl rfl rfl (Yld.not rfl rfl) ?_; refine WP.vl rfl (Yld.pickF rfl rfl rfl) ?_; refine WP.mv rfl rfl ?_; iterate 2 refine WP.passG rfl rfl rfl rfl rfl rfl rfl rfl ?_
     refine WP.vl rfl (Yld.pickT rfl rfl rfl) ?_; refine WP.mv rfl rfl ?_; iterate 2 refine WP.passG rfl rfl rfl rfl rfl rfl rfl rfl ?_
     refine WP.vl rfl (Yld.pickT rfl rfl rfl) ?_; refine WP.nil ?_; refine WP.sub [(0, _), (1, _), (2, _), (3, _), (4, _), (5, _), (6, _), (38, _)] ?_ ⟨rfl, rfl, rfl, rfl, rfl, rfl, rfl, rfl, trivial⟩
     refine WP.next ?_; refine WP.condT rfl ?_; refine WP.seq ?_; refine WP.region [0] rfl ?_; refine WP.mv rfl rfl ?_; refine WP.nil (WP.next (WP.ret ?_))
     refine WP.fn .ret (.inr rfl) (res1 rfl rfl) [] (Imm.le_refl _) ?_; exact ⟨false, rfl, ⟨fun h => (by cases h), fun h => absurd h.1.2.1 (of_decide_eq_false h2)⟩, rfl, rfl⟩
   ·have h3 : (decide (0 ≤ c.root ∧ c.root ≤ 512)) = false := eq_false_of_ne_true h3
    try rw [h3]
    refine WP.mv rfl rfl ?_; refine WP.nil ?_; refine WP.sub [(0, _), (1, _), (2, _), (3, _), (4, _), (5, _)] ?_ ⟨rfl, rfl, rfl, rfl, rfl, rfl, trivial⟩
    refine WP.next (WP.seq ?_)
    refine WP.region [0, 1, 2, 3] rfl ?_; refine WP.vl rfl (Yld.fieldAddr rfl ty_fd_24_3 rfl) ?_; refine WP.vl rfl (Yld.ld rfl ty_sc_3 rfl rfl) ?_; refine WP.loud rfl rfl ?_; refine Op.cl rchk_in rfl Tryz.func34 rfl rfl rfl rfl ?_; rintro v J L1 - ⟨rfl, rfl, rfl⟩
    try simp only [nf]
    by_cases h4 : (decide (1 ≤ c.nx ∧ c.nx ≤ 513)) = true
    ·try rw [h4]
     refine WP.mv rfl rfl ?_; refine WP.nil ?_; refine WP.sub [(0, _), (1, _), (2, _), (3, _), (4, _), (5, _), (6, _)] ?_ ⟨rfl, rfl, rfl, rfl, rfl, rfl, rfl, trivial⟩
     refine WP.next (WP.seq (WP.seq ?_))
     refine WP.region [0, 1, 2, 3, 4, 5, 6, 7, 8, 9, 10, 11, 12, 13] rfl ?_; refine WP.mv rfl rfl ?_; refine WP.vl rfl (Yld.not rfl rfl) ?_; refine WP.mv rfl rfl ?_; refine WP.valG rfl rfl rfl rfl rfl rfl rfl (Yld.move rfl rfl) ?_; refine WP.valG rfl rfl rfl rfl rfl rfl rfl (Yld.not rfl rfl) ?_; refine WP.vl rfl (Yld.pickF rfl rfl rfl) ?_; refine WP.mv rfl rfl ?_; iterate 2 refine WP.passG rfl rfl rfl rfl rfl rfl rfl rfl ?_
     refine WP.vl rfl (Yld.pickT rfl rfl rfl) ?_; refine WP.mv rfl rfl ?_; iterate 2 refine WP.passG rfl rfl rfl rfl rfl rfl rfl rfl ?_
     refine WP.vl rfl (Yld.pickT rfl rfl rfl) ?_; refine WP.nil ?_; refine WP.sub [(0, _), (1, _), (2, _), (3, _), (4, _), (5, _), (6, _), (38, _)] ?_ ⟨rfl, rfl, rfl, rfl, rfl, rfl, rfl, rfl, trivial⟩
     refine WP.next ?_; refine WP.condT rfl ?_; refine WP.seq ?_; refine WP.region [0] rfl ?_; refine WP.mv rfl rfl ?_; refine WP.nil (WP.next (WP.ret ?_))
     refine WP.fn .ret (.inr rfl) (res1 rfl rfl) [] (Imm.le_refl _) ?_; exact ⟨false, rfl, ⟨fun h => (by cases h), fun h => absurd h.1.2.1 (of_decide_eq_false h2)⟩, rfl, rfl⟩
    ·have h4 : (decide (1 ≤ c.nx ∧ c.nx ≤ 513)) = false := eq_false_of_ne_true h4
     try rw [h4]
     refine WP.mv rfl rfl ?_; refine WP.nil ?_; refine WP.sub [(0, _), (1, _), (2, _), (3, _), (4, _), (5, _), (6, _)] ?_ ⟨rfl, rfl, rfl, rfl, rfl, rfl, rfl, trivial⟩
     refine WP.next (WP.seq (WP.seq ?_))
     refine WP.region [0, 1, 2, 3, 4, 5, 6, 7, 8, 9, 10, 11, 12, 13] rfl ?_; refine WP.mv rfl rfl ?_; refine WP.vl rfl (Yld.not rfl rfl) ?_; refine WP.mv rfl rfl ?_; refine WP.valG rfl rfl rfl rfl rfl rfl rfl (Yld.move rfl rfl) ?_; refine WP.valG rfl rfl rfl rfl rfl rfl rfl (Yld.not rfl rfl) ?_; refine WP.vl rfl (Yld.pickF rfl rfl rfl) ?_; refine WP.mv rfl rfl ?_; iterate 2 refine WP.passG rfl rfl rfl rfl rfl rfl rfl rfl ?_
     refine WP.vl rfl (Yld.pickT rfl rfl rfl) ?_; refine WP.mv rfl rfl ?_; iterate 2 refine WP.passG rfl rfl rfl rfl rfl rfl rfl rfl ?_
     refine WP.vl rfl (Yld.pickT rfl rfl rfl) ?_; refine WP.nil ?_; refine WP.sub [(0, _), (1, _), (2, _), (3, _), (4, _), (5, _), (6, _), (38, _)] ?_ ⟨rfl, rfl, rfl, rfl, rfl, rfl, rfl, rfl, trivial⟩
     refine WP.next ?_; refine WP.condT rfl ?_; refine WP.seq ?_; refine WP.region [0] rfl ?_; refine WP.mv rfl rfl ?_; refine WP.nil (WP.next (WP.ret ?_))
     refine WP.fn .ret (.inr rfl) (res1 rfl rfl) [] (Imm.le_refl _) ?_; exact ⟨false, rfl, ⟨fun h => (by cases h), fun h => absurd h.1.2.1 (of_decide_eq_false h2)⟩, rfl, rfl⟩
 ·have h1 : (decide (1 ≤ c.fr ∧ c.fr ≤ 1099511627776)) = false := eq_false_of_ne_true h1
  try rw [h1]
  refine WP.mv rfl rfl ?_; refine WP.nil ?_; refine WP.sub [(0, _), (1, _), (2, _), (3, _)] ?_ ⟨rfl, rfl, rfl, rfl, trivial⟩
  refine WP.next (WP.seq ?_)
  refine WP.region [0, 1, 2, 3] rfl ?_; refine WP.vl rfl (Yld.fieldAddr rfl ty_fd_24_1 rfl) ?_; refine WP.vl rfl (Yld.ld rfl ty_sc_3 rfl rfl) ?_; refine WP.loud rfl rfl ?_; refine Op.cl rchk_in rfl Tryz.func34 rfl rfl rfl rfl ?_; rintro v J L1 - ⟨rfl, rfl, rfl⟩
  try simp only [nf]
  by_cases h2 : (decide (0 ≤ c.pl ∧ c.pl ≤ 1099511627776)) = true
  ·try rw [h2]
   refine WP.mv rfl rfl ?_; refine WP.nil ?_; refine WP.sub [(0, _), (1, _), (2, _), (3, _), (4, _)] ?_ ⟨rfl, rfl, rfl, rfl, rfl, trivial⟩
   refine WP.next (WP.seq ?_)
   refine WP.region [0, 1, 2, 3] rfl ?_; refine WP.vl rfl (Yld.fieldAddr rfl ty_fd_24_2 rfl) ?_; refine WP.vl rfl (Yld.ld rfl ty_sc_3 rfl rfl) ?_; refine WP.loud rfl rfl ?_; refine Op.cl rchk_in rfl Tryz.func34 rfl rfl rfl rfl ?_; rintro v J L1 - ⟨rfl, rfl, rfl⟩
   try simp only [nf]
   by_cases h3 : (decide (0 ≤ c.root ∧ c.root ≤ 512)) = true
   ·try rw [h3]
    refine WP.mv rfl rfl ?_; refine WP.nil ?_; refine WP.sub [(0, _), (1, _), (2, _), (3, _), (4, _), (5, _)] ?_ ⟨rfl, rfl, rfl, rfl, rfl, rfl, trivial⟩
    refine WP.next (WP.seq ?_)
    refine WP.region [0, 1, 2, 3] rfl ?_; refine WP.vl rfl (Yld.fieldAddr rfl ty_fd_24_3 rfl) ?_; refine WP.vl rfl (Yld.ld rfl ty_sc_3 rfl rfl) ?_; refine WP.loud rfl rfl ?_; refine Op.cl rchk_in rfl Tryz.func34 rfl rfl rfl rfl ?_; rintro v J L1 - ⟨rfl, rfl, rfl⟩
    try simp only [nf]
    by_cases h4 : (decide (1 ≤ c.nx ∧ c.nx ≤ 513)) = true
    ·try rw [h4]
     refine WP.mv rfl rfl ?_; refine WP.nil ?_; refine WP.sub [(0, _), (1, _), (2, _), (3, _), (4, _), (5, _), (6, _)] ?_ ⟨rfl, rfl, rfl, rfl, rfl, rfl, rfl, trivial⟩
     refine WP.next (WP.seq (WP.seq ?_))
     refine WP.region [0, 1, 2, 3, 4, 5, 6, 7, 8, 9, 10, 11, 12, 13] rfl ?_; refine WP.mv rfl rfl ?_; refine WP.vl rfl (Yld.not rfl rfl) ?_; refine WP.mv rfl rfl ?_; iterate 2 refine WP.passG rfl rfl rfl rfl rfl rfl rfl rfl ?_
     refine WP.vl rfl (Yld.pickT rfl rfl rfl) ?_; refine WP.mv rfl rfl ?_; iterate 2 refine WP.passG rfl rfl rfl rfl rfl rfl rfl rfl ?_
     refine WP.vl rfl (Yld.pickT rfl rfl rfl) ?_; refine WP.mv rfl rfl ?_; iterate 2 refine WP.passG rfl rfl rfl rfl rfl rfl rfl rfl ?_
     refine WP.vl rfl (Yld.pickT rfl rfl rfl) ?_; refine WP.nil ?_; refine WP.sub [(0, _), (1, _), (2, _), (3, _), (4, _), (5, _), (6, _), (38, _)] ?_ ⟨rfl, rfl, rfl, rfl, rfl, rfl, rfl, rfl, trivial⟩
     refine WP.next ?_; refine WP.condT rfl ?_; refine WP.seq ?_; refine WP.region [0] rfl ?_; refine WP.mv rfl rfl ?_; refine WP.nil (WP.next (WP.ret ?_))
     refine WP.fn .ret (.inr rfl) (res1 rfl rfl) [] (Imm.le_refl _) ?_; exact ⟨false, rfl, ⟨fun h => (by cases h), fun h => absurd h.1.1 (of_decide_eq_false h1)⟩, rfl, rfl⟩
    ·have h4 : (decide (1 ≤ c.nx ∧ c.nx ≤ 513)) = false := eq_false_of_ne_true h4
     try rw [h4]
     refine WP.mv rfl rfl ?_; refine WP.nil ?_; refine WP.sub [(0, _), (1, _), (2, _), (3, _), (4, _), (5, _), (6, _)] ?_ ⟨rfl, rfl, rfl, rfl, rfl, rfl, rfl, trivial⟩
     refine WP.next (WP.seq (WP.seq ?_))
     refine WP.region [0, 1, 2, 3, 4, 5, 6, 7, 8, 9, 10, 11, 12, 13] rfl ?_; refine WP.mv rfl rfl ?_; refine WP.vl rfl (Yld.not rfl rfl) ?_; refine WP.mv rfl rfl ?_; iterate 2 refine WP.passG rfl rfl rfl rfl rfl rfl rfl rfl ?_
     refine WP.vl rfl (Yld.pickT rfl rfl rfl) ?_; refine WP.mv rfl rfl ?_; iterate 2 refine WP.passG rfl rfl rfl rfl rfl rfl rfl rfl ?_
     refine WP.vl rfl (Yld.pickT rfl rfl rfl) ?_; refine WP.mv rfl rfl ?_; iterate 2 refine WP.passG rfl rfl rfl rfl rfl rfl rfl rfl ?_
     refine WP.vl rfl (Yld.pickT rfl rfl rfl) ?_; refine WP.nil ?_; refine WP.sub [(0, _), (1, _), (2, _), (3, _), (4, _), (5, _), (6, _), (38, _)] ?_ ⟨rfl, rfl, rfl, rfl, rfl, rfl, rfl, rfl, trivial⟩
     refine WP.next ?_; refine WP.condT rfl ?_; refine WP.seq ?_; refine WP.region [0] rfl ?_; refine WP.mv rfl rfl ?_; refine WP.nil (WP.next (WP.ret ?_))
     refine WP.fn .ret (.inr rfl) (res1 rfl rfl) [] (Imm.le_refl _) ?_; exact ⟨false, rfl, ⟨fun h => (by cases h), fun h => absurd h.1.1 (of_decide_eq_false h1)⟩, rfl, rfl⟩
   ·have h3 : (decide (0 ≤ c.root ∧ c.root ≤ 512)) = false := eq_false_of_ne_true h3
    try rw [h3]
    refine WP.mv rfl rfl ?_; refine WP.nil ?_; refine WP.sub [(0, _), (1, _), (2, _), (3, _), (4, _), (5, _)] ?_ ⟨rfl, rfl, rfl, rfl, rfl, rfl, trivial⟩
    refine WP.next (WP.seq ?_)
    refine WP.region [0, 1, 2, 3] rfl ?_; refine WP.vl rfl (Yld.fieldAddr rfl ty_fd_24_3 rfl) ?_; refine WP.vl rfl (Yld.ld rfl ty_sc_3 rfl rfl) ?_; refine WP.loud rfl rfl ?_; refine Op.cl rchk_in rfl Tryz.func34 rfl rfl rfl rfl ?_; rintro v J L1 - ⟨rfl, rfl, rfl⟩
    try simp only [nf]
    by_cases h4 : (decide (1 ≤ c.nx ∧ c.nx ≤ 513)) = true
    ·try rw [h4]
     refine WP.mv rfl rfl ?_; refine WP.nil ?_; refine WP.sub [(0, _), (1, _), (2, _), (3, _), (4, _), (5, _), (6, _)] ?_ ⟨rfl, rfl, rfl, rfl, rfl, rfl, rfl, trivial⟩
     refine WP.next (WP.seq (WP.seq ?_))
     refine WP.region [0, 1, 2, 3, 4, 5, 6, 7, 8, 9, 10, 11, 12, 13] rfl ?_; refine WP.mv rfl rfl ?_; refine WP.vl rfl (Yld.not rfl rfl) ?_; refine WP.mv rfl rfl ?_; iterate 2 refine WP.passG rfl rfl rfl rfl rfl rfl rfl rfl ?_
     refine WP.vl rfl (Yld.pickT rfl rfl rfl) ?_; refine WP.mv rfl rfl ?_; iterate 2 refine WP.passG rfl rfl rfl rfl rfl rfl rfl rfl ?_
     refine WP.vl rfl (Yld.pickT rfl rfl rfl) ?_; refine WP.mv rfl rfl ?_; iterate 2 refine WP.passG rfl rfl rfl rfl rfl rfl rfl rfl ?_
     refine WP.vl rfl (Yld.pickT rfl rfl rfl) ?_; refine WP.nil ?_; refine WP.sub [(0, _), (1, _), (2, _), (3, _), (4, _), (5, _), (6, _), (38, _)] ?_ ⟨rfl, rfl, rfl, rfl, rfl, rfl, rfl, rfl, trivial⟩
     refine WP.next ?_; refine WP.condT rfl ?_; refine WP.seq ?_; refine WP.region [0] rfl ?_; refine WP.mv rfl rfl ?_; refine WP.nil (WP.next (WP.ret ?_))
     refine WP.fn .ret (.inr rfl) (res1 rfl rfl) [] (Imm.le_refl _) ?_; exact ⟨false, rfl, ⟨fun h => (by cases h), fun h => absurd h.1.1 (of_decide_eq_false h1)⟩, rfl, rfl⟩
    ·have h4 : (decide (1 ≤ c.nx ∧ c.nx ≤ 513)) = false := eq_false_of_ne_true h4
     try rw [h4]
     refine WP.mv rfl rfl ?_; refine WP.nil ?_; refine WP.sub [(0, _), (1, _), (2, _), (3, _), (4, _), (5, _), (6, _)] ?_ ⟨rfl, rfl, rfl, rfl, rfl, rfl, rfl, trivial⟩
     refine WP.next (WP.seq (WP.seq ?_))
     refine WP.region [0, 1, 2, 3, 4, 5, 6, 7, 8, 9, 10, 11, 12, 13] rfl ?_; refine WP.mv rfl rfl ?_; refine WP.vl rfl (Yld.not rfl rfl) ?_; refine WP.mv rfl rfl ?_; iterate 2 refine WP.passG rfl rfl rfl rfl rfl rfl rfl rfl ?_
     refine WP.vl rfl (Yld.pickT rfl rfl rfl) ?_; refine WP.mv rfl rfl ?_; iterate 2 refine WP.passG rfl rfl rfl rfl rfl rfl rfl rfl ?_
     refine WP.vl rfl (Yld.pickT rfl rfl rfl) ?_; refine WP.mv rfl rfl ?_; iterate 2 refine WP.passG rfl rfl rfl rfl rfl rfl rfl rfl ?_
     refine WP.vl rfl (Yld.pickT rfl rfl rfl) ?_; refine WP.nil ?_; refine WP.sub [(0, _), (1, _), (2, _), (3, _), (4, _), (5, _), (6, _), (38, _)] ?_ ⟨rfl, rfl, rfl, rfl, rfl, rfl, rfl, rfl, trivial⟩
     refine WP.next ?_; refine WP.condT rfl ?_; refine WP.seq ?_; refine WP.region [0] rfl ?_; refine WP.mv rfl rfl ?_; refine WP.nil (WP.next (WP.ret ?_))
     refine WP.fn .ret (.inr rfl) (res1 rfl rfl) [] (Imm.le_refl _) ?_; exact ⟨false, rfl, ⟨fun h => (by cases h), fun h => absurd h.1.1 (of_decide_eq_false h1)⟩, rfl, rfl⟩
  ·have h2 : (decide (0 ≤ c.pl ∧ c.pl ≤ 1099511627776)) = false := eq_false_of_ne_true h2
   try rw [h2]
   refine WP.mv rfl rfl ?_; refine WP.nil ?_; refine WP.sub [(0, _), (1, _), (2, _), (3, _), (4, _)] ?_ ⟨rfl, rfl, rfl, rfl, rfl, trivial⟩
   refine WP.next (WP.seq ?_)
   refine WP.region [0, 1, 2, 3] rfl ?_; refine WP.vl rfl (Yld.fieldAddr rfl ty_fd_24_2 rfl) ?_; refine WP.vl rfl (Yld.ld rfl ty_sc_3 rfl rfl) ?_; refine WP.loud rfl rfl ?_; refine Op.cl rchk_in rfl Tryz.func34 rfl rfl rfl rfl ?_; rintro v J L1 - ⟨rfl, rfl, rfl⟩
   try simp only [nf]
   by_cases h3 : (decide (0 ≤ c.root ∧ c.root ≤ 512)) = true
   ·try rw [h3]
    refine WP.mv rfl rfl ?_; refine WP.nil ?_; refine WP.sub [(0, _), (1, _), (2, _), (3, _), (4, _), (5, _)] ?_ ⟨rfl, rfl, rfl, rfl, rfl, rfl, trivial⟩
    refine WP.next (WP.seq ?_)
    refine WP.region [0, 1, 2, 3] rfl ?_; refine WP.vl rfl (Yld.fieldAddr rfl ty_fd_24_3 rfl) ?_; refine WP.vl rfl (Yld.ld rfl ty_sc_3 rfl rfl) ?_; refine WP.loud rfl rfl ?_; refine Op.cl rchk_in rfl Tryz.func34 rfl rfl rfl rfl ?_; rintro v J L1 - ⟨rfl, rfl, rfl⟩
    try simp only [nf]
    by_cases h4 : (decide (1 ≤ c.nx ∧ c.nx ≤ 513)) = true
    ·try rw [h4]
     refine WP.mv rfl rfl ?_; refine WP.nil ?_; refine WP.sub [(0, _), (1, _), (2, _), (3, _), (4, _), (5, _), (6, _)] ?_ ⟨rfl, rfl, rfl, rfl, rfl, rfl, rfl, trivial⟩
     refine WP.next (WP.seq (WP.seq ?_))
     refine WP.region [0, 1, 2, 3, 4, 5, 6, 7, 8, 9, 10, 11, 12, 13] rfl ?_; refine WP.mv rfl rfl ?_; refine WP.vl rfl (Yld.not rfl rfl) ?_; refine WP.mv rfl rfl ?_; iterate 2 refine WP.passG rfl rfl rfl rfl rfl rfl rfl rfl ?_
     refine WP.vl rfl (Yld.pickT rfl rfl rfl) ?_; refine WP.mv rfl rfl ?_; iterate 2 refine WP.passG rfl rfl rfl rfl rfl rfl rfl rfl ?_
     refine WP.vl rfl (Yld.pickT rfl rfl rfl) ?_; refine WP.mv rfl rfl ?_; iterate 2 refine WP.passG rfl rfl rfl rfl rfl rfl rfl rfl ?_
     refine WP.vl rfl (Yld.pickT rfl rfl rfl) ?_; refine WP.nil ?_; refine WP.sub [(0, _), (1, _), (2, _), (3, _), (4, _), (5, _), (6, _), (38, _)] ?_ ⟨rfl, rfl, rfl, rfl, rfl, rfl, rfl, rfl, trivial⟩
     refine WP.next ?_; refine WP.condT rfl ?_; refine WP.seq ?_; refine WP.region [0] rfl ?_; refine WP.mv rfl rfl ?_; refine WP.nil (WP.next (WP.ret ?_))
     refine WP.fn .ret (.inr rfl) (res1 rfl rfl) [] (Imm.le_refl _) ?_; exact ⟨false, rfl, ⟨fun h => (by cases h), fun h => absurd h.1.1 (of_decide_eq_false h1)⟩, rfl, rfl⟩
    ·have h4 : (decide (1 ≤ c.nx ∧ c.nx ≤ 513)) = false := eq_false_of_ne_true h4
     try rw [h4]
     refine WP.mv rfl rfl ?_; refine WP.nil ?_; refine WP.sub [(0, _), (1, _), (2, _), (3, _), (4, _), (5, _), (6, _)] ?_ ⟨rfl, rfl, rfl, rfl, rfl, rfl, rfl, trivial⟩
     refine WP.next (WP.seq (WP.seq ?_))
     refine WP.region [0, 1, 2, 3, 4, 5, 6, 7, 8, 9, 10, 11, 12, 13] rfl ?_; refine WP.mv rfl rfl ?_; refine WP.vl rfl (Yld.not rfl rfl) ?_; refine WP.mv rfl rfl ?_; iterate 2 refine WP.passG rfl rfl rfl rfl rfl rfl rfl rfl ?_
     refine WP.vl rfl (Yld.pickT rfl rfl rfl) ?_; refine WP.mv rfl rfl ?_; iterate 2 refine WP.passG rfl rfl rfl rfl rfl rfl rfl rfl ?_
     refine WP.vl rfl (Yld.pickT rfl rfl rfl) ?_; refine WP.mv rfl rfl ?_; iterate 2 refine WP.passG rfl rfl rfl rfl rfl rfl rfl rfl ?_
     refine WP.vl rfl (Yld.pickT rfl rfl rfl) ?_; refine WP.nil ?_; refine WP.sub [(0, _), (1, _), (2, _), (3, _), (4, _), (5, _), (6, _), (38, _)] ?_ ⟨rfl, rfl, rfl, rfl, rfl, rfl, rfl, rfl, trivial⟩
     refine WP.next ?_; refine WP.condT rfl ?_; refine WP.seq ?_; refine WP.region [0] rfl ?_; refine WP.mv rfl rfl ?_; refine WP.nil (WP.next (WP.ret ?_))
     refine WP.fn .ret (.inr rfl) (res1 rfl rfl) [] (Imm.le_refl _) ?_; exact ⟨false, rfl, ⟨fun h => (by cases h), fun h => absurd h.1.1 (of_decide_eq_false h1)⟩, rfl, rfl⟩
   ·have h3 : (decide (0 ≤ c.root ∧ c.root ≤ 512)) = false := eq_false_of_ne_true h3
    try rw [h3]
    refine WP.mv rfl rfl ?_; refine WP.nil ?_; refine WP.sub [(0, _), (1, _), (2, _), (3, _), (4, _), (5, _)] ?_ ⟨rfl, rfl, rfl, rfl, rfl, rfl, trivial⟩
    refine WP.next (WP.seq ?_)
    refine WP.region [0, 1, 2, 3] rfl ?_; refine WP.vl rfl (Yld.fieldAddr rfl ty_fd_24_3 rfl) ?_; refine WP.vl rfl (Yld.ld rfl ty_sc_3 rfl rfl) ?_; refine WP.loud rfl rfl ?_; refine Op.cl rchk_in rfl Tryz.func34 rfl rfl rfl rfl ?_; rintro v J L1 - ⟨rfl, rfl, rfl⟩
    try simp only [nf]
    by_cases h4 : (decide (1 ≤ c.nx ∧ c.nx ≤ 513)) = true
    ·try rw [h4]
     refine WP.mv rfl rfl ?_; refine WP.nil ?_; refine WP.sub [(0, _), (1, _), (2, _), (3, _), (4, _), (5, _), (6, _)] ?_ ⟨rfl, rfl, rfl, rfl, rfl, rfl, rfl, trivial⟩
     refine WP.next (WP.seq (WP.seq ?_))
     refine WP.region [0, 1, 2, 3, 4, 5, 6, 7, 8, 9, 10, 11, 12, 13] rfl ?_; refine WP.mv rfl rfl ?_; refine WP.vl rfl (Yld.not rfl rfl) ?_; refine WP.mv rfl rfl ?_; iterate 2 refine WP.passG rfl rfl rfl rfl rfl rfl rfl rfl ?_
     refine WP.vl rfl (Yld.pickT rfl rfl rfl) ?_; refine WP.mv rfl rfl ?_; iterate 2 refine WP.passG rfl rfl rfl rfl rfl rfl rfl rfl ?_
     refine WP.vl rfl (Yld.pickT rfl rfl rfl) ?_; refine WP.mv rfl rfl ?_; iterate 2 refine WP.passG rfl rfl rfl rfl rfl rfl rfl rfl ?_
     refine WP.vl rfl (Yld.pickT rfl rfl rfl) ?_; refine WP.nil ?_; refine WP.sub [(0, _), (1, _), (2, _), (3, _), (4, _), (5, _), (6, _), (38, _)] ?_ ⟨rfl, rfl, rfl, rfl, rfl, rfl, rfl, rfl, trivial⟩
     refine WP.next ?_; refine WP.condT rfl ?_; refine WP.seq ?_; refine WP.region [0] rfl ?_; refine WP.mv rfl rfl ?_; refine WP.nil (WP.next (WP.ret ?_))
     refine WP.fn .ret (.inr rfl) (res1 rfl rfl) [] (Imm.le_refl _) ?_; exact ⟨false, rfl, ⟨fun h => (by cases h), fun h => absurd h.1.1 (of_decide_eq_false h1)⟩, rfl, rfl⟩
    ·have h4 : (decide (1 ≤ c.nx ∧ c.nx ≤ 513)) = false := eq_false_of_ne_true h4
     try rw [h4]
     refine WP.mv rfl rfl ?_; refine WP.nil ?_; refine WP.sub [(0, _), (1, _), (2, _), (3, _), (4, _), (5, _), (6, _)] ?_ ⟨rfl, rfl, rfl, rfl, rfl, rfl, rfl, trivial⟩
     refine WP.next (WP.seq (WP.seq ?_))
     refine WP.region [0, 1, 2, 3, 4, 5, 6, 7, 8, 9, 10, 11, 12, 13] rfl ?_; refine WP.mv rfl rfl ?_; refine WP.vl rfl (Yld.not rfl rfl) ?_; refine WP.mv rfl rfl ?_; iterate 2 refine WP.passG rfl rfl rfl rfl rfl rfl rfl rfl ?_
     refine WP.vl rfl (Yld.pickT rfl rfl rfl) ?_; refine WP.mv rfl rfl ?_; iterate 2 refine WP.passG rfl rfl rfl rfl rfl rfl rfl rfl ?_
     refine WP.vl rfl (Yld.pickT rfl rfl rfl) ?_; refine WP.mv rfl rfl ?_; iterate 2 refine WP.passG rfl rfl rfl rfl rfl rfl rfl rfl ?_
     refine WP.vl rfl (Yld.pickT rfl rfl rfl) ?_; refine WP.nil ?_; refine WP.sub [(0, _), (1, _), (2, _), (3, _), (4, _), (5, _), (6, _), (38, _)] ?_ ⟨rfl, rfl, rfl, rfl, rfl, rfl, rfl, rfl, trivial⟩
     refine WP.next ?_; refine WP.condT rfl ?_; refine WP.seq ?_; refine WP.region [0] rfl ?_; refine WP.mv rfl rfl ?_; refine WP.nil (WP.next (WP.ret ?_))
     refine WP.fn .ret (.inr rfl) (res1 rfl rfl) [] (Imm.le_refl _) ?_; exact ⟨false, rfl, ⟨fun h => (by cases h), fun h => absurd h.1.1 (of_decide_eq_false h1)⟩, rfl, rfl⟩


def ckZ (c : Ck) (i : Nat) : List Int := [c.fr, c.pl, c.root, c.nx, (c.ps.length : Int)] ++ (c.ps.take i).flatMap fun p => [p.page, p.place, p.no, p.low]
theorem ckZ_len (c : Ck) {i : Nat} (h : i ≤ c.ps.length) : (ckZ c i).length = 5 + i * 4 := by
 have : ∀ l : List Mp, (l.flatMap fun p => [p.page, p.place, p.no, p.low]).length = l.length * 4 := fun l => by
  induction l with
  | nil => rfl
  | cons p l ih => rw [List.flatMap_cons, List.length_append, ih]; simp only [List.length_cons, List.length_nil]; omega
 unfold ckZ
 rw [List.length_append, this, List.length_take, Nat.min_eq_left h]; rfl
theorem ckZ_succ (c : Ck) {i : Nat} (h : i < c.ps.length) : ckZ c (i + 1) = ckZ c i ++ [c.ps[i].page, c.ps[i].place, c.ps[i].no, c.ps[i].low] := by
 unfold ckZ
 rw [flatTake (fun p : Mp => [p.page, p.place, p.no, p.low]) h, List.append_assoc]
theorem ckZ_num (c : Ck) : (ckZ c c.ps.length).flatMap numZ = ckB c := by
 have : ∀ l : List Mp, (l.flatMap fun p => [p.page, p.place, p.no, p.low]).flatMap numZ = l.flatMap mpB := fun l => by
  induction l with
  | nil => rfl
  | cons p l ih => rw [List.flatMap_cons, List.flatMap_append, ih, numZ_mp]; rfl
 unfold ckZ ckB
 rw [List.flatMap_append, numZ_hd, List.take_length, this]
theorem ckZ_el {c : Ck} (h : c.may) : ∀ z ∈ ckZ c c.ps.length, 0 ≤ z ∧ z ≤ 1099511627776 := by
 intro z hz
 unfold ckZ at hz
 rcases List.mem_append.1 hz with hz | hz
 ·exact hd_el h z hz
 ·rw [List.take_length] at hz
  obtain ⟨p, hp, hz⟩ := List.mem_flatMap.1 hz
  obtain ⟨i, hi, rfl⟩ := List.getElem_of_mem hp
  exact mp_el h hi z hz
theorem takeZ_le {zs : List Int} {i : Nat} (h : ∀ z ∈ zs, 0 ≤ z ∧ z ≤ 1099511627776) : ((zs.take i).flatMap numZ).length ≤ zs.length * 10 := by
 have h1 := numZs_le (l := zs.take i) fun z hz => h z (List.mem_of_mem_take hz)
 rw [List.length_take] at h1
 have : min i zs.length * 10 ≤ zs.length * 10 := Nat.mul_le_mul_right _ (by omega)
 omega
structure QeX where
 i : Nat
 v : Value
 L : Chunks
theorem mp_c0 {arr : Array Value} {k : Nat} {p : Mp} (h : (arr.toList.drop k).take 4 = mpV p) : arr[k]? = some (.int .i64 p.page) := by
 have h0 := take_cells h 0 _ rfl (by decide)
 rw [Array.getElem?_toList] at h0
 exact h0
theorem mp_c1 {arr : Array Value} {k : Nat} {p : Mp} (h : (arr.toList.drop k).take 4 = mpV p) : arr[k + 1]? = some (.int .i64 p.place) := by
 have h0 := take_cells h 1 _ rfl (by decide)
 rw [Array.getElem?_toList] at h0
 exact h0
theorem mp_c2 {arr : Array Value} {k : Nat} {p : Mp} (h : (arr.toList.drop k).take 4 = mpV p) : arr[k + 2]? = some (.int .i64 p.no) := by
 have h0 := take_cells h 2 _ rfl (by decide)
 rw [Array.getElem?_toList] at h0
 exact h0
theorem mp_c3 {arr : Array Value} {k : Nat} {p : Mp} (h : (arr.toList.drop k).take 4 = mpV p) : arr[k + 3]? = some (.int .i64 p.low) := by
 have h0 := take_cells h 3 _ rfl (by decide)
 rw [Array.getElem?_toList] at h0
 exact h0
theorem own_ints5 {c : Ck} {b : Nat} : Own 3 1 (.slice (some ⟨b, 0, none⟩) 5 5) ((ckZ c 0).map (Value.int .i64)) (ckZ c 0).length [(b, row 3 [.int .i64 c.fr, .int .i64 c.pl, .int .i64 c.root, .int .i64 c.nx, .int .i64 (c.ps.length : Int)])] := .blk (sp := []) rfl rfl (Nat.le_refl _)
theorem rchk_Encode {I : Imm} {c : Ck} {vp : Value} (hv : SlRd (Im I) vp c.ps.length 4 (c.ps.flatMap mpV)) : Spec Tryz.prog 6 [.agg (kV c vp).toArray] I [] (fun v J L' => ∃ vb xs, ∃ e : Int, v = .tuple #[vb, .int .i64 e] ∧ KEnc c xs e ∧ Own 5 1 vb (bytesV xs) xs.length L') := by
 obtain ⟨Ap, cp, rfl, _, _, _⟩ := id hv
 refine Spec.of Tryz.func6 rfl Tryz.ntmps6 (Nat.le_of_ble_eq_true rfl) (fun F => ?_)
 try simp only [nf]
 dsimp only [argsEnv]
 refine WP.seq ?_; refine WP.region [0, 1, 2] rfl ?_; refine WP.loud rfl rfl ?_; refine Op.box rfl rfl rfl rfl rfl (fun b1 => ?_)
 iterate 2 refine WP.mv rfl rfl ?_
 refine WP.nil (WP.next (WP.seq ?_))
 refine WP.region [0, 1, 2] rfl ?_; refine WP.vl rfl (Yld.ldg (vs := kV c (.slice Ap c.ps.length cp)) rfl ty_ag_24 rfl rfl rfl) ?_; refine WP.loud rfl rfl ?_; refine Op.cl (rchk_May hv) rfl Tryz.func19 rfl rfl rfl rfl ?_; rintro v J L1 - ⟨bm, rfl, hbm, rfl, rfl⟩
 try simp only [nf]
 by_cases hb1 : bm = true
 ·try rw [hb1]
  refine WP.mv rfl rfl ?_; refine WP.nil ?_; refine WP.sub [(0, _), (1, _), (2, _), (3, _), (4, _)] ?_ ⟨rfl, rfl, rfl, rfl, rfl, trivial⟩
  refine WP.next (WP.seq (WP.seq ?_))
  refine WP.region [0, 1] rfl ?_; refine WP.mv rfl rfl ?_; refine WP.vl rfl (Yld.not rfl rfl) ?_; refine WP.nil ?_; refine WP.sub [(0, _), (1, _), (2, _), (3, _), (4, _), (13, _)] ?_ ⟨rfl, rfl, rfl, rfl, rfl, rfl, trivial⟩
  refine WP.next ?_; refine WP.condF rfl ?_; refine WP.skip (WP.next (WP.seq ?_))
  have hmay := hbm.1 hb1
  have hln5 := Ck.len hmay
  refine WP.region [0, 1, 2, 3, 4, 5, 6, 7, 8, 9, 10, 11, 12] rfl ?_; refine WP.vl rfl (Yld.fieldAddr rfl ty_fd_24_0 rfl) ?_; refine WP.vl rfl (Yld.ld rfl ty_sc_3 rfl rfl) ?_; refine WP.vl rfl (Yld.fieldAddr rfl ty_fd_24_1 rfl) ?_; refine WP.vl rfl (Yld.ld rfl ty_sc_3 rfl rfl) ?_; refine WP.vl rfl (Yld.fieldAddr rfl ty_fd_24_2 rfl) ?_; refine WP.vl rfl (Yld.ld rfl ty_sc_3 rfl rfl) ?_; refine WP.vl rfl (Yld.fieldAddr rfl ty_fd_24_3 rfl) ?_; refine WP.vl rfl (Yld.ld rfl ty_sc_3 rfl rfl) ?_; refine WP.vl rfl (Yld.fieldAddr rfl ty_fd_24_4 rfl) ?_; refine WP.vl rfl (Yld.ld (v := .slice Ap c.ps.length cp) rfl ty_sc_22 rfl rfl) ?_; refine WP.vl rfl (Yld.len rfl ty_sl_22 rfl) ?_; refine WP.loud rfl rfl ?_; refine Op.buildSlice rfl ty_sl_60 ty_el2_60 rfl rfl rfl rfl (vs := [_, _, _, _, _]) rfl (segs := [(0, [_]), (1, [_]), (2, [_]), (3, [_]), (4, [_])]) (cs := [.int .i64 c.fr, .int .i64 c.pl, .int .i64 c.root, .int .i64 c.nx, .int .i64 (c.ps.length : Int)]) rfl rfl (.seg (Nat.le_of_ble_eq_true rfl) rfl (.seg (Nat.le_of_ble_eq_true rfl) rfl (.seg (Nat.le_of_ble_eq_true rfl) rfl (.seg (Nat.le_of_ble_eq_true rfl) rfl (.seg (Nat.le_of_ble_eq_true rfl) rfl .nil))))) (fun bh => ?_)
  refine WP.mv rfl rfl ?_; refine WP.nil ?_; refine WP.sub [(0, _), (1, _), (2, _), (3, _), (4, _), (5, _), (13, _)] ?_ ⟨rfl, rfl, rfl, rfl, rfl, rfl, rfl, trivial⟩
  refine WP.next (WP.seq (WP.seq ?_))
  refine WP.region [0] rfl ?_; refine WP.mv rfl rfl ?_; refine WP.nil (WP.next (WP.block ?_))
  refine WP.loop (X := QeX) (fun u : QeX => [(1, .pointer (some ⟨b1, 0, none⟩)), (5, u.v), (6, .int .i64 (u.i : Int))]) (fun _ => I) (fun u : QeX => (b1, row 24 (kV c (.slice Ap c.ps.length cp))) :: (u.L ++ F)) (fun u : QeX => u.i ≤ c.ps.length ∧ Own 3 1 u.v ((ckZ c u.i).map (Value.int .i64)) (ckZ c u.i).length u.L) (fun u => c.ps.length - u.i) ⟨0, .slice (some ⟨bh, 0, none⟩) 5 5, [(bh, row 3 [.int .i64 c.fr, .int .i64 c.pl, .int .i64 c.root, .int .i64 c.nx, .int .i64 (c.ps.length : Int)])]⟩ ⟨Nat.zero_le _, own_ints5⟩ ⟨rfl, rfl, rfl, trivial⟩ rfl zA ?_; rintro ⟨i, vo, Lo⟩ ⟨hle, ho⟩; dsimp only at hle ho; have hzl := ckZ_len c hle; obtain ⟨Ao, co, rfl, _⟩ := ho.slice
  try dsimp only
  try simp only [nf]
  refine WP.seq (WP.seq ?_)
  refine WP.region [0, 1, 2, 3, 4] rfl ?_; refine WP.mv rfl rfl ?_; refine WP.vl rfl (Yld.fieldAddr rfl ty_fd_24_4 rfl) ?_; refine WP.vl rfl (Yld.ld (v := .slice Ap c.ps.length cp) rfl ty_sc_22 rfl rfl) ?_; refine WP.vl rfl (Yld.len rfl ty_sl_22 rfl) ?_; refine WP.split rfl rfl rfl rfl (Yld.lss rfl rfl rfl) (fun hlt => ?_) (fun hlt => ?_)
  ·have hi : i < c.ps.length := by omega
   obtain ⟨bp, kp, Tp, fp, arp, ep, hbp, hcp⟩ := mps_at hv hi
   refine WP.nil ?_; refine WP.sub [(1, _), (5, _), (6, _), (30, _)] ?_ ⟨rfl, rfl, rfl, rfl, trivial⟩
   refine WP.next ?_; refine WP.condT rfl ?_; refine WP.skip (WP.next (WP.seq (WP.block ?_)))
   refine WD.start Tryzmixed 26 (fun c_ o => (c_ = b1 ∧ o = row 24 (kV c (.slice Ap c.ps.length cp)))) (fun c_ o => I.blk c_ = some o) (by rintro _ _ ⟨rfl, rfl⟩; exact zM) (fun _ _ h => There.i h) 28 [false, false, false, false, false, false, false, false, false, false, false, false, false, false, false, false, false, false, false, false, false, false, false, false, false, false, false, false] rfl rfl ?_; refine WD.vl (i := 0) rfl (Yld.move rfl rfl) ?_; refine WD.vl (i := 1) rfl (Yld.fieldAddr rfl ty_fd_24_4 rfl) ?_; refine WD.val1 (i := 2) rfl rfl rfl rfl zK rfl zK (Yld.load (v := .slice Ap c.ps.length cp) rfl ty_sc_22 rfl (.inl ⟨rfl, rfl⟩) rfl) ?_; refine WD.vl (i := 3) rfl (Yld.move rfl rfl) ?_; refine WD.vl (i := 4) rfl (Yld.indexAddr (i := i) rfl ty_sl_22 (congrArg (fun a => some (Value.slice a c.ps.length cp)) ep) rfl hi) ?_; refine WD.vl (i := 5) rfl (Yld.fieldAddr rfl ty_fd_65_0 rfl) ?_; refine WD.val1 (i := 6) rfl rfl rfl rfl zK rfl zK (Yld.loadC (v := .int .i64 c.ps[i].page) rfl ty_sc_3 rfl (.inr hbp) (mp_c0 hcp)) ?_; refine WD.vl (i := 7) rfl (Yld.fieldAddr rfl ty_fd_24_4 rfl) ?_; refine WD.val1 (i := 8) rfl rfl rfl rfl zK rfl zK (Yld.load (v := .slice Ap c.ps.length cp) rfl ty_sc_22 rfl (.inl ⟨rfl, rfl⟩) rfl) ?_; refine WD.vl (i := 9) rfl (Yld.move rfl rfl) ?_; refine WD.vl (i := 10) rfl (Yld.indexAddr (i := i) rfl ty_sl_22 (congrArg (fun a => some (Value.slice a c.ps.length cp)) ep) rfl hi) ?_; refine WD.vl (i := 11) rfl (Yld.fieldAddr rfl ty_fd_65_1 rfl) ?_; refine WD.val1 (i := 12) rfl rfl rfl rfl zK rfl zK (Yld.loadC (v := .int .i64 c.ps[i].place) rfl ty_sc_3 rfl (.inr hbp) (mp_c1 hcp)) ?_
   refine WD.vl (i := 13) rfl (Yld.fieldAddr rfl ty_fd_24_4 rfl) ?_; refine WD.val1 (i := 14) rfl rfl rfl rfl zK rfl zK (Yld.load (v := .slice Ap c.ps.length cp) rfl ty_sc_22 rfl (.inl ⟨rfl, rfl⟩) rfl) ?_; refine WD.vl (i := 15) rfl (Yld.move rfl rfl) ?_; refine WD.vl (i := 16) rfl (Yld.indexAddr (i := i) rfl ty_sl_22 (congrArg (fun a => some (Value.slice a c.ps.length cp)) ep) rfl hi) ?_; refine WD.vl (i := 17) rfl (Yld.fieldAddr rfl ty_fd_65_2 rfl) ?_; refine WD.val1 (i := 18) rfl rfl rfl rfl zK rfl zK (Yld.loadC (v := .int .i64 c.ps[i].no) rfl ty_sc_3 rfl (.inr hbp) (mp_c2 hcp)) ?_; refine WD.vl (i := 19) rfl (Yld.fieldAddr rfl ty_fd_24_4 rfl) ?_; refine WD.val1 (i := 20) rfl rfl rfl rfl zK rfl zK (Yld.load (v := .slice Ap c.ps.length cp) rfl ty_sc_22 rfl (.inl ⟨rfl, rfl⟩) rfl) ?_; refine WD.vl (i := 21) rfl (Yld.move rfl rfl) ?_; refine WD.vl (i := 22) rfl (Yld.indexAddr (i := i) rfl ty_sl_22 (congrArg (fun a => some (Value.slice a c.ps.length cp)) ep) rfl hi) ?_; refine WD.vl (i := 23) rfl (Yld.fieldAddr rfl ty_fd_65_3 rfl) ?_; refine WD.val1 (i := 24) rfl rfl rfl rfl zK rfl zK (Yld.loadC (v := .int .i64 c.ps[i].low) rfl ty_sc_3 rfl (.inr hbp) (mp_c3 hcp)) ?_; refine WD.loud (i := 25) zK rfl rfl rfl ?_; refine Op.buildSlice rfl ty_sl_60 ty_el2_60 rfl rfl rfl rfl (vs := [_, _, _, _]) rfl (segs := [(0, [_]), (1, [_]), (2, [_]), (3, [_])]) (cs := [.int .i64 c.ps[i].page, .int .i64 c.ps[i].place, .int .i64 c.ps[i].no, .int .i64 c.ps[i].low]) rfl rfl (.seg (Nat.le_of_ble_eq_true rfl) rfl (.seg (Nat.le_of_ble_eq_true rfl) rfl (.seg (Nat.le_of_ble_eq_true rfl) rfl (.seg (Nat.le_of_ble_eq_true rfl) rfl .nil)))) (fun bl => ?_)
   refine WD.go (.inr (by rintro _ _ ⟨rfl, rfl⟩; exact zM)) (fun _ _ h => There.i h) ?_; refine WD.loud (i := 26) zK rfl rfl rfl ?_; refine Op.append (m := 4) rfl ty_sl_60 ty_el_60 rfl rfl rfl rfl rfl ho (SlRd.lit (m := 4) zM rfl (Nat.le_refl _)) zT rfl (by omega) (by omega) (fun vu Lu hu => ?_)
   try simp only [nf]
   obtain ⟨Au, cu, rfl, _⟩ := hu.slice
   refine WD.go (.inl rfl) (fun _ _ h => There.i h) ?_; refine WD.vl (i := 27) rfl (Yld.assign rfl rfl) ?_; refine WD.done zK ?_; refine WP.sub [(1, _), (5, _), (6, _), (30, _)] ?_ ⟨rfl, rfl, rfl, rfl, trivial⟩
   refine WP.leave (WP.next ?_)
   refine WP.region [0, 1, 2] rfl ?_; refine WP.mv rfl rfl ?_; refine WP.vl rfl (Yld.add64 rfl rfl rfl (by omega)) ?_; refine WP.mv rfl rfl ?_; refine WP.nil ?_; refine WP.sub [(1, _), (5, _), (6, _), (30, _)] ?_ ⟨rfl, rfl, rfl, rfl, trivial⟩
   exact WP.again ⟨i + 1, .slice Au ((ckZ c i).length + 4) cu, Lu⟩ ⟨hi, by rw [ckZ_succ c hi, List.map_append, List.length_append]; exact hu⟩ (show c.ps.length - (i + 1) < c.ps.length - i by omega) ⟨rfl, rfl, rfl, trivial⟩ rfl zA
  ·obtain rfl : i = c.ps.length := by omega
   refine WP.shO ho (fun J1 hJ1 hz => ?_)
   have hel := ckZ_el hmay
   have hnum := ckZ_num c
   obtain ⟨zs, hzs⟩ : ∃ zs, zs = ckZ c c.ps.length := ⟨_, rfl⟩
   rw [← hzs] at hz hel hnum hzl ⊢
   have hz : SlRd (Im J1) (.slice Ao zs.length co) zs.length 1 (zs.map (Value.int .i64)) := hz
   refine WP.nil ?_; refine WP.sub [(1, _), (5, _), (6, _), (30, _)] ?_ ⟨rfl, rfl, rfl, rfl, trivial⟩
   refine WP.next ?_; refine WP.condF rfl ?_; refine WP.exit (WP.thenE (WP.thenE (WP.hit (WP.next (WP.seq ?_)))))
   refine WP.region [0] rfl ?_; refine WP.mv rfl rfl ?_; refine WP.nil (WP.next (WP.seq (WP.seq ?_)))
   refine WP.region [0] rfl ?_; refine WP.mv rfl rfl ?_; refine WP.nil (WP.next (WP.block ?_))
   refine WP.loop (X := QeX) (fun u : QeX => [(5, .slice Ao zs.length co), (7, u.v), (8, .int .i64 (u.i : Int))]) (fun _ => J1) (fun u : QeX => u.L ++ F) (fun u : QeX => u.i ≤ zs.length ∧ Own 5 1 u.v (bytesV ((zs.take u.i).flatMap numZ)) ((zs.take u.i).flatMap numZ).length u.L) (fun u => zs.length - u.i) ⟨0, .slice none 0 0, []⟩ ⟨Nat.zero_le _, .none0⟩ ⟨rfl, rfl, rfl, trivial⟩ rfl zA ?_; rintro ⟨i, vo, Lo⟩ ⟨hle2, ho2⟩; dsimp only at hle2 ho2; obtain ⟨Ap2, cp2, rfl, _⟩ := ho2.slice; have hbl := takeZ_le (i := i) hel
   try dsimp only
   try simp only [nf]
   refine WP.seq (WP.seq ?_)
   refine WP.region [0, 1, 2, 3] rfl ?_; iterate 2 refine WP.mv rfl rfl ?_
   refine WP.vl rfl (Yld.len rfl ty_sl_60 rfl) ?_; refine WP.split rfl rfl rfl rfl (Yld.lss rfl rfl rfl) (fun hlt2 => ?_) (fun hlt2 => ?_)
   ·have hi : i < zs.length := by omega
    obtain ⟨bp, kp, Tp, fp, arp, ep, hbp, hcp⟩ := ints_at hz hi
    obtain ⟨hz1, hz2⟩ := hel _ (List.getElem_mem hi)
    have hnb := numB_10 (n := zs[i].toNat) (by omega)
    refine WP.nil ?_; refine WP.sub [(5, _), (7, _), (8, _), (63, _)] ?_ ⟨rfl, rfl, rfl, rfl, trivial⟩
    refine WP.next ?_; refine WP.condT rfl ?_; refine WP.skip (WP.next (WP.seq (WP.block (WP.seq ?_))))
    refine WP.region [0, 1, 2, 3, 4, 5, 6] rfl ?_; iterate 2 refine WP.mv rfl rfl ?_
    refine WP.vl rfl (Yld.indexAddr (i := i) rfl ty_sl_60 (congrArg (fun a => some (Value.slice a zs.length co)) ep) rfl hi) ?_; refine WP.vl rfl (Yld.loadC rfl ty_sc_3 rfl (There.i hbp) hcp) ?_; refine WP.vl rfl (Yld.conv64u (zs[i].toNat) rfl ty_un_3 ty_ik_62 (congrArg (fun z => some (Value.int .i64 z)) (Int.toNat_of_nonneg hz1).symm) (by omega)) ?_; refine WP.loud rfl rfl ?_; refine Op.cl (ref1_Form (n := zs[i].toNat) (by omega)) rfl Tryz.func20 rfl rfl rfl rfl ?_; rintro v J Lf - ⟨rfl, hof⟩
    try simp only [nf]
    obtain ⟨Af, cf, rfl, _⟩ := hof.slice
    refine WP.mv rfl rfl ?_; refine WP.nil ?_; refine WP.sub [(5, _), (7, _), (8, _), (9, _), (63, _)] ?_ ⟨rfl, rfl, rfl, rfl, rfl, trivial⟩
    refine WP.next ?_; refine WP.region [0, 1, 2, 3] rfl ?_; iterate 2 refine WP.mv rfl rfl ?_
    refine WP.loud rfl rfl ?_; refine Op.append (m := (numB zs[i].toNat).length) rfl ty_sl_25 ty_el_25 rfl rfl rfl rfl rfl ho2 (hof.rd (by intro p hp; simp [hp])) zT (bytesV_one _) (by omega) (by omega) (fun vu Lu hu => ?_)
    try simp only [nf]
    obtain ⟨Au, cu, rfl, _⟩ := hu.slice
    refine WP.mv rfl rfl ?_; refine WP.nil ?_; refine WP.sub [(5, _), (7, _), (8, _), (9, _), (63, _)] ?_ ⟨rfl, rfl, rfl, rfl, rfl, trivial⟩
    refine WP.leave (WP.next ?_)
    refine WP.region [0, 1, 2] rfl ?_; refine WP.mv rfl rfl ?_; refine WP.vl rfl (Yld.add64 rfl rfl rfl (by omega)) ?_; refine WP.mv rfl rfl ?_; refine WP.nil ?_; refine WP.sub [(5, _), (7, _), (8, _), (9, _), (63, _)] ?_ ⟨rfl, rfl, rfl, rfl, rfl, trivial⟩
    exact WP.again ⟨i + 1, .slice Au (((zs.take i).flatMap numZ).length + (numB zs[i].toNat).length) cu, Lu⟩ ⟨hi, by rw [flatTake numZ hi, bytesV_app, List.length_append]; exact hu⟩ (show zs.length - (i + 1) < zs.length - i by omega) ⟨rfl, rfl, rfl, trivial⟩ rfl zA
   ·obtain rfl : i = zs.length := by omega
    rw [List.take_length, hnum] at ho2
    rw [List.take_length, hnum]
    refine WP.nil ?_; refine WP.sub [(5, _), (7, _), (8, _), (63, _)] ?_ ⟨rfl, rfl, rfl, rfl, trivial⟩
    refine WP.next ?_; refine WP.condF rfl ?_; refine WP.exit (WP.thenE (WP.thenE (WP.hit (WP.next (WP.seq (WP.seq ?_))))))
    refine WP.region [0, 1, 2] rfl ?_; refine WP.mv rfl rfl ?_; refine WP.vl rfl (Yld.len rfl ty_sl_25 rfl) ?_; refine WP.split rfl rfl rfl rfl (Yld.gtr rfl rfl rfl) (fun hlong => ?_) (fun hlong => ?_)
    ·refine WP.nil ?_
     refine WP.sub [(5, _), (7, _), (8, _), (63, _), (77, _)] ?_ ⟨rfl, rfl, rfl, rfl, rfl, trivial⟩
     refine WP.next ?_; refine WP.condT rfl ?_; refine WP.seq ?_; refine WP.region [0, 1] rfl ?_; iterate 2 refine WP.mv rfl rfl ?_
     refine WP.nil (WP.next (WP.ret ?_))
     refine WP.fn .ret (.inr rfl) (res2 rfl rfl rfl) [] hJ1 ?_; exact ⟨_, [], 2, rfl, .inr (.inl ⟨hmay, by omega, rfl, rfl⟩), .none0⟩
    ·refine WP.nil ?_
     refine WP.sub [(5, _), (7, _), (8, _), (63, _), (77, _)] ?_ ⟨rfl, rfl, rfl, rfl, rfl, trivial⟩
     refine WP.next ?_; refine WP.condF rfl ?_; refine WP.skip (WP.next (WP.seq ?_))
     refine WP.region [0, 1, 2] rfl ?_; iterate 3 refine WP.mv rfl rfl ?_
     refine WP.nil ?_; refine WP.sub [(2, _), (3, _), (5, _), (7, _), (8, _), (63, _), (77, _)] ?_ ⟨rfl, rfl, rfl, rfl, rfl, rfl, rfl, trivial⟩
     refine WP.next (WP.ret ?_)
     refine WP.fn .ret (.inr rfl) (res2 rfl rfl rfl) Lo hJ1 ?_; exact ⟨_, _, 0, rfl, .inr (.inr ⟨hmay, by omega, rfl, rfl⟩), ho2⟩
 ·have hb1 : bm = false := eq_false_of_ne_true hb1
  try rw [hb1]
  refine WP.mv rfl rfl ?_; refine WP.nil ?_; refine WP.sub [(0, _), (1, _), (2, _), (3, _), (4, _)] ?_ ⟨rfl, rfl, rfl, rfl, rfl, trivial⟩
  refine WP.next (WP.seq (WP.seq ?_))
  refine WP.region [0, 1] rfl ?_; refine WP.mv rfl rfl ?_; refine WP.vl rfl (Yld.not rfl rfl) ?_; refine WP.nil ?_; refine WP.sub [(0, _), (1, _), (2, _), (3, _), (4, _), (13, _)] ?_ ⟨rfl, rfl, rfl, rfl, rfl, rfl, trivial⟩
  refine WP.next ?_; refine WP.condT rfl ?_; refine WP.seq ?_; refine WP.region [0, 1] rfl ?_; iterate 2 refine WP.mv rfl rfl ?_
  refine WP.nil (WP.next (WP.ret ?_))
  refine WP.fn .ret (.inr rfl) (res2 rfl rfl rfl) [] (Imm.le_refl _) ?_; exact ⟨_, [], 170, rfl, .inl ⟨(fun h => by rw [hbm.2 h] at hb1; cases hb1), rfl, rfl⟩, .none0⟩


end Go.Hp
