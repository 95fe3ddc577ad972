import Derived.Test.YtilgaelpbgfnnaaGreatTxnA
set_option linter.unusedVariables false
set_option linter.unusedSimpArgs false
namespace Go.Hp
open Go Go.Proofs

theorem flat3_take (f : (Pr × Value) → List Value) (hf : ∀ x, (f x).length = 3) : ∀ (l : List (Pr × Value)) (k : Nat), (l.flatMap f).take (k * 3) = (l.take k).flatMap f
 | [], k => by simp
 | x :: l, 0 => by simp
 | x :: l, k + 1 => by
  rw [List.flatMap_cons, List.take_succ_cons, List.flatMap_cons, List.take_append, hf, List.take_of_length_le (by rw [hf]; omega), show (k + 1) * 3 - 3 = k * 3 by omega, flat3_take f hf l k]
theorem flat3_drop (f : (Pr × Value) → List Value) (hf : ∀ x, (f x).length = 3) : ∀ (l : List (Pr × Value)) (k : Nat), (l.flatMap f).drop (k * 3) = (l.drop k).flatMap f
 | [], k => by simp
 | x :: l, 0 => by simp
 | x :: l, k + 1 => by
  rw [List.flatMap_cons, List.drop_succ_cons, List.drop_append, hf, List.drop_of_length_le (by rw [hf]; omega), show (k + 1) * 3 - 3 = k * 3 by omega, List.nil_append, flat3_drop f hf l k]
theorem RPrs.sub {J : Imm} {v : Value} {l : List (Pr × Value)} (h : RPrs J v l) {a b : Nat} (h1 : a ≤ b) (h2 : b ≤ l.length) : RPrs J (subSl 3 a b v) ((l.drop a).take (b - a)) := by
 have q := h.rd.sub h1 h2
 rw [flat3_drop _ (fun _ => rfl), flat3_take _ (fun _ => rfl)] at q
 refine ⟨?_, fun x hx => h.el x (List.mem_of_mem_drop (List.mem_of_mem_take hx))⟩
 rw [show ((l.drop a).take (b - a)).length = b - a by rw [List.length_take, List.length_drop]; omega]
 exact q
theorem txn_twice {I : Imm} {b : Nat} {r : Pr} {vn vn2 : Value} {p pv : Int} (h1 : vn.oneCell' = true) : Spec Tryz.prog 125 [.agg ([.int .i64 r.page, .int .i64 r.prev, vn]).toArray, .pointer (some ⟨b, 0, none⟩)] I [(b, row 51 [.int .i64 p, .int .i64 pv, vn2])] (fun v J L => v = .bool (decide (r.page = p)) ∧ I = J ∧ L = [(b, row 51 [.int .i64 p, .int .i64 pv, vn2])]) := by
 refine Spec.of Tryz.func125 rfl Tryz.ntmps125 (Nat.le_of_ble_eq_true rfl) (fun F => ?_)
 try simp only [nf]
 dsimp only [argsEnv]
 refine WP.seq ?_; refine WP.region [0, 1] rfl ?_; refine WP.loud rfl rfl ?_; refine Op.box rfl rfl rfl rfl rfl (fun b2 => ?_)
 refine WP.mv rfl rfl ?_; refine WP.nil (WP.next (WP.seq ?_))
 refine WP.region [0, 1, 2, 3, 4, 5] rfl ?_; refine WP.vl rfl (Yld.fieldAddr rfl ty_fd_51_0 rfl) ?_; refine WP.vl rfl (Yld.ld rfl ty_sc_3 rfl rfl) ?_; refine WP.vl rfl (Yld.fieldAddr rfl ty_fd_51_0 rfl) ?_; refine WP.vl rfl (Yld.ld rfl ty_sc_3 rfl rfl) ?_; refine WP.vl rfl (Yld.eql rfl rfl rfl _ rfl) ?_; refine WP.mv rfl rfl ?_; refine WP.nil ?_; refine WP.sub [(0, _), (1, _), (2, _), (3, _)] ?_ ⟨rfl, rfl, rfl, rfl, trivial⟩
 refine WP.next (WP.ret ?_)
 refine WP.fn .ret (.inr rfl) (res1 rfl rfl) [(b, row 51 [.int .i64 p, .int .i64 pv, vn2])] (Imm.le_refl _) ?_; exact ⟨rfl, rfl, rfl⟩

theorem txn_IndexFunc {I : Imm} {b : Nat} {l : List (Pr × Value)} {v vn2 : Value} {p pv : Int} (hv : RPrs I v l) (hln : l.length ≤ 140737488351232) : Spec Tryz.prog 163 [v, .func (.func 125) [].toArray [.pointer (some ⟨b, 0, none⟩)].toArray] I [(b, row 51 [.int .i64 p, .int .i64 pv, vn2])] (fun u J L => ∃ k : Int, u = .int .i64 k ∧ (0 ≤ k ↔ ∃ i, ∃ h : i < l.length, l[i].1.page = p) ∧ I = J ∧ L = [(b, row 51 [.int .i64 p, .int .i64 pv, vn2])]) := by
 obtain ⟨Ap, cp, rfl, hcp, _, _⟩ := id hv.rd
 refine Spec.of Tryz.func163 rfl Tryz.ntmps163 (Nat.le_of_ble_eq_true rfl) (fun F => ?_)
 try simp only [nf]
 dsimp only [argsEnv]
 refine WP.seq ?_; refine WP.region [0] rfl ?_; refine WP.mv rfl rfl ?_; refine WP.nil (WP.next (WP.seq (WP.seq ?_)))
 refine WP.region [0, 1, 2] rfl ?_; refine WP.mv rfl rfl ?_; refine WP.vl rfl (Yld.len rfl ty_sl_52 rfl) ?_; refine WP.mv rfl rfl ?_; refine WP.nil ?_; refine WP.sub [(0, _), (1, _), (4, _), (7, _), (8, _)] ?_ ⟨rfl, rfl, rfl, rfl, rfl, trivial⟩
 refine WP.next (WP.block ?_)
 refine WP.loop (X := Nat) (fun i : Nat => [(0, .slice Ap l.length cp), (1, .func (.func 125) [].toArray [.pointer (some ⟨b, 0, none⟩)].toArray), (7, .int .i64 (l.length : Int)), (8, .int .i64 (i : Int))]) (fun _ => I) (fun _ : Nat => (b, row 51 [.int .i64 p, .int .i64 pv, vn2]) :: F) (fun i : Nat => i ≤ l.length ∧ ∀ k (h : k < l.length), k < i → l[k].1.page ≠ p) (fun i => l.length - i) 0 ⟨Nat.zero_le _, fun k h hk => absurd hk (Nat.not_lt_zero _)⟩ ⟨rfl, rfl, rfl, rfl, trivial⟩ rfl zP ?_; rintro i ⟨hle, hall⟩
 try dsimp only
 try simp only [nf]
 refine WP.seq ?_; refine WP.region [0] rfl ?_; refine WP.split rfl rfl rfl rfl (Yld.lss rfl rfl rfl) (fun hlt => ?_) (fun hlt => ?_)
 ·have hi : i < l.length := by omega
  obtain ⟨bl, kl, Tl, fl, arl, ea, hbl, hcl⟩ := hv.at_ hi
  have hr1 : l[i].2.oneCell' = true := by obtain ⟨nv, ⟨A, c, e, _⟩, _⟩ := (hv.el _ (List.getElem_mem hi)).ex; rw [e]; rfl
  refine WP.nil (WP.next (WP.seq ?_))
  refine WP.condT rfl ?_; refine WP.skip (WP.next (WP.seq (WP.block (WP.seq ?_))))
  refine WP.region [0, 1] rfl ?_; iterate 2 refine WP.mv rfl rfl ?_
  refine WP.nil ?_; refine WP.sub [(0, _), (1, _), (5, _), (7, _), (8, _), (9, _)] ?_ ⟨rfl, rfl, rfl, rfl, rfl, rfl, trivial⟩
  refine WP.next (WP.seq ?_)
  refine WP.region [0, 1, 2, 3, 4, 5] rfl ?_; iterate 3 refine WP.mv rfl rfl ?_
  refine WP.vl rfl (Yld.indexAddr (i := i) rfl ty_sl_52 (congrArg (fun a => some (Value.slice a l.length cp)) ea) rfl hi) ?_; refine WP.vl rfl (Yld.loadAggC (vs := prV l[i].1 l[i].2) rfl ty_ag_51 rfl (There.i hbl) hcl rfl) ?_; refine WP.loud rfl rfl ?_; refine Op.callE (txn_twice (r := l[i].1) (p := p) (pv := pv) hr1) (Enters.bound rfl Tryz.func125 rfl (rs := []) (us := [.pointer (some ⟨b, 0, none⟩)]) rfl (vs := [_]) rfl) rfl rfl zT ?_; rintro v J L1 - ⟨rfl, rfl, rfl⟩
  try simp only [nf]
  by_cases htw : (decide (l[i].1.page = p)) = true
  ·try rw [htw]
   refine WP.nil ?_; refine WP.sub [(0, _), (1, _), (5, _), (7, _), (8, _), (9, _), (16, _)] ?_ ⟨rfl, rfl, rfl, rfl, rfl, rfl, rfl, trivial⟩
   refine WP.next ?_; refine WP.condT rfl ?_; refine WP.seq ?_; refine WP.region [0, 1] rfl ?_; iterate 2 refine WP.mv rfl rfl ?_
   refine WP.nil ?_; refine WP.sub [(0, _), (1, _), (4, _), (5, _), (7, _), (8, _), (9, _), (16, _)] ?_ ⟨rfl, rfl, rfl, rfl, rfl, rfl, rfl, rfl, trivial⟩
   refine WP.next (WP.ret ?_)
   refine WP.fn .ret (.inr rfl) (res1 rfl rfl) [(b, row 51 [.int .i64 p, .int .i64 pv, vn2])] (Imm.le_refl _) ?_; exact ⟨i, rfl, ⟨fun _ => ⟨i, hi, of_decide_eq_true htw⟩, fun _ => Int.natCast_nonneg i⟩, rfl, rfl⟩
  ·have htw : (decide (l[i].1.page = p)) = false := eq_false_of_ne_true htw
   try rw [htw]
   refine WP.nil ?_; refine WP.sub [(0, _), (1, _), (5, _), (7, _), (8, _), (9, _), (16, _)] ?_ ⟨rfl, rfl, rfl, rfl, rfl, rfl, rfl, trivial⟩
   refine WP.next ?_; refine WP.condF rfl ?_; refine WP.skip (WP.leave (WP.next ?_))
   refine WP.region [0, 1] rfl ?_; refine WP.vl rfl (Yld.add64 rfl rfl rfl (by omega)) ?_; refine WP.mv rfl rfl ?_; refine WP.nil ?_; refine WP.sub [(0, _), (1, _), (5, _), (7, _), (8, _), (9, _), (16, _)] ?_ ⟨rfl, rfl, rfl, rfl, rfl, rfl, rfl, trivial⟩
   exact WP.ag (i + 1) ⟨hi, fun k h hk => by
    rcases Nat.lt_succ_iff_lt_or_eq.1 hk with hk | hk
    ·exact hall k h hk
    ·subst hk; exact of_decide_eq_false htw⟩ (show l.length - (i + 1) < l.length - i by omega) ⟨rfl, rfl, rfl, rfl, trivial⟩ rfl
 ·refine WP.nil ?_
  refine WP.next (WP.seq ?_)
  refine WP.condF rfl ?_; refine WP.exit (WP.thenE (WP.thenE (WP.hit (WP.next (WP.seq ?_)))))
  refine WP.region [0] rfl ?_; refine WP.mv rfl rfl ?_; refine WP.nil (WP.next (WP.ret ?_))
  refine WP.fn .ret (.inr rfl) (res1 rfl rfl) [(b, row 51 [.int .i64 p, .int .i64 pv, vn2])] (Imm.le_refl _) ?_; exact ⟨-1, rfl, ⟨fun h => absurd h (by decide), fun ⟨k, hk, he⟩ => absurd he (hall k hk (by omega))⟩, rfl, rfl⟩

theorem txn_ContainsFunc {I : Imm} {b : Nat} {l : List (Pr × Value)} {v vn2 : Value} {p pv : Int} (hv : RPrs I v l) (hln : l.length ≤ 140737488351232) : Spec Tryz.prog 124 [v, .func (.func 125) [].toArray [.pointer (some ⟨b, 0, none⟩)].toArray] I [(b, row 51 [.int .i64 p, .int .i64 pv, vn2])] (fun u J L => ∃ c : Bool, u = .bool c ∧ (c = true ↔ ∃ i, ∃ h : i < l.length, l[i].1.page = p) ∧ I = J ∧ L = [(b, row 51 [.int .i64 p, .int .i64 pv, vn2])]) := by
 refine Spec.of Tryz.func124 rfl Tryz.ntmps124 (Nat.le_of_ble_eq_true rfl) (fun F => ?_)
 try simp only [nf]
 dsimp only [argsEnv]
 refine WP.seq ?_; refine WP.region [0] rfl ?_; refine WP.mv rfl rfl ?_; refine WP.nil (WP.next (WP.seq ?_))
 refine WP.region [0, 1, 2, 3, 4] rfl ?_; iterate 2 refine WP.mv rfl rfl ?_
 refine WP.loud rfl rfl ?_; refine Op.cl (txn_IndexFunc hv hln (p := p) (pv := pv) (b := b) (vn2 := vn2)) rfl Tryz.func163 rfl rfl rfl rfl ?_; rintro v J L1 - ⟨k, rfl, hk, rfl, rfl⟩
 try simp only [nf]
 refine WP.vl rfl (Yld.geq rfl rfl rfl _ rfl) ?_; refine WP.mv rfl rfl ?_; refine WP.nil ?_; refine WP.sub [(0, _), (1, _), (4, _)] ?_ ⟨rfl, rfl, rfl, trivial⟩
 refine WP.next (WP.ret ?_)
 refine WP.fn .ret (.inr rfl) (res1 rfl rfl) [(b, row 51 [.int .i64 p, .int .i64 pv, vn2])] (Imm.le_refl _) ?_; exact ⟨_, rfl, (decide_eq_true_iff).trans hk, rfl, rfl⟩

theorem txn_may {I : Imm} {r : Pr} {vn : Value} (hr : RNodes I vn r.nodes) (hln : r.nodes.length ≤ 140737488351232) : Spec Tryz.prog 58 [.agg ([.int .i64 r.page, .int .i64 r.prev, vn]).toArray] I [] (fun v J L => ∃ c : Bool, v = .bool c ∧ (c = true ↔ r.may) ∧ I = J ∧ L = []) := by
 obtain ⟨nv, hn, hno⟩ := id hr.ex
 obtain ⟨An, cn, rfl, hcn⟩ := hn.slice'
 refine Spec.of Tryz.func58 rfl Tryz.ntmps58 (Nat.le_of_ble_eq_true rfl) (fun F => ?_)
 try simp only [nf]
 dsimp only [argsEnv]
 refine WP.seq ?_; refine WP.region [0, 1] rfl ?_; refine WP.loud rfl rfl ?_; refine Op.box rfl rfl rfl rfl rfl (fun b1 => ?_)
 refine WP.mv rfl rfl ?_; refine WP.nil (WP.next (WP.seq ?_))
 refine WP.region [0, 1, 2, 3, 4, 5, 6, 7, 8, 9, 10, 11, 12, 13, 14, 15, 16, 17, 18, 19, 20, 21] rfl ?_; refine WP.vl rfl (Yld.fieldAddr rfl ty_fd_51_0 rfl) ?_; refine WP.vl rfl (Yld.ld rfl ty_sc_3 rfl rfl) ?_; refine WP.loud rfl rfl ?_; refine Op.cl (txn_isPage (p := r.page)) rfl Tryz.func119 rfl rfl rfl rfl ?_; rintro v J L1 - ⟨rfl, rfl, rfl⟩
 try simp only [nf]
 by_cases hp : (decide (pageOk r.page)) = true
 ·try rw [hp]
  refine WP.mv rfl rfl ?_; refine WP.valG rfl rfl rfl rfl rfl rfl rfl (Yld.fieldAddr rfl ty_fd_51_1 rfl) ?_; refine WP.valG rfl rfl rfl rfl rfl rfl rfl (Yld.ld rfl ty_sc_3 rfl rfl) ?_; refine WP.splitG rfl rfl rfl rfl rfl rfl rfl (Yld.geq rfl rfl rfl) (fun h2 => ?_) (fun h2 => ?_)
  ·refine WP.vl rfl (Yld.pickT rfl rfl rfl) ?_
   refine WP.mv rfl rfl ?_; refine WP.valG rfl rfl rfl rfl rfl rfl rfl (Yld.fieldAddr rfl ty_fd_51_1 rfl) ?_; refine WP.valG rfl rfl rfl rfl rfl rfl rfl (Yld.ld rfl ty_sc_3 rfl rfl) ?_; refine WP.splitG rfl rfl rfl rfl rfl rfl rfl (Yld.leq rfl rfl rfl) (fun h3 => ?_) (fun h3 => ?_)
   ·refine WP.vl rfl (Yld.pickT rfl rfl rfl) ?_
    refine WP.mv rfl rfl ?_; refine WP.valG rfl rfl rfl rfl rfl rfl rfl (Yld.fieldAddr rfl ty_fd_51_2 rfl) ?_; refine WP.valG rfl rfl rfl rfl rfl rfl rfl (Yld.ld rfl ty_sc_41 rfl rfl) ?_; refine WP.valG rfl rfl rfl rfl rfl rfl rfl (Yld.fieldAddr rfl ty_fd_51_1 rfl) ?_; refine WP.valG rfl rfl rfl rfl rfl rfl rfl (Yld.ld rfl ty_sc_3 rfl rfl) ?_; refine WP.valG rfl rfl rfl rfl rfl rfl rfl (Yld.eql rfl rfl rfl _ rfl) ?_; refine WP.loudG rfl rfl rfl rfl rfl ?_; refine Op.cl (txn_chain hr hln (bsd := decide (r.prev = 0))) rfl Tryz.func120 rfl rfl rfl rfl ?_; rintro v J L1 - ⟨c, rfl, hc, rfl, rfl⟩
    try simp only [nf]
    refine WP.vl rfl (Yld.pickT rfl rfl rfl) ?_; refine WP.mv rfl rfl ?_; refine WP.nil ?_; refine WP.sub [(0, _), (1, _), (2, _)] ?_ ⟨rfl, rfl, rfl, trivial⟩
    refine WP.next (WP.ret ?_)
    refine WP.fn .ret (.inr rfl) (res1 rfl rfl) [] (Imm.le_refl _) ?_; exact ⟨c, rfl, hc.trans ⟨fun h => ⟨of_decide_eq_true hp, by omega, by omega, h⟩, fun h => h.2.2.2⟩, rfl, rfl⟩
   ·refine WP.vl rfl (Yld.pickT rfl rfl rfl) ?_
    refine WP.mv rfl rfl ?_; iterate 6 refine WP.passG rfl rfl rfl rfl rfl rfl rfl rfl ?_
    refine WP.vl rfl (Yld.pickF rfl rfl rfl) ?_; refine WP.mv rfl rfl ?_; refine WP.nil ?_; refine WP.sub [(0, _), (1, _), (2, _)] ?_ ⟨rfl, rfl, rfl, trivial⟩
    refine WP.next (WP.ret ?_)
    refine WP.fn .ret (.inr rfl) (res1 rfl rfl) [] (Imm.le_refl _) ?_; exact ⟨false, rfl, ⟨fun h => (by cases h), fun h => by have q1 := h.1; have q2 := h.2.1; have q3 := h.2.2.1; first | (exact absurd q1 (of_decide_eq_false hp)) | omega⟩, rfl, rfl⟩
  ·refine WP.vl rfl (Yld.pickT rfl rfl rfl) ?_
   refine WP.mv rfl rfl ?_; iterate 3 refine WP.passG rfl rfl rfl rfl rfl rfl rfl rfl ?_
   refine WP.vl rfl (Yld.pickF rfl rfl rfl) ?_; refine WP.mv rfl rfl ?_; iterate 6 refine WP.passG rfl rfl rfl rfl rfl rfl rfl rfl ?_
   refine WP.vl rfl (Yld.pickF rfl rfl rfl) ?_; refine WP.mv rfl rfl ?_; refine WP.nil ?_; refine WP.sub [(0, _), (1, _), (2, _)] ?_ ⟨rfl, rfl, rfl, trivial⟩
   refine WP.next (WP.ret ?_)
   refine WP.fn .ret (.inr rfl) (res1 rfl rfl) [] (Imm.le_refl _) ?_; exact ⟨false, rfl, ⟨fun h => (by cases h), fun h => by have q1 := h.1; have q2 := h.2.1; have q3 := h.2.2.1; first | (exact absurd q1 (of_decide_eq_false hp)) | omega⟩, rfl, rfl⟩
 ·have hp : (decide (pageOk r.page)) = false := eq_false_of_ne_true hp
  try rw [hp]
  refine WP.mv rfl rfl ?_; iterate 3 refine WP.passG rfl rfl rfl rfl rfl rfl rfl rfl ?_
  refine WP.vl rfl (Yld.pickF rfl rfl rfl) ?_; refine WP.mv rfl rfl ?_; iterate 3 refine WP.passG rfl rfl rfl rfl rfl rfl rfl rfl ?_
  refine WP.vl rfl (Yld.pickF rfl rfl rfl) ?_; refine WP.mv rfl rfl ?_; iterate 6 refine WP.passG rfl rfl rfl rfl rfl rfl rfl rfl ?_
  refine WP.vl rfl (Yld.pickF rfl rfl rfl) ?_; refine WP.mv rfl rfl ?_; refine WP.nil ?_; refine WP.sub [(0, _), (1, _), (2, _)] ?_ ⟨rfl, rfl, rfl, trivial⟩
  refine WP.next (WP.ret ?_)
  refine WP.fn .ret (.inr rfl) (res1 rfl rfl) [] (Imm.le_refl _) ?_; exact ⟨false, rfl, ⟨fun h => (by cases h), fun h => by have q1 := h.1; have q2 := h.2.1; have q3 := h.2.2.1; first | (exact absurd q1 (of_decide_eq_false hp)) | omega⟩, rfl, rfl⟩

theorem txn_mayGroup {I : Imm} {l : List (Pr × Value)} {v : Value} (hv : RPrs I v l) (hln : l.length ≤ 140737488351232) (hnl : ∀ x ∈ l, x.1.nodes.length ≤ 140737488351232) : Spec Tryz.prog 67 [v] I [] (fun u J L => ∃ c : Bool, u = .bool c ∧ (c = true ↔ mayG (prs l)) ∧ I = J ∧ L = []) := by
 obtain ⟨Ap, cp, rfl, hcp, _, _⟩ := id hv.rd
 refine Spec.of Tryz.func67 rfl Tryz.ntmps67 (Nat.le_of_ble_eq_true rfl) (fun F => ?_)
 try simp only [nf]
 dsimp only [argsEnv]
 refine WP.seq ?_; refine WP.region [0] rfl ?_; refine WP.mv rfl rfl ?_; refine WP.nil (WP.next (WP.seq (WP.seq ?_)))
 refine WP.region [0, 1, 2, 3, 4, 5, 6, 7] rfl ?_; refine WP.mv rfl rfl ?_; refine WP.vl rfl (Yld.len rfl ty_sl_52 rfl) ?_; refine WP.split rfl rfl rfl rfl (Yld.lss rfl rfl rfl) (fun h1 => ?_) (fun h1 => ?_)
 ·refine WP.mv rfl rfl ?_
  iterate 3 refine WP.passG rfl rfl rfl rfl rfl rfl rfl rfl ?_
  refine WP.vl rfl (Yld.pickT rfl rfl rfl) ?_; refine WP.nil ?_; refine WP.sub [(0, _), (2, _), (14, _)] ?_ ⟨rfl, rfl, rfl, trivial⟩
  refine WP.next ?_; refine WP.condT rfl ?_; refine WP.seq ?_; refine WP.region [0] rfl ?_; refine WP.mv rfl rfl ?_; refine WP.nil (WP.next (WP.ret ?_))
  refine WP.fn .ret (.inr rfl) (res1 rfl rfl) [] (Imm.le_refl _) ?_; exact ⟨false, rfl, ⟨fun h => (by cases h), fun h => by have h1 := h.1; have h2 := h.2.1; rw [prs_len] at h1 h2; omega⟩, rfl, rfl⟩
 ·refine WP.mv rfl rfl ?_
  refine WP.valG rfl rfl rfl rfl rfl rfl rfl (Yld.move rfl rfl) ?_; refine WP.valG rfl rfl rfl rfl rfl rfl rfl (Yld.len rfl ty_sl_52 rfl) ?_; refine WP.splitG rfl rfl rfl rfl rfl rfl rfl (Yld.gtr rfl rfl rfl) (fun h2 => ?_) (fun h2 => ?_)
  ·refine WP.vl rfl (Yld.pickF rfl rfl rfl) ?_
   refine WP.nil ?_; refine WP.sub [(0, _), (2, _), (14, _)] ?_ ⟨rfl, rfl, rfl, trivial⟩
   refine WP.next ?_; refine WP.condT rfl ?_; refine WP.seq ?_; refine WP.region [0] rfl ?_; refine WP.mv rfl rfl ?_; refine WP.nil (WP.next (WP.ret ?_))
   refine WP.fn .ret (.inr rfl) (res1 rfl rfl) [] (Imm.le_refl _) ?_; exact ⟨false, rfl, ⟨fun h => (by cases h), fun h => by have h1 := h.1; have h2 := h.2.1; rw [prs_len] at h1 h2; omega⟩, rfl, rfl⟩
  ·refine WP.vl rfl (Yld.pickF rfl rfl rfl) ?_
   refine WP.nil ?_; refine WP.sub [(0, _), (2, _), (14, _)] ?_ ⟨rfl, rfl, rfl, trivial⟩
   refine WP.next ?_; refine WP.condF rfl ?_; refine WP.skip (WP.next (WP.seq (WP.seq ?_)))
   refine WP.region [0, 1, 2] rfl ?_; refine WP.mv rfl rfl ?_; refine WP.vl rfl (Yld.len rfl ty_sl_52 rfl) ?_; refine WP.mv rfl rfl ?_; refine WP.nil (WP.next (WP.block ?_))
   refine WP.loop (X := Nat) (fun i : Nat => [(0, .slice Ap l.length cp), (15, .slice Ap l.length cp), (16, .int .i64 (l.length : Int)), (17, .int .i64 (i : Int))]) (fun _ => I) (fun _ : Nat => F) (fun i : Nat => i ≤ l.length ∧ ∀ k (h : k < (prs l).length), k < i → gAt (prs l) k h) (fun i => l.length - i) 0 ⟨Nat.zero_le _, fun k h hk => absurd hk (Nat.not_lt_zero _)⟩ ⟨rfl, rfl, rfl, rfl, trivial⟩ rfl zP ?_; rintro i ⟨hle, hall⟩
   try dsimp only
   try simp only [nf]
   refine WP.seq ?_; refine WP.region [0] rfl ?_; refine WP.split rfl rfl rfl rfl (Yld.lss rfl rfl rfl) (fun hlt => ?_) (fun hlt => ?_)
   ·have hi : i < l.length := by omega
    obtain ⟨bl, kl, Tl, fl, arl, ea, hbl, hcl⟩ := hv.at_ hi
    have hr1 : l[i].2.oneCell' = true := by obtain ⟨nv, ⟨A, c, e, _⟩, _⟩ := (hv.el _ (List.getElem_mem hi)).ex; rw [e]; rfl
    obtain ⟨nvi, hni, hnoi⟩ := id (hv.el _ (List.getElem_mem hi)).ex
    have hlen := hnl _ (List.getElem_mem hi)
    refine WP.nil (WP.next (WP.seq ?_))
    refine WP.condT rfl ?_; refine WP.skip (WP.next (WP.seq (WP.block (WP.seq ?_))))
    refine WP.region [0, 1, 2, 3, 4, 5] rfl ?_; refine WP.mv rfl rfl ?_; refine WP.vl rfl (Yld.indexAddr (i := i) rfl ty_sl_52 (congrArg (fun a => some (Value.slice a l.length cp)) ea) rfl hi) ?_; refine WP.vl rfl (Yld.loadAggC (vs := [.int .i64 l[i].1.page, .int .i64 l[i].1.prev, l[i].2]) rfl ty_ag_51 rfl (There.i hbl) hcl rfl) ?_; refine WP.loud rfl rfl ?_; refine Op.alloc rfl rfl rfl ty_zr_51 (fun b4 => ?_)
    refine WP.mv rfl rfl ?_; refine WP.loud rfl rfl ?_; refine Op.sA rfl rfl ty_sz_51 rfl rfl rfl (by show (true && (true && (l[i].2.oneCell' && true))) = true; rw [hr1]; rfl) rfl ?_; refine WP.nil ?_; refine WP.sub [(0, _), (3, _), (4, _), (15, _), (16, _), (17, _), (18, _)] ?_ ⟨rfl, rfl, rfl, rfl, rfl, rfl, rfl, trivial⟩
    refine WP.next ?_; refine WP.cut (X := Bool) (fun g : Bool => [(0, .slice Ap l.length cp), (15, .slice Ap l.length cp), (16, .int .i64 (l.length : Int)), (17, .int .i64 (i : Int)), (3, .int .i64 (i : Int)), (4, .pointer (some ⟨b4, 0, none⟩)), (5, .bool g)]) (fun _ => I) (fun _ : Bool => (b4, row 51 [.int .i64 l[i].1.page, .int .i64 l[i].1.prev, l[i].2]) :: F) (fun g : Bool => g = true ↔ (0 < i ∧ l[i].1.nodes = [] ∧ pageOk l[i].1.page)) ?_ ?_
    ·skip
     refine WP.region [0, 1, 2, 3, 4, 5, 6, 7, 8, 9, 10, 11, 12, 13] rfl ?_; refine WP.mv rfl rfl ?_; refine WP.split rfl rfl rfl rfl (Yld.gtr rfl rfl rfl) (fun g1 => ?_) (fun g1 => ?_)
     ·refine WP.mv rfl rfl ?_
      refine WP.valG rfl rfl rfl rfl rfl rfl rfl (Yld.fieldAddr rfl ty_fd_51_2 rfl) ?_; refine WP.valG rfl rfl rfl rfl rfl rfl rfl (Yld.ld (v := l[i].2) rfl ty_sc_41 rfl rfl) ?_; refine WP.valG rfl rfl rfl rfl rfl rfl rfl (Yld.lenR hni rfl ty_sl_41 rfl) ?_; refine WP.splitG rfl rfl rfl rfl rfl rfl rfl (Yld.eql rfl rfl rfl) (fun g2 => ?_) (fun g2 => ?_)
      ·refine WP.vl rfl (Yld.pickT rfl rfl rfl) ?_
       refine WP.mv rfl rfl ?_; refine WP.valG rfl rfl rfl rfl rfl rfl rfl (Yld.fieldAddr rfl ty_fd_51_0 rfl) ?_; refine WP.valG rfl rfl rfl rfl rfl rfl rfl (Yld.ld rfl ty_sc_3 rfl rfl) ?_; refine WP.loudG rfl rfl rfl rfl rfl ?_; refine Op.cl (txn_isPage (p := l[i].1.page)) rfl Tryz.func119 rfl rfl rfl rfl ?_; rintro v J L1 - ⟨rfl, rfl, rfl⟩
       try simp only [nf]
       by_cases g3 : (decide (pageOk l[i].1.page)) = true
       ·try rw [g3]
        refine WP.vl rfl (Yld.pickT rfl rfl rfl) ?_; refine WP.mv rfl rfl ?_; refine WP.nil ?_; refine WP.sub [(0, _), (3, _), (4, _), (5, _), (15, _), (16, _), (17, _), (18, _)] ?_ ⟨rfl, rfl, rfl, rfl, rfl, rfl, rfl, rfl, trivial⟩
        exact WP.mt true ⟨fun _ => ⟨by omega, List.length_eq_zero_iff.1 (by omega), of_decide_eq_true g3⟩, fun _ => rfl⟩ ⟨rfl, rfl, rfl, rfl, rfl, rfl, rfl, trivial⟩ rfl
       ·have g3 : (decide (pageOk l[i].1.page)) = false := eq_false_of_ne_true g3
        try rw [g3]
        refine WP.vl rfl (Yld.pickT rfl rfl rfl) ?_; refine WP.mv rfl rfl ?_; refine WP.nil ?_; refine WP.sub [(0, _), (3, _), (4, _), (5, _), (15, _), (16, _), (17, _), (18, _)] ?_ ⟨rfl, rfl, rfl, rfl, rfl, rfl, rfl, rfl, trivial⟩
        exact WP.mt false ⟨fun h => (by cases h), fun h => by have q1 := h.1; have q2 := List.length_eq_zero_iff.2 h.2.1; have q3 := h.2.2; first | (exact absurd q3 (of_decide_eq_false g3)) | omega⟩ ⟨rfl, rfl, rfl, rfl, rfl, rfl, rfl, trivial⟩ rfl
      ·refine WP.vl rfl (Yld.pickT rfl rfl rfl) ?_
       refine WP.mv rfl rfl ?_; iterate 3 refine WP.passG rfl rfl rfl rfl rfl rfl rfl rfl ?_
       refine WP.vl rfl (Yld.pickF rfl rfl rfl) ?_; refine WP.mv rfl rfl ?_; refine WP.nil ?_; refine WP.sub [(0, _), (3, _), (4, _), (5, _), (15, _), (16, _), (17, _), (18, _)] ?_ ⟨rfl, rfl, rfl, rfl, rfl, rfl, rfl, rfl, trivial⟩
       exact WP.mt false ⟨fun h => (by cases h), fun h => by have q1 := h.1; have q2 := List.length_eq_zero_iff.2 h.2.1; have q3 := h.2.2; first | (exact absurd q3 (of_decide_eq_false g3)) | omega⟩ ⟨rfl, rfl, rfl, rfl, rfl, rfl, rfl, trivial⟩ rfl
     ·refine WP.mv rfl rfl ?_
      iterate 4 refine WP.passG rfl rfl rfl rfl rfl rfl rfl rfl ?_
      refine WP.vl rfl (Yld.pickF rfl rfl rfl) ?_; refine WP.mv rfl rfl ?_; iterate 3 refine WP.passG rfl rfl rfl rfl rfl rfl rfl rfl ?_
      refine WP.vl rfl (Yld.pickF rfl rfl rfl) ?_; refine WP.mv rfl rfl ?_; refine WP.nil ?_; refine WP.sub [(0, _), (3, _), (4, _), (5, _), (15, _), (16, _), (17, _), (18, _)] ?_ ⟨rfl, rfl, rfl, rfl, rfl, rfl, rfl, rfl, trivial⟩
      exact WP.mt false ⟨fun h => (by cases h), fun h => by have q1 := h.1; have q2 := List.length_eq_zero_iff.2 h.2.1; have q3 := h.2.2; first | (exact absurd q3 (of_decide_eq_false g3)) | omega⟩ ⟨rfl, rfl, rfl, rfl, rfl, rfl, rfl, trivial⟩ rfl
    ·rintro g hg
     refine WP.seq ?_; refine WP.region [0, 1, 2, 3, 4, 5] rfl ?_; iterate 2 refine WP.mv rfl rfl ?_
     refine WP.vl rfl (Yld.slice (h := i) rfl ty_sl_52 rfl Env.lim0 (Env.limS rfl) (Nat.zero_le _) (by omega)) ?_; refine WP.vl rfl (Yld.makeFunc rfl (vs := []) (us := [_]) rfl rfl) ?_; refine WP.loud rfl rfl ?_; refine Op.cl (txn_ContainsFunc (hv.sub (Nat.zero_le i) (by omega)) (by rw [List.length_take, List.length_drop]; omega) (p := l[i].1.page) (pv := l[i].1.prev) (b := b4) (vn2 := l[i].2)) rfl Tryz.func124 rfl rfl rfl rfl ?_; rintro v J L1 - ⟨c, rfl, hc, rfl, rfl⟩
     try simp only [nf]
     by_cases hc1 : c = true
     ·try rw [hc1]
      refine WP.mv rfl rfl ?_; refine WP.nil ?_; refine WP.sub [(0, _), (3, _), (4, _), (5, _), (6, _), (15, _), (16, _), (17, _)] ?_ ⟨rfl, rfl, rfl, rfl, rfl, rfl, rfl, rfl, trivial⟩
      refine WP.next (WP.seq ?_)
      refine WP.region [0, 1, 2, 3, 4, 5, 6, 7, 8, 9, 10, 11, 12, 13, 14] rfl ?_; iterate 2 refine WP.mv rfl rfl ?_
      iterate 3 refine WP.passG rfl rfl rfl rfl rfl rfl rfl rfl ?_
      refine WP.vl rfl (Yld.pickT rfl rfl rfl) ?_; refine WP.mv rfl rfl ?_; iterate 7 refine WP.passG rfl rfl rfl rfl rfl rfl rfl rfl ?_
      refine WP.vl rfl (Yld.pickT rfl rfl rfl) ?_; refine WP.nil ?_; refine WP.sub [(0, _), (3, _), (4, _), (5, _), (6, _), (15, _), (16, _), (17, _), (54, _)] ?_ ⟨rfl, rfl, rfl, rfl, rfl, rfl, rfl, rfl, rfl, trivial⟩
      refine WP.next ?_; refine WP.condT rfl ?_; refine WP.seq ?_; refine WP.region [0] rfl ?_; refine WP.mv rfl rfl ?_; refine WP.nil (WP.next (WP.ret ?_))
      refine WP.fn .ret (.inr rfl) (res1 rfl rfl) [] (Imm.le_refl _) ?_; exact ⟨false, rfl, ⟨fun h => (by cases h), fun h => by
       obtain ⟨q1, q2, q3⟩ := (gAt_prs hi (by rw [prs_len]; exact hi)).1 (h.2.2 i (by rw [prs_len]; exact hi))
       obtain ⟨k, hk, he⟩ := hc.1 hc1; rw [List.length_take, List.length_drop] at hk; exact absurd (by simpa using he) (q1 k (by omega))⟩, rfl, rfl⟩
     ·have hc1 : c = false := eq_false_of_ne_true hc1
      try rw [hc1]
      refine WP.mv rfl rfl ?_; refine WP.nil ?_; refine WP.sub [(0, _), (3, _), (4, _), (5, _), (6, _), (15, _), (16, _), (17, _)] ?_ ⟨rfl, rfl, rfl, rfl, rfl, rfl, rfl, rfl, trivial⟩
      refine WP.next (WP.seq ?_)
      refine WP.region [0, 1, 2, 3, 4, 5, 6, 7, 8, 9, 10, 11, 12, 13, 14] rfl ?_; iterate 2 refine WP.mv rfl rfl ?_
      refine WP.valG rfl rfl rfl rfl rfl rfl rfl (Yld.fieldAddr rfl ty_fd_51_1 rfl) ?_; refine WP.valG rfl rfl rfl rfl rfl rfl rfl (Yld.ld rfl ty_sc_3 rfl rfl) ?_; refine WP.splitG rfl rfl rfl rfl rfl rfl rfl (Yld.neq rfl rfl rfl) (fun h3 => ?_) (fun h3 => ?_)
      ·refine WP.vl rfl (Yld.pickF rfl rfl rfl) ?_
       refine WP.mv rfl rfl ?_; iterate 7 refine WP.passG rfl rfl rfl rfl rfl rfl rfl rfl ?_
       refine WP.vl rfl (Yld.pickT rfl rfl rfl) ?_; refine WP.nil ?_; refine WP.sub [(0, _), (3, _), (4, _), (5, _), (6, _), (15, _), (16, _), (17, _), (54, _)] ?_ ⟨rfl, rfl, rfl, rfl, rfl, rfl, rfl, rfl, rfl, trivial⟩
       refine WP.next ?_; refine WP.condT rfl ?_; refine WP.seq ?_; refine WP.region [0] rfl ?_; refine WP.mv rfl rfl ?_; refine WP.nil (WP.next (WP.ret ?_))
       refine WP.fn .ret (.inr rfl) (res1 rfl rfl) [] (Imm.le_refl _) ?_; exact ⟨false, rfl, ⟨fun h => (by cases h), fun h => by
        obtain ⟨q1, q2, q3⟩ := (gAt_prs hi (by rw [prs_len]; exact hi)).1 (h.2.2 i (by rw [prs_len]; exact hi))
        exact absurd q2 h3⟩, rfl, rfl⟩
      ·refine WP.vl rfl (Yld.pickF rfl rfl rfl) ?_
       refine WP.mv rfl rfl ?_; refine WP.valG rfl rfl rfl rfl rfl rfl rfl (Yld.move rfl rfl) ?_; by_cases hg1 : g = true
       ·try rw [hg1]
        refine WP.valG rfl rfl rfl rfl rfl rfl rfl (Yld.not rfl rfl) ?_; refine WP.valG rfl rfl rfl rfl rfl rfl rfl (Yld.move rfl rfl) ?_; iterate 3 refine WP.passG rfl rfl rfl rfl rfl rfl rfl rfl ?_
        refine WP.valG rfl rfl rfl rfl rfl rfl rfl (Yld.pickF rfl rfl rfl) ?_; refine WP.vl rfl (Yld.pickF rfl rfl rfl) ?_; refine WP.nil ?_; refine WP.sub [(0, _), (3, _), (4, _), (5, _), (6, _), (15, _), (16, _), (17, _), (54, _)] ?_ ⟨rfl, rfl, rfl, rfl, rfl, rfl, rfl, rfl, rfl, trivial⟩
        refine WP.next ?_; refine WP.condF rfl ?_; refine WP.skip (WP.leave (WP.next ?_))
        refine WP.region [0, 1] rfl ?_; refine WP.vl rfl (Yld.add64 rfl rfl rfl (by omega)) ?_; refine WP.mv rfl rfl ?_; refine WP.nil ?_; refine WP.sub [(0, _), (3, _), (4, _), (5, _), (6, _), (15, _), (16, _), (17, _), (54, _)] ?_ ⟨rfl, rfl, rfl, rfl, rfl, rfl, rfl, rfl, rfl, trivial⟩
        exact WP.ag (i + 1) ⟨hi, fun k h hk => by
         rcases Nat.lt_succ_iff_lt_or_eq.1 hk with hk | hk
         ·exact hall k h hk
         ·subst hk; exact (gAt_prs hi h).2 ⟨fun j hj he => (by
           have := hc.2 ⟨j, (by rw [List.length_take, List.length_drop]; omega), (by simpa using he)⟩
           rw [this] at hc1; cases hc1), by omega, .inl (hg.1 hg1)⟩⟩ (show l.length - (i + 1) < l.length - i by omega) ⟨rfl, rfl, rfl, rfl, trivial⟩ rfl
       ·have hg1 : g = false := eq_false_of_ne_true hg1
        try rw [hg1]
        refine WP.valG rfl rfl rfl rfl rfl rfl rfl (Yld.not rfl rfl) ?_; refine WP.valG rfl rfl rfl rfl rfl rfl rfl (Yld.move rfl rfl) ?_; refine WP.valG rfl rfl rfl rfl rfl rfl rfl (Yld.ldg (vs := [.int .i64 l[i].1.page, .int .i64 l[i].1.prev, l[i].2]) rfl ty_ag_51 rfl rfl rfl) ?_; refine WP.loudG rfl rfl rfl rfl rfl ?_; refine Op.cl (txn_may (hv.el _ (List.getElem_mem hi)) hlen) rfl Tryz.func58 rfl rfl rfl rfl ?_; rintro v J L1 - ⟨c2, rfl, hc2, rfl, rfl⟩
        try simp only [nf]
        by_cases hc3 : c2 = true
        ·try rw [hc3]
         refine WP.valG rfl rfl rfl rfl rfl rfl rfl (Yld.not rfl rfl) ?_; refine WP.valG rfl rfl rfl rfl rfl rfl rfl (Yld.pickT rfl rfl rfl) ?_; refine WP.vl rfl (Yld.pickF rfl rfl rfl) ?_; refine WP.nil ?_; refine WP.sub [(0, _), (3, _), (4, _), (5, _), (6, _), (15, _), (16, _), (17, _), (54, _)] ?_ ⟨rfl, rfl, rfl, rfl, rfl, rfl, rfl, rfl, rfl, trivial⟩
         refine WP.next ?_; refine WP.condF rfl ?_; refine WP.skip (WP.leave (WP.next ?_))
         refine WP.region [0, 1] rfl ?_; refine WP.vl rfl (Yld.add64 rfl rfl rfl (by omega)) ?_; refine WP.mv rfl rfl ?_; refine WP.nil ?_; refine WP.sub [(0, _), (3, _), (4, _), (5, _), (6, _), (15, _), (16, _), (17, _), (54, _)] ?_ ⟨rfl, rfl, rfl, rfl, rfl, rfl, rfl, rfl, rfl, trivial⟩
         exact WP.ag (i + 1) ⟨hi, fun k h hk => by
          rcases Nat.lt_succ_iff_lt_or_eq.1 hk with hk | hk
          ·exact hall k h hk
          ·subst hk; exact (gAt_prs hi h).2 ⟨fun j hj he => (by
            have := hc.2 ⟨j, (by rw [List.length_take, List.length_drop]; omega), (by simpa using he)⟩
            rw [this] at hc1; cases hc1), by omega, .inr (hc2.1 hc3)⟩⟩ (show l.length - (i + 1) < l.length - i by omega) ⟨rfl, rfl, rfl, rfl, trivial⟩ rfl
        ·have hc3 : c2 = false := eq_false_of_ne_true hc3
         try rw [hc3]
         refine WP.valG rfl rfl rfl rfl rfl rfl rfl (Yld.not rfl rfl) ?_; refine WP.valG rfl rfl rfl rfl rfl rfl rfl (Yld.pickT rfl rfl rfl) ?_; refine WP.vl rfl (Yld.pickF rfl rfl rfl) ?_; refine WP.nil ?_; refine WP.sub [(0, _), (3, _), (4, _), (5, _), (6, _), (15, _), (16, _), (17, _), (54, _)] ?_ ⟨rfl, rfl, rfl, rfl, rfl, rfl, rfl, rfl, rfl, trivial⟩
         refine WP.next ?_; refine WP.condT rfl ?_; refine WP.seq ?_; refine WP.region [0] rfl ?_; refine WP.mv rfl rfl ?_; refine WP.nil (WP.next (WP.ret ?_))
         refine WP.fn .ret (.inr rfl) (res1 rfl rfl) [] (Imm.le_refl _) ?_; exact ⟨false, rfl, ⟨fun h => (by cases h), fun h => by
          obtain ⟨q1, q2, q3⟩ := (gAt_prs hi (by rw [prs_len]; exact hi)).1 (h.2.2 i (by rw [prs_len]; exact hi))
          rcases q3 with q3 | q3; (rw [hg.2 q3] at hg1; cases hg1); (rw [hc2.2 q3] at hc3; cases hc3)⟩, rfl, rfl⟩
   ·refine WP.nil ?_
    refine WP.next (WP.seq ?_)
    refine WP.condF rfl ?_; refine WP.exit (WP.thenE (WP.thenE (WP.hit (WP.next (WP.seq ?_)))))
    refine WP.region [0] rfl ?_; refine WP.mv rfl rfl ?_; refine WP.nil (WP.next (WP.ret ?_))
    refine WP.fn .ret (.inr rfl) (res1 rfl rfl) [] (Imm.le_refl _) ?_; exact ⟨true, rfl, ⟨fun _ => ⟨by rw [prs_len]; omega, by rw [prs_len]; omega, fun k hk => hall k hk (by rw [prs_len] at hk; omega)⟩, fun _ => rfl⟩, rfl, rfl⟩

theorem txn_layNodes {I : Imm} {q : Nat} {bs : List UInt8} {L : Chunks} (hq : IsWr q bs L) {vn : Value} {l : List (Bool × List UInt8)} (hv : RNodes I vn l) (hln : l.length ≤ 140737488351232) (hb : bs.length + ((numB l.length).length + (l.flatMap nodeB).length) ≤ 140737488355328) : Spec Tryz.prog 61 [.pointer (some ⟨q, 0, none⟩), vn] I L (fun r J L' => r = .tuple #[] ∧ I = J ∧ IsWr q (bs ++ nodesB l) L') := by
 obtain ⟨nv, hn, hno⟩ := hv.ex
 obtain ⟨An, cn, rfl, hcn⟩ := hn.slice'
 refine Spec.of Tryz.func61 rfl Tryz.ntmps61 (Nat.le_of_ble_eq_true rfl) (fun F => ?_)
 try simp only [nf]
 dsimp only [argsEnv]
 refine WP.seq ?_; refine WP.region [0, 1, 2, 3, 4] rfl ?_; iterate 2 refine WP.mv rfl rfl ?_
 refine WP.vl rfl (Yld.len rfl ty_sl_41 rfl) ?_; refine WP.vl rfl (Yld.conv64u l.length rfl ty_un_3 ty_ik_40 rfl (by omega)) ?_; refine WP.loud rfl rfl ?_; refine Op.cl (code_NumW hq (by omega) (by omega)) rfl Tryz.func60 rfl rfl rfl rfl ?_; rintro v J L1 - ⟨rfl, rfl, hq⟩
 try simp only [nf]
 refine WP.nil ?_; refine WP.sub [(0, _), (1, _)] ?_ ⟨rfl, rfl, trivial⟩
 refine WP.next (WP.seq ?_)
 refine WP.region [0, 1, 2] rfl ?_; refine WP.mv rfl rfl ?_; refine WP.vl rfl (Yld.len rfl ty_sl_41 rfl) ?_; refine WP.mv rfl rfl ?_; refine WP.nil (WP.next (WP.block ?_))
 refine WP.loop (X := Nat × Chunks) (fun t : Nat × Chunks => [(0, .pointer (some ⟨q, 0, none⟩)), (12, .slice An l.length cn), (13, .int .i64 (l.length : Int)), (14, .int .i64 (t.1 : Int))]) (fun _ => I) (fun t : Nat × Chunks => t.2 ++ F) (fun t : Nat × Chunks => t.1 ≤ l.length ∧ IsWr q (bs ++ (numB l.length ++ (l.take t.1).flatMap nodeB)) t.2) (fun t => l.length - t.1) (0, L1) ⟨Nat.zero_le _, (by simpa using hq)⟩ ⟨rfl, rfl, rfl, rfl, trivial⟩ rfl zP ?_; rintro ⟨i, Lx⟩ ⟨hle, hq⟩; dsimp only at hle hq
 try dsimp only
 try simp only [nf]
 refine WP.seq ?_; refine WP.region [0] rfl ?_; refine WP.split rfl rfl rfl rfl (Yld.lss rfl rfl rfl) (fun hlt => ?_) (fun hlt => ?_)
 ·have hni : i < l.length := by omega
  have hin : i < nv.length := by rw [hno.len]; exact hni
  obtain ⟨d, hd1, hd2⟩ := hno.at_ i _ (List.getElem?_eq_getElem hin)
  obtain ⟨Ad, cd, hvd, hcd, _⟩ := id hd2
  obtain ⟨bn, kn, Tn, frn, arn, rfl, hbn, hseg, _⟩ := hn.elem hni
  have hf := flat_seg ndV_len hin []
  rw [List.append_nil, Nat.zero_add] at hf
  rw [hf] at hseg
  have hl1 : l[i].1 = nv[i].1 := by rw [List.getElem?_eq_getElem hni] at hd1; injection hd1 with hd1; rw [hd1]
  have hl2 : l[i].2 = d := by rw [List.getElem?_eq_getElem hni] at hd1; injection hd1 with hd1; rw [hd1]
  have hpre := flat_pre nodeB hni
  have hnb : (nodeB l[i]).length = (numB (if nv[i].1 then 1 else 0)).length + ((numB d.length).length + d.length) := by unfold nodeB; rw [hl1, hl2, List.length_append, List.length_append]
  refine WP.nil (WP.next (WP.seq ?_))
  refine WP.condT rfl ?_; refine WP.skip (WP.next (WP.seq (WP.block (WP.seq ?_))))
  refine WP.region [0, 1, 2, 3] rfl ?_; refine WP.vl rfl (Yld.indexAddr (i := i) rfl ty_sl_41 rfl rfl hni) ?_; refine WP.vl rfl (Yld.loadAggC rfl ty_ag_63 rfl (There.i hbn) hseg rfl) ?_; refine WP.loud rfl rfl ?_; refine Op.alloc rfl rfl rfl ty_zr_63 (fun b5 => ?_)
  refine WP.loud rfl rfl ?_; refine Op.sA rfl rfl ty_sz_63 rfl rfl rfl (by simp only [ndV, hvd]; rfl) rfl ?_; refine WP.nil ?_; refine WP.sub [(0, _), (5, _), (12, _), (13, _), (14, _), (15, _)] ?_ ⟨rfl, rfl, rfl, rfl, rfl, rfl, trivial⟩
  refine WP.next (WP.seq ?_)
  refine WP.region [0] rfl ?_; refine WP.mv rfl rfl ?_; refine WP.nil (WP.next (WP.seq (WP.seq ?_)))
  refine WP.region [0, 1] rfl ?_; refine WP.vl rfl (Yld.fieldAddr rfl ty_fd_63_0 rfl) ?_; refine WP.splitB rfl rfl rfl rfl (Yld.ld rfl ty_sc_4 rfl rfl) (fun hb => ?_) (fun hb => ?_)
  ·refine WP.nil ?_
   refine WP.sub [(0, _), (5, _), (6, _), (12, _), (13, _), (14, _), (15, _), (19, _)] ?_ ⟨rfl, rfl, rfl, rfl, rfl, rfl, rfl, rfl, trivial⟩
   refine WP.next ?_; refine WP.condT rfl ?_; refine WP.region [0] rfl ?_; refine WP.mv rfl rfl ?_; refine WP.nil (WP.next (WP.seq ?_))
   refine WP.region [0, 1, 2] rfl ?_; iterate 2 refine WP.mv rfl rfl ?_
   refine WP.loud rfl rfl ?_; refine Op.cl (code_NumW (n := 1) hq (by decide) (by rw [hb] at hnb; simp only [List.length_append] at *; simp only [if_true, Bool.false_eq_true, if_false] at hnb; omega)) rfl Tryz.func60 rfl rfl rfl rfl ?_; rintro v J L7 - ⟨rfl, rfl, hq⟩
   try simp only [nf]
   refine WP.nil ?_; refine WP.sub [(0, _), (5, _), (6, _), (12, _), (13, _), (14, _), (15, _), (19, _)] ?_ ⟨rfl, rfl, rfl, rfl, rfl, rfl, rfl, rfl, trivial⟩
   refine WP.next ?_; refine WP.region [0, 1, 2, 3] rfl ?_; refine WP.mv rfl rfl ?_; refine WP.vl rfl (Yld.fieldAddr rfl ty_fd_63_1 rfl) ?_; refine WP.vl rfl (Yld.ld (v := nv[i].2) rfl ty_sc_49 rfl rfl) ?_; refine WP.loud rfl rfl ?_; refine Op.cl (code_Bytes hq hd2 (by rw [hb] at hnb; simp only [List.length_append] at *; simp only [if_true, Bool.false_eq_true, if_false] at hnb; omega)) rfl Tryz.func122 rfl rfl rfl rfl ?_; rintro v J L8 - ⟨rfl, rfl, hq⟩
   try simp only [nf]
   refine WP.nil ?_; refine WP.sub [(0, _), (5, _), (6, _), (12, _), (13, _), (14, _), (15, _), (19, _)] ?_ ⟨rfl, rfl, rfl, rfl, rfl, rfl, rfl, rfl, trivial⟩
   refine WP.leave (WP.next ?_)
   refine WP.region [0, 1] rfl ?_; refine WP.vl rfl (Yld.add64 rfl rfl rfl (by omega)) ?_; refine WP.mv rfl rfl ?_; refine WP.nil ?_; refine WP.sub [(0, _), (5, _), (6, _), (12, _), (13, _), (14, _), (15, _), (19, _)] ?_ ⟨rfl, rfl, rfl, rfl, rfl, rfl, rfl, rfl, trivial⟩
   exact WP.ag (i + 1, L8) ⟨hni, (by rw [flat_succ nodeB hni]; have e : nodeB l[i] = numB (if nv[i].1 then 1 else 0) ++ (numB d.length ++ d) := (by unfold nodeB; rw [hl1, hl2]); rw [e, hb]; simpa using hq)⟩ (show l.length - (i + 1) < l.length - i by omega) ⟨rfl, rfl, rfl, rfl, trivial⟩ rfl
  ·refine WP.nil ?_
   refine WP.sub [(0, _), (5, _), (6, _), (12, _), (13, _), (14, _), (15, _), (19, _)] ?_ ⟨rfl, rfl, rfl, rfl, rfl, rfl, rfl, rfl, trivial⟩
   refine WP.next ?_; refine WP.condF rfl ?_; refine WP.skip (WP.next (WP.seq ?_))
   refine WP.region [0, 1, 2] rfl ?_; iterate 2 refine WP.mv rfl rfl ?_
   refine WP.loud rfl rfl ?_; refine Op.cl (code_NumW (n := 0) hq (by decide) (by rw [hb] at hnb; simp only [List.length_append] at *; simp only [if_true, Bool.false_eq_true, if_false] at hnb; omega)) rfl Tryz.func60 rfl rfl rfl rfl ?_; rintro v J L7 - ⟨rfl, rfl, hq⟩
   try simp only [nf]
   refine WP.nil ?_; refine WP.sub [(0, _), (5, _), (6, _), (12, _), (13, _), (14, _), (15, _), (19, _)] ?_ ⟨rfl, rfl, rfl, rfl, rfl, rfl, rfl, rfl, trivial⟩
   refine WP.next ?_; refine WP.region [0, 1, 2, 3] rfl ?_; refine WP.mv rfl rfl ?_; refine WP.vl rfl (Yld.fieldAddr rfl ty_fd_63_1 rfl) ?_; refine WP.vl rfl (Yld.ld (v := nv[i].2) rfl ty_sc_49 rfl rfl) ?_; refine WP.loud rfl rfl ?_; refine Op.cl (code_Bytes hq hd2 (by rw [hb] at hnb; simp only [List.length_append] at *; simp only [if_true, Bool.false_eq_true, if_false] at hnb; omega)) rfl Tryz.func122 rfl rfl rfl rfl ?_; rintro v J L8 - ⟨rfl, rfl, hq⟩
   try simp only [nf]
   refine WP.nil ?_; refine WP.sub [(0, _), (5, _), (6, _), (12, _), (13, _), (14, _), (15, _), (19, _)] ?_ ⟨rfl, rfl, rfl, rfl, rfl, rfl, rfl, rfl, trivial⟩
   refine WP.leave (WP.next ?_)
   refine WP.region [0, 1] rfl ?_; refine WP.vl rfl (Yld.add64 rfl rfl rfl (by omega)) ?_; refine WP.mv rfl rfl ?_; refine WP.nil ?_; refine WP.sub [(0, _), (5, _), (6, _), (12, _), (13, _), (14, _), (15, _), (19, _)] ?_ ⟨rfl, rfl, rfl, rfl, rfl, rfl, rfl, rfl, trivial⟩
   exact WP.ag (i + 1, L8) ⟨hni, (by rw [flat_succ nodeB hni]; have e : nodeB l[i] = numB (if nv[i].1 then 1 else 0) ++ (numB d.length ++ d) := (by unfold nodeB; rw [hl1, hl2]); rw [e, hb]; simpa using hq)⟩ (show l.length - (i + 1) < l.length - i by omega) ⟨rfl, rfl, rfl, rfl, trivial⟩ rfl
 ·refine WP.nil ?_
  refine WP.next (WP.seq ?_)
  refine WP.condF rfl ?_; refine WP.exit (WP.thenE (WP.thenE (WP.hit ?_)))
  refine WP.fn .normal (.inl rfl) (res0 rfl) Lx (Imm.le_refl _) ?_; obtain rfl : i = l.length := by omega
  rw [List.take_length] at hq
  exact ⟨rfl, rfl, hq⟩


end Go.Hp
