import Derived.Test.YtilgaelpbgfnnaaGreatTxnC
set_option linter.unusedVariables false
set_option linter.unusedSimpArgs false
namespace Go.Hp
open Go Go.Proofs

theorem txn_laid {I : Imm} {q : Nat} {bs : List UInt8} {L : Chunks} (hq : IsWr q bs L) (hl : bs.length ≤ 140737488355328) : Spec Tryz.prog 62 [.pointer (some ⟨q, 0, none⟩)] I L (fun v J L' => ((12671 < (bs).length ∧ v = .tuple #[.slice none 0 0, .int .i64 2] ∧ L' = []) ∨ ((bs).length ≤ 12671 ∧ (∃ vb, v = .tuple #[vb, .int .i64 0] ∧ Own 5 1 vb (bytesV (bs)) (bs).length L')))) := by
 refine Spec.of Tryz.func62 rfl Tryz.ntmps62 (Nat.le_of_ble_eq_true rfl) (fun F => ?_)
 try simp only [nf]
 dsimp only [argsEnv]
 refine WP.seq ?_; refine WP.region [0, 1] rfl ?_; iterate 2 refine WP.mv rfl rfl ?_
 refine WP.nil (WP.next (WP.seq ?_))
 refine WP.region [0, 1, 2] rfl ?_; refine WP.mv rfl rfl ?_; refine WP.loud rfl rfl ?_; refine Op.cl (code_Done hq hl) rfl Tryz.func69 rfl rfl rfl rfl ?_; rintro v J2 Lc hJ2 hc
 try simp only [nf]
 obtain ⟨Ac, cc, rfl, _⟩ := hc.slice
 refine WP.mv rfl rfl ?_; refine WP.nil ?_; refine WP.sub [(0, _), (2, _), (3, _), (4, _)] ?_ ⟨rfl, rfl, rfl, rfl, trivial⟩
 refine WP.next (WP.seq (WP.seq ?_))
 refine WP.region [0, 1, 2] rfl ?_; refine WP.mv rfl rfl ?_; refine WP.vl rfl (Yld.len rfl ty_sl_49 rfl) ?_; refine WP.split rfl rfl rfl rfl (Yld.gtr rfl rfl rfl) (fun h1 => ?_) (fun h1 => ?_)
 ·refine WP.nil ?_
  refine WP.sub [(0, _), (2, _), (3, _), (4, _), (9, _)] ?_ ⟨rfl, rfl, rfl, rfl, rfl, trivial⟩
  refine WP.next ?_; refine WP.condT rfl ?_; refine WP.seq ?_; refine WP.region [0, 1] rfl ?_; iterate 2 refine WP.mv rfl rfl ?_
  refine WP.nil (WP.next (WP.ret ?_))
  refine WP.fn .ret (.inr rfl) (res2 rfl rfl rfl) [] hJ2 ?_; exact .inl ⟨by omega, rfl, rfl⟩
 ·refine WP.nil ?_
  refine WP.sub [(0, _), (2, _), (3, _), (4, _), (9, _)] ?_ ⟨rfl, rfl, rfl, rfl, rfl, trivial⟩
  refine WP.next ?_; refine WP.condF rfl ?_; refine WP.skip (WP.next (WP.seq ?_))
  refine WP.region [0, 1, 2] rfl ?_; iterate 3 refine WP.mv rfl rfl ?_
  refine WP.nil ?_; refine WP.sub [(0, _), (2, _), (3, _), (4, _), (9, _)] ?_ ⟨rfl, rfl, rfl, rfl, rfl, trivial⟩
  refine WP.next (WP.ret ?_)
  refine WP.fn .ret (.inr rfl) (res2 rfl rfl rfl) Lc hJ2 ?_; exact .inr ⟨by omega, _, rfl, hc⟩

theorem txn_EncodePage {I : Imm} {r : Pr} {vn : Value} (hr : RNodes I vn r.nodes) (hln : r.nodes.length ≤ 140737488351232) (hsz : 30 + (r.nodes.flatMap nodeB).length ≤ 140737488355328) : Spec Tryz.prog 25 [.agg ([.int .i64 r.page, .int .i64 r.prev, vn]).toArray] I [] (fun v J L' => ((¬ r.may ∧ v = .tuple #[.slice none 0 0, .int .i64 120] ∧ L' = []) ∨ (r.may ∧ ((12671 < (pageB r).length ∧ v = .tuple #[.slice none 0 0, .int .i64 2] ∧ L' = []) ∨ ((pageB r).length ≤ 12671 ∧ (∃ vb, v = .tuple #[vb, .int .i64 0] ∧ Own 5 1 vb (bytesV (pageB r)) (pageB r).length L')))))) := by
 obtain ⟨nv, hn, hno⟩ := id hr.ex
 obtain ⟨An, cn, rfl, hcn⟩ := hn.slice'
 refine Spec.of Tryz.func25 rfl Tryz.ntmps25 (Nat.le_of_ble_eq_true rfl) (fun F => ?_)
 try simp only [nf]
 dsimp only [argsEnv]
 refine WP.seq ?_; refine WP.region [0, 1, 2] rfl ?_; refine WP.loud rfl rfl ?_; refine Op.box rfl rfl rfl rfl rfl (fun b1 => ?_)
 iterate 2 refine WP.mv rfl rfl ?_
 refine WP.nil (WP.next (WP.seq (WP.seq ?_)))
 refine WP.region [0, 1, 2] rfl ?_; refine WP.vl rfl (Yld.ldg (vs := [.int .i64 r.page, .int .i64 r.prev, .slice An r.nodes.length cn]) rfl ty_ag_51 rfl rfl rfl) ?_; refine WP.loud rfl rfl ?_; refine Op.cl (txn_may hr hln) rfl Tryz.func58 rfl rfl rfl rfl ?_; rintro v J L1 - ⟨c, rfl, hc, rfl, rfl⟩
 try simp only [nf]
 by_cases hc1 : c = true
 ·try rw [hc1]
  refine WP.vl rfl (Yld.not rfl rfl) ?_; refine WP.nil ?_; refine WP.sub [(0, _), (1, _), (2, _), (3, _), (7, _)] ?_ ⟨rfl, rfl, rfl, rfl, rfl, trivial⟩
  refine WP.next ?_; refine WP.condF rfl ?_; refine WP.skip (WP.next (WP.seq ?_))
  refine WP.region [0, 1] rfl ?_; refine WP.loud rfl rfl ?_; refine Op.cl code_NewWriter rfl Tryz.func59 rfl rfl rfl rfl ?_; rintro v J L3 - ⟨rfl, q, rfl, hq⟩
  try simp only [nf]
  obtain ⟨⟨hp1, hp2⟩, hp3, hp4, _⟩ := hc.1 hc1
  have e1 : r.page = (r.page.toNat : Int) := by omega
  have e2 : r.prev = (r.prev.toNat : Int) := by omega
  have n1 := numB_10 (n := r.page.toNat) (by omega); have n2 := numB_10 (n := r.prev.toNat) (by omega); have n3 := numB_10 (n := r.nodes.length) (by omega)
  refine WP.mv rfl rfl ?_; refine WP.nil ?_; refine WP.sub [(0, _), (1, _), (2, _), (3, _), (4, _), (7, _)] ?_ ⟨rfl, rfl, rfl, rfl, rfl, rfl, trivial⟩
  refine WP.next (WP.seq ?_)
  refine WP.region [0, 1, 2, 3, 4] rfl ?_; refine WP.mv rfl rfl ?_; refine WP.vl rfl (Yld.fieldAddr rfl ty_fd_51_0 rfl) ?_; refine WP.vl rfl (Yld.ld rfl ty_sc_3 rfl rfl) ?_; refine WP.vl rfl (Yld.conv64u r.page.toNat rfl ty_un_3 ty_ik_40 (congrArg (fun z => some (Value.int .i64 z)) e1) (by omega)) ?_; refine WP.loud rfl rfl ?_; refine Op.cl (code_NumW (n := r.page.toNat) hq (by omega) (by simp only [List.length_nil]; omega)) rfl Tryz.func60 rfl rfl rfl rfl ?_; rintro v J L4 - ⟨rfl, rfl, hq⟩
  try simp only [nf]
  refine WP.nil ?_; refine WP.sub [(0, _), (1, _), (2, _), (3, _), (4, _), (7, _)] ?_ ⟨rfl, rfl, rfl, rfl, rfl, rfl, trivial⟩
  refine WP.next (WP.seq ?_)
  refine WP.region [0, 1, 2, 3, 4] rfl ?_; refine WP.mv rfl rfl ?_; refine WP.vl rfl (Yld.fieldAddr rfl ty_fd_51_1 rfl) ?_; refine WP.vl rfl (Yld.ld rfl ty_sc_3 rfl rfl) ?_; refine WP.vl rfl (Yld.conv64u r.prev.toNat rfl ty_un_3 ty_ik_40 (congrArg (fun z => some (Value.int .i64 z)) e2) (by omega)) ?_; refine WP.loud rfl rfl ?_; refine Op.cl (code_NumW (n := r.prev.toNat) hq (by omega) (by simp only [List.length_append, List.length_nil]; omega)) rfl Tryz.func60 rfl rfl rfl rfl ?_; rintro v J L5 - ⟨rfl, rfl, hq⟩
  try simp only [nf]
  refine WP.nil ?_; refine WP.sub [(0, _), (1, _), (2, _), (3, _), (4, _), (7, _)] ?_ ⟨rfl, rfl, rfl, rfl, rfl, rfl, trivial⟩
  refine WP.next (WP.seq ?_)
  refine WP.region [0, 1, 2, 3] rfl ?_; refine WP.mv rfl rfl ?_; refine WP.vl rfl (Yld.fieldAddr rfl ty_fd_51_2 rfl) ?_; refine WP.vl rfl (Yld.ld (v := .slice An r.nodes.length cn) rfl ty_sc_41 rfl rfl) ?_; refine WP.loud rfl rfl ?_; refine Op.cl (txn_layNodes hq hr hln (by simp only [List.length_append, List.length_nil]; omega)) rfl Tryz.func61 rfl rfl rfl rfl ?_; rintro v J L6 - ⟨rfl, rfl, hq⟩
  try simp only [nf]
  have hq : IsWr q (pageB r) L6 := by unfold pageB; simpa using hq
  have hpl : (pageB r).length ≤ 140737488355328 := by unfold pageB nodesB; simp only [List.length_append]; omega
  refine WP.nil ?_; refine WP.sub [(0, _), (1, _), (2, _), (3, _), (4, _), (7, _)] ?_ ⟨rfl, rfl, rfl, rfl, rfl, rfl, trivial⟩
  refine WP.next (WP.seq ?_)
  refine WP.region [0, 1, 2, 3, 4, 5] rfl ?_; refine WP.mv rfl rfl ?_; refine WP.loud rfl rfl ?_; refine Op.cl (txn_laid hq hpl) rfl Tryz.func62 rfl rfl rfl rfl ?_; rintro v J2 L7 hJ2 hlaid
  try simp only [nf]
  obtain ⟨vA, vE, rfl⟩ : ∃ vA vE, v = .tuple #[vA, vE] := by rcases hlaid with ⟨_, rfl, _⟩ | ⟨_, vb, rfl, _⟩ <;> exact ⟨_, _, rfl⟩
  iterate 2 refine WP.vl rfl (Yld.extract rfl rfl rfl) ?_
  iterate 2 refine WP.mv rfl rfl ?_
  refine WP.nil ?_; refine WP.sub [(0, _), (1, _), (2, _), (3, _), (4, _), (7, _)] ?_ ⟨rfl, rfl, rfl, rfl, rfl, rfl, trivial⟩
  refine WP.next (WP.ret ?_)
  refine WP.fn .ret (.inr rfl) (res2 rfl rfl rfl) L7 hJ2 ?_; exact .inr ⟨hc.1 hc1, hlaid⟩
 ·have hc1 : c = false := eq_false_of_ne_true hc1
  try rw [hc1]
  refine WP.vl rfl (Yld.not rfl rfl) ?_; refine WP.nil ?_; refine WP.sub [(0, _), (1, _), (2, _), (3, _), (7, _)] ?_ ⟨rfl, rfl, rfl, rfl, rfl, trivial⟩
  refine WP.next ?_; refine WP.condT rfl ?_; refine WP.seq ?_; refine WP.region [0, 1] rfl ?_; iterate 2 refine WP.mv rfl rfl ?_
  refine WP.nil (WP.next (WP.ret ?_))
  refine WP.fn .ret (.inr rfl) (res2 rfl rfl rfl) [] (Imm.le_refl _) ?_; exact .inl ⟨fun h => (by rw [hc.2 h] at hc1; cases hc1), rfl, rfl⟩

theorem txn_EncodeGroup {I : Imm} {l : List (Pr × Value)} {v : Value} (hv : RPrs I v l) (hln : l.length ≤ 140737488351232) (hnl : ∀ x ∈ l, x.1.nodes.length ≤ 140737488351232) (hsz : mayG (prs l) → (groupB (prs l)).length ≤ 140737488355328) : Spec Tryz.prog 27 [v] I [] (fun v J L' => ((¬ mayG (prs l) ∧ v = .tuple #[.slice none 0 0, .int .i64 120] ∧ L' = []) ∨ (mayG (prs l) ∧ ((12671 < (groupB (prs l)).length ∧ v = .tuple #[.slice none 0 0, .int .i64 2] ∧ L' = []) ∨ ((groupB (prs l)).length ≤ 12671 ∧ (∃ vb, v = .tuple #[vb, .int .i64 0] ∧ Own 5 1 vb (bytesV (groupB (prs l))) (groupB (prs l)).length L')))))) := by
 obtain ⟨Ap, cp, rfl, hcp, _, _⟩ := id hv.rd
 refine Spec.of Tryz.func27 rfl Tryz.ntmps27 (Nat.le_of_ble_eq_true rfl) (fun F => ?_)
 try simp only [nf]
 dsimp only [argsEnv]
 refine WP.seq ?_; refine WP.region [0, 1] rfl ?_; iterate 2 refine WP.mv rfl rfl ?_
 refine WP.nil (WP.next (WP.seq (WP.seq ?_)))
 refine WP.region [0, 1, 2] rfl ?_; refine WP.mv rfl rfl ?_; refine WP.loud rfl rfl ?_; refine Op.cl (txn_mayGroup hv hln hnl) rfl Tryz.func67 rfl rfl rfl rfl ?_; rintro v J L1 - ⟨c, rfl, hc, rfl, rfl⟩
 try simp only [nf]
 by_cases hc1 : c = true
 ·try rw [hc1]
  refine WP.vl rfl (Yld.not rfl rfl) ?_; refine WP.nil ?_; refine WP.sub [(0, _), (2, _), (3, _), (9, _)] ?_ ⟨rfl, rfl, rfl, rfl, trivial⟩
  refine WP.next ?_; refine WP.condF rfl ?_; refine WP.skip (WP.next (WP.seq ?_))
  refine WP.region [0, 1] rfl ?_; refine WP.loud rfl rfl ?_; refine Op.cl code_NewWriter rfl Tryz.func59 rfl rfl rfl rfl ?_; rintro v J L3 - ⟨rfl, q, rfl, hq⟩
  try simp only [nf]
  have hmg := hc.1 hc1
  have hsz := hsz hmg
  have hl8 := hmg.2.1
  rw [prs_len] at hl8
  have hsz2 : (numB l.length).length + ((prs l).flatMap (fun r : Pr => numB r.page.toNat ++ nodesB r.nodes)).length ≤ 140737488355328 := by unfold groupB at hsz; rw [prs_len, List.length_append] at hsz; exact hsz
  refine WP.mv rfl rfl ?_; refine WP.nil ?_; refine WP.sub [(0, _), (2, _), (3, _), (4, _), (9, _)] ?_ ⟨rfl, rfl, rfl, rfl, rfl, trivial⟩
  refine WP.next (WP.seq ?_)
  refine WP.region [0, 1, 2, 3, 4] rfl ?_; iterate 2 refine WP.mv rfl rfl ?_
  refine WP.vl rfl (Yld.len rfl ty_sl_52 rfl) ?_; refine WP.vl rfl (Yld.conv64u l.length rfl ty_un_3 ty_ik_40 rfl (by omega)) ?_; refine WP.loud rfl rfl ?_; refine Op.cl (code_NumW (n := l.length) hq (by omega) (by simp only [List.length_nil]; omega)) rfl Tryz.func60 rfl rfl rfl rfl ?_; rintro v J L4 - ⟨rfl, rfl, hq⟩
  try simp only [nf]
  refine WP.nil ?_; refine WP.sub [(0, _), (2, _), (3, _), (4, _), (9, _)] ?_ ⟨rfl, rfl, rfl, rfl, rfl, trivial⟩
  refine WP.next (WP.seq (WP.seq ?_))
  refine WP.region [0, 1, 2] rfl ?_; refine WP.mv rfl rfl ?_; refine WP.vl rfl (Yld.len rfl ty_sl_52 rfl) ?_; refine WP.mv rfl rfl ?_; refine WP.nil (WP.next (WP.block ?_))
  refine WP.loop (X := Nat × Chunks) (fun t : Nat × Chunks => [(4, .pointer (some ⟨q, 0, none⟩)), (16, .slice Ap l.length cp), (17, .int .i64 (l.length : Int)), (18, .int .i64 (t.1 : Int))]) (fun _ => I) (fun t : Nat × Chunks => t.2 ++ F) (fun t : Nat × Chunks => t.1 ≤ l.length ∧ IsWr q (numB l.length ++ ((prs l).take t.1).flatMap (fun r : Pr => numB r.page.toNat ++ nodesB r.nodes)) t.2) (fun t => l.length - t.1) (0, L4) ⟨Nat.zero_le _, (by simpa using hq)⟩ ⟨rfl, rfl, rfl, rfl, trivial⟩ rfl zP ?_; rintro ⟨i, Lx⟩ ⟨hle, hq⟩; dsimp only at hle hq
  try dsimp only
  try simp only [nf]
  refine WP.seq ?_; refine WP.region [0] rfl ?_; refine WP.split rfl rfl rfl rfl (Yld.lss rfl rfl rfl) (fun hlt => ?_) (fun hlt => ?_)
  ·have hi : i < l.length := by omega
   obtain ⟨bl, kl, Tl, fl, arl, ea, hbl, hcl⟩ := hv.at_ hi
   have hr1 : l[i].2.oneCell' = true := by obtain ⟨nv, ⟨A, c, e, _⟩, _⟩ := (hv.el _ (List.getElem_mem hi)).ex; rw [e]; rfl
   have hpi : i < (prs l).length := by rw [prs_len]; exact hi
   have hpre := flat_pre (fun r : Pr => numB r.page.toNat ++ nodesB r.nodes) hpi
   rw [prs_at hi] at hpre
   have hpre := hpre
   have hx : (nodesB l[i].1.nodes).length = (numB l[i].1.nodes.length).length + (l[i].1.nodes.flatMap nodeB).length := by unfold nodesB; rw [List.length_append]
   rw [List.length_append] at hpre
   have hgi := (gAt_prs hi hpi).1 (hmg.2.2 i hpi)
   have hlen := hnl _ (List.getElem_mem hi)
   have hpo : pageOk l[i].1.page := by rcases hgi.2.2 with h | h; exact h.2.2; exact h.1
   obtain ⟨hp1, hp2⟩ := hpo
   have e1 : l[i].1.page = (l[i].1.page.toNat : Int) := by omega
   refine WP.nil (WP.next (WP.seq ?_))
   refine WP.condT rfl ?_; refine WP.skip (WP.next (WP.seq (WP.block (WP.seq ?_))))
   refine WP.region [0, 1, 2, 3] rfl ?_; refine WP.vl rfl (Yld.indexAddr (i := i) rfl ty_sl_52 (congrArg (fun a => some (Value.slice a l.length cp)) ea) rfl hi) ?_; refine WP.vl rfl (Yld.loadAggC (vs := [.int .i64 l[i].1.page, .int .i64 l[i].1.prev, l[i].2]) rfl ty_ag_51 rfl (There.i hbl) hcl rfl) ?_; refine WP.loud rfl rfl ?_; refine Op.alloc rfl rfl rfl ty_zr_51 (fun b6 => ?_)
   refine WP.loud rfl rfl ?_; refine Op.sA rfl rfl ty_sz_51 rfl rfl rfl (by show (true && (true && (l[i].2.oneCell' && true))) = true; rw [hr1]; rfl) rfl ?_; refine WP.nil ?_; refine WP.sub [(4, _), (6, _), (16, _), (17, _), (18, _), (19, _)] ?_ ⟨rfl, rfl, rfl, rfl, rfl, rfl, trivial⟩
   refine WP.next (WP.seq ?_)
   refine WP.region [0, 1, 2, 3, 4] rfl ?_; refine WP.mv rfl rfl ?_; refine WP.vl rfl (Yld.fieldAddr rfl ty_fd_51_0 rfl) ?_; refine WP.vl rfl (Yld.ld rfl ty_sc_3 rfl rfl) ?_; refine WP.vl rfl (Yld.conv64u l[i].1.page.toNat rfl ty_un_3 ty_ik_40 (congrArg (fun z => some (Value.int .i64 z)) e1) (by omega)) ?_; refine WP.loud rfl rfl ?_; refine Op.cl (code_NumW (n := l[i].1.page.toNat) hq (by omega) (by simp only [List.length_append] at *; omega)) rfl Tryz.func60 rfl rfl rfl rfl ?_; rintro v J L8 - ⟨rfl, rfl, hq⟩
   try simp only [nf]
   refine WP.nil ?_; refine WP.sub [(4, _), (6, _), (16, _), (17, _), (18, _), (19, _)] ?_ ⟨rfl, rfl, rfl, rfl, rfl, rfl, trivial⟩
   refine WP.next ?_; refine WP.region [0, 1, 2, 3] rfl ?_; refine WP.mv rfl rfl ?_; refine WP.vl rfl (Yld.fieldAddr rfl ty_fd_51_2 rfl) ?_; refine WP.vl rfl (Yld.ld (v := l[i].2) rfl ty_sc_41 rfl rfl) ?_; refine WP.loud rfl rfl ?_; refine Op.cl (txn_layNodes hq (hv.el _ (List.getElem_mem hi)) hlen (by simp only [List.length_append] at *; omega)) rfl Tryz.func61 rfl rfl rfl rfl ?_; rintro v J L9 - ⟨rfl, rfl, hq⟩
   try simp only [nf]
   refine WP.nil ?_; refine WP.sub [(4, _), (6, _), (16, _), (17, _), (18, _), (19, _)] ?_ ⟨rfl, rfl, rfl, rfl, rfl, rfl, trivial⟩
   refine WP.leave (WP.next ?_)
   refine WP.region [0, 1] rfl ?_; refine WP.vl rfl (Yld.add64 rfl rfl rfl (by omega)) ?_; refine WP.mv rfl rfl ?_; refine WP.nil ?_; refine WP.sub [(4, _), (6, _), (16, _), (17, _), (18, _), (19, _)] ?_ ⟨rfl, rfl, rfl, rfl, rfl, rfl, trivial⟩
   exact WP.ag (i + 1, L9) ⟨hi, (by rw [flat_succ (fun r : Pr => numB r.page.toNat ++ nodesB r.nodes) hpi, prs_at hi]; simpa [nodesB] using hq)⟩ (show l.length - (i + 1) < l.length - i by omega) ⟨rfl, rfl, rfl, rfl, trivial⟩ rfl
  ·refine WP.nil ?_
   refine WP.next (WP.seq ?_)
   refine WP.condF rfl ?_; refine WP.exit (WP.thenE (WP.thenE (WP.hit (WP.next (WP.seq ?_)))))
   obtain rfl : i = l.length := by omega
   have hq : IsWr q (groupB (prs l)) Lx := by unfold groupB; rw [prs_len]; have e : (prs l).take l.length = prs l := List.take_of_length_le (by rw [prs_len]; exact Nat.le_refl _); rw [e] at hq; exact hq
   refine WP.region [0, 1, 2, 3, 4, 5] rfl ?_; refine WP.mv rfl rfl ?_; refine WP.loud rfl rfl ?_; refine Op.cl (txn_laid hq hsz) rfl Tryz.func62 rfl rfl rfl rfl ?_; rintro v J2 L7 hJ2 hlaid
   try simp only [nf]
   obtain ⟨vA, vE, rfl⟩ : ∃ vA vE, v = .tuple #[vA, vE] := by rcases hlaid with ⟨_, rfl, _⟩ | ⟨_, vb, rfl, _⟩ <;> exact ⟨_, _, rfl⟩
   iterate 2 refine WP.vl rfl (Yld.extract rfl rfl rfl) ?_
   iterate 2 refine WP.mv rfl rfl ?_
   refine WP.nil ?_; refine WP.sub [(2, _), (3, _), (4, _), (16, _), (17, _), (18, _), (19, _)] ?_ ⟨rfl, rfl, rfl, rfl, rfl, rfl, rfl, trivial⟩
   refine WP.next (WP.ret ?_)
   refine WP.fn .ret (.inr rfl) (res2 rfl rfl rfl) L7 hJ2 ?_; exact .inr ⟨hc.1 hc1, hlaid⟩
 ·have hc1 : c = false := eq_false_of_ne_true hc1
  try rw [hc1]
  refine WP.vl rfl (Yld.not rfl rfl) ?_; refine WP.nil ?_; refine WP.sub [(0, _), (2, _), (3, _), (9, _)] ?_ ⟨rfl, rfl, rfl, rfl, trivial⟩
  refine WP.next ?_; refine WP.condT rfl ?_; refine WP.seq ?_; refine WP.region [0, 1] rfl ?_; iterate 2 refine WP.mv rfl rfl ?_
  refine WP.nil (WP.next (WP.ret ?_))
  refine WP.fn .ret (.inr rfl) (res2 rfl rfl rfl) [] (Imm.le_refl _) ?_; exact .inl ⟨fun h => (by rw [hc.2 h] at hc1; cases hc1), rfl, rfl⟩

theorem txn_EncodeCommit {I : Imm} {t : Int} : Spec Tryz.prog 29 [.int .i64 t] I [] (fun v J L' => ((¬ (1 ≤ t ∧ t ≤ 1099511627776) ∧ v = .tuple #[.slice none 0 0, .int .i64 120] ∧ L' = []) ∨ ((1 ≤ t ∧ t ≤ 1099511627776) ∧ (∃ vb, v = .tuple #[vb, .int .i64 0] ∧ Own 5 1 vb (bytesV (numB t.toNat)) (numB t.toNat).length L')))) := by
 refine Spec.of Tryz.func29 rfl Tryz.ntmps29 (Nat.le_of_ble_eq_true rfl) (fun F => ?_)
 try simp only [nf]
 dsimp only [argsEnv]
 refine WP.seq ?_; refine WP.region [0, 1] rfl ?_; iterate 2 refine WP.mv rfl rfl ?_
 refine WP.nil (WP.next (WP.seq (WP.seq ?_)))
 refine WP.region [0, 1, 2, 3, 4, 5] rfl ?_; refine WP.mv rfl rfl ?_; refine WP.split rfl rfl rfl rfl (Yld.lss rfl rfl rfl) (fun h1 => ?_) (fun h1 => ?_)
 ·refine WP.mv rfl rfl ?_
  iterate 2 refine WP.passG rfl rfl rfl rfl rfl rfl rfl rfl ?_
  refine WP.vl rfl (Yld.pickT rfl rfl rfl) ?_; refine WP.nil ?_; refine WP.sub [(0, _), (2, _), (3, _), (10, _)] ?_ ⟨rfl, rfl, rfl, rfl, trivial⟩
  refine WP.next ?_; refine WP.condT rfl ?_; refine WP.seq ?_; refine WP.region [0, 1] rfl ?_; iterate 2 refine WP.mv rfl rfl ?_
  refine WP.nil (WP.next (WP.ret ?_))
  refine WP.fn .ret (.inr rfl) (res2 rfl rfl rfl) [] (Imm.le_refl _) ?_; exact .inl ⟨fun h => by omega, rfl, rfl⟩
 ·refine WP.mv rfl rfl ?_
  refine WP.valG rfl rfl rfl rfl rfl rfl rfl (Yld.move rfl rfl) ?_; refine WP.splitG rfl rfl rfl rfl rfl rfl rfl (Yld.gtr rfl rfl rfl) (fun h2 => ?_) (fun h2 => ?_)
  ·refine WP.vl rfl (Yld.pickF rfl rfl rfl) ?_
   refine WP.nil ?_; refine WP.sub [(0, _), (2, _), (3, _), (10, _)] ?_ ⟨rfl, rfl, rfl, rfl, trivial⟩
   refine WP.next ?_; refine WP.condT rfl ?_; refine WP.seq ?_; refine WP.region [0, 1] rfl ?_; iterate 2 refine WP.mv rfl rfl ?_
   refine WP.nil (WP.next (WP.ret ?_))
   refine WP.fn .ret (.inr rfl) (res2 rfl rfl rfl) [] (Imm.le_refl _) ?_; exact .inl ⟨fun h => by omega, rfl, rfl⟩
  ·refine WP.vl rfl (Yld.pickF rfl rfl rfl) ?_
   refine WP.nil ?_; refine WP.sub [(0, _), (2, _), (3, _), (10, _)] ?_ ⟨rfl, rfl, rfl, rfl, trivial⟩
   refine WP.next ?_; refine WP.condF rfl ?_; refine WP.skip (WP.next (WP.seq ?_))
   refine WP.region [0, 1] rfl ?_; refine WP.loud rfl rfl ?_; refine Op.cl code_NewWriter rfl Tryz.func59 rfl rfl rfl rfl ?_; rintro v J L3 - ⟨rfl, q, rfl, hq⟩
   try simp only [nf]
   have e1 : t = (t.toNat : Int) := by omega
   have n1 := numB_10 (n := t.toNat) (by omega)
   refine WP.mv rfl rfl ?_; refine WP.nil ?_; refine WP.sub [(0, _), (2, _), (3, _), (4, _), (10, _)] ?_ ⟨rfl, rfl, rfl, rfl, rfl, trivial⟩
   refine WP.next (WP.seq ?_)
   refine WP.region [0, 1, 2, 3] rfl ?_; iterate 2 refine WP.mv rfl rfl ?_
   refine WP.vl rfl (Yld.conv64u t.toNat rfl ty_un_3 ty_ik_40 (congrArg (fun z => some (Value.int .i64 z)) e1) (by omega)) ?_; refine WP.loud rfl rfl ?_; refine Op.cl (code_NumW (n := t.toNat) hq (by omega) (by simp only [List.length_nil]; omega)) rfl Tryz.func60 rfl rfl rfl rfl ?_; rintro v J L4 - ⟨rfl, rfl, hq⟩
   try simp only [nf]
   refine WP.nil ?_; refine WP.sub [(0, _), (2, _), (3, _), (4, _), (10, _)] ?_ ⟨rfl, rfl, rfl, rfl, rfl, trivial⟩
   refine WP.next (WP.seq ?_)
   refine WP.region [0, 1, 2, 3] rfl ?_; refine WP.mv rfl rfl ?_; refine WP.loud rfl rfl ?_; refine Op.cl (code_Done hq (by simp only [List.length_append, List.length_nil]; omega)) rfl Tryz.func69 rfl rfl rfl rfl ?_; rintro v J2 Lc hJ2 hc
   try simp only [nf]
   iterate 2 refine WP.mv rfl rfl ?_
   refine WP.nil ?_; refine WP.sub [(0, _), (2, _), (3, _), (4, _), (10, _)] ?_ ⟨rfl, rfl, rfl, rfl, rfl, trivial⟩
   refine WP.next (WP.ret ?_)
   refine WP.fn .ret (.inr rfl) (res2 rfl rfl rfl) Lc hJ2 ?_; exact .inr ⟨⟨by omega, by omega⟩, _, rfl, hc⟩


/-- What machines have in common. -/
structure Cm where
 e : Int
 txn : Int
 hn : Nat
 hp : Nat
 clear : List Int
 ent : Ent
def cmV (l t : Nat) (nx th : Value) (z : Cm) (vc vn vw : Value) (ex : List Value) : List Value :=
 .pointer (some ⟨l, 0, none⟩) :: .pointer (some ⟨t, 0, none⟩) :: nx :: .int .i64 z.e :: .int .i64 z.txn :: .int .i64 (z.hn : Int) :: .int .i64 (z.hp : Int) :: vc :: .int .u64 (z.ent.tok : Int) :: vn :: .int .i64 z.ent.place :: .int .i64 z.ent.no :: .int .i64 z.ent.low :: .int .i64 z.ent.kept :: .int .i64 z.ent.txn :: .int .i64 z.ent.lead :: vw :: th :: ex
def thoseL (l : List (Pr × Value)) (k : Nat) (has : Bool) : List (Pr × Value) := (l.drop k).filter fun x => decide (0 < x.1.nodes.length) == has
def prC (l : List (Pr × Value)) : List Value := l.flatMap fun x => prV x.1 x.2
theorem prC_app (l m : List (Pr × Value)) : prC (l ++ m) = prC l ++ prC m := List.flatMap_append
theorem filter_succ {α : Type} (p : α → Bool) {l : List α} {i : Nat} (h : i < l.length) : (l.take (i + 1)).filter p = (l.take i).filter p ++ (if p l[i] then [l[i]] else []) := by
 rw [List.take_succ_eq_append_getElem h, List.filter_append]
 simp only [List.filter_cons, List.filter_nil]
def Ent.clr (e : Ent) : Ent := { e with txn := 0, lead := 0, with_ := [] }
theorem txn_end {I : Imm} {l t b T : Nat} {nx th vc vn vw : Value} {ex : List Value} {z : Cm} {e : Int} : Spec Tryz.prog 110 [.pointer (some ⟨b, 0, none⟩), .int .i64 e] I [(b, row T (cmV l t nx th z vc vn vw ex))] (fun v J L => v = .bool true ∧ I = J ∧ L = [(b, row T (cmV l t .nilFunc th ({ z with e := e } : Cm) vc vn vw ex))]) := by
 refine Spec.of Tryz.func110 rfl Tryz.ntmps110 (Nat.le_of_ble_eq_true rfl) (fun F => ?_)
 try simp only [nf]
 dsimp only [argsEnv]
 refine WP.seq ?_; refine WP.region [0] rfl ?_; refine WP.mv rfl rfl ?_; refine WP.nil (WP.next (WP.seq ?_))
 refine WP.region [0, 1, 2, 3, 4, 5, 6, 7, 8] rfl ?_; iterate 3 refine WP.mv rfl rfl ?_
 refine WP.vl rfl (Yld.nilCheck rfl rfl) ?_; refine WP.vl rfl (Yld.fieldAddr rfl ty_fd_54_3 rfl) ?_; refine WP.loud rfl rfl ?_; refine Op.s1 rfl rfl ty_sz_27 rfl rfl rfl ?_; refine WP.vl rfl (Yld.nilCheck rfl rfl) ?_; refine WP.vl rfl (Yld.fieldAddr rfl ty_fd_54_2 rfl) ?_; refine WP.loud rfl rfl ?_; refine Op.s1 rfl rfl ty_sz_23 rfl rfl rfl ?_; refine WP.nil ?_; refine WP.sub [(0, _), (1, _), (4, _)] ?_ ⟨rfl, rfl, rfl, trivial⟩
 refine WP.next (WP.seq ?_)
 refine WP.region [0] rfl ?_; refine WP.mv rfl rfl ?_; refine WP.nil (WP.next (WP.ret ?_))
 refine WP.fn .ret (.inr rfl) (res1 rfl rfl) [(b, row T (cmV l t .nilFunc th ({ z with e := e } : Cm) vc vn vw ex))] (Imm.le_refl _) ?_; exact ⟨rfl, rfl, rfl⟩

theorem txn_goes {I : Imm} {l t b T : Nat} {nx th vc vn vw : Value} {ex : List Value} {z : Cm} {f : Fn} {rs us : Array Value} : Spec Tryz.prog 111 [.pointer (some ⟨b, 0, none⟩), .func f rs us] I [(b, row T (cmV l t nx th z vc vn vw ex))] (fun v J L => v = .bool false ∧ I = J ∧ L = [(b, row T (cmV l t (.func f rs us) th z vc vn vw ex))]) := by
 refine Spec.of Tryz.func111 rfl Tryz.ntmps111 (Nat.le_of_ble_eq_true rfl) (fun F => ?_)
 try simp only [nf]
 dsimp only [argsEnv]
 refine WP.seq ?_; refine WP.region [0] rfl ?_; refine WP.mv rfl rfl ?_; refine WP.nil (WP.next (WP.seq ?_))
 refine WP.region [0, 1, 2, 3, 4] rfl ?_; iterate 2 refine WP.mv rfl rfl ?_
 refine WP.vl rfl (Yld.nilCheck rfl rfl) ?_; refine WP.vl rfl (Yld.fieldAddr rfl ty_fd_54_2 rfl) ?_; refine WP.loud rfl rfl ?_; refine Op.s1 rfl rfl ty_sz_23 rfl rfl rfl ?_; refine WP.nil ?_; refine WP.sub [(0, _), (1, _), (4, _)] ?_ ⟨rfl, rfl, rfl, trivial⟩
 refine WP.next (WP.seq ?_)
 refine WP.region [0] rfl ?_; refine WP.mv rfl rfl ?_; refine WP.nil (WP.next (WP.ret ?_))
 refine WP.fn .ret (.inr rfl) (res1 rfl rfl) [(b, row T (cmV l t (.func f rs us) th z vc vn vw ex))] (Imm.le_refl _) ?_; exact ⟨rfl, rfl, rfl⟩

theorem txn_done {I : Imm} {b : Nat} {e : Ent} {vn vw : Value} : Spec Tryz.prog 192 [.pointer (some ⟨b, 0, none⟩)] I [(b, row 43 [.int .u64 (e.tok : Int), vn, .int .i64 e.place, .int .i64 e.no, .int .i64 e.low, .int .i64 e.kept, .int .i64 e.txn, .int .i64 e.lead, vw])] (fun v J L => v = .tuple #[] ∧ I = J ∧ L = [(b, row 43 [.int .u64 (e.clr.tok : Int), vn, .int .i64 e.clr.place, .int .i64 e.clr.no, .int .i64 e.clr.low, .int .i64 e.clr.kept, .int .i64 e.clr.txn, .int .i64 e.clr.lead, (.slice none 0 0)])]) := by
 refine Spec.of Tryz.func192 rfl Tryz.ntmps192 (Nat.le_of_ble_eq_true rfl) (fun F => ?_)
 try simp only [nf]
 dsimp only [argsEnv]
 refine WP.region [0, 1, 2, 3, 4, 5, 6, 7, 8, 9, 10, 11] rfl ?_; iterate 3 refine WP.mv rfl rfl ?_
 refine WP.vl rfl (Yld.nilCheck rfl rfl) ?_; refine WP.vl rfl (Yld.fieldAddr rfl ty_fd_43_6 rfl) ?_; refine WP.loud rfl rfl ?_; refine Op.s1 rfl rfl ty_sz_3 rfl rfl rfl ?_; refine WP.vl rfl (Yld.nilCheck rfl rfl) ?_; refine WP.vl rfl (Yld.fieldAddr rfl ty_fd_43_7 rfl) ?_; refine WP.loud rfl rfl ?_; refine Op.s1 rfl rfl ty_sz_3 rfl rfl rfl ?_; refine WP.vl rfl (Yld.nilCheck rfl rfl) ?_; refine WP.vl rfl (Yld.fieldAddr rfl ty_fd_43_8 rfl) ?_; refine WP.loud rfl rfl ?_; refine Op.s1 rfl rfl ty_sz_22 rfl rfl rfl ?_; refine WP.nil ?_; refine WP.sub [(0, _)] ?_ ⟨rfl, trivial⟩
 refine WP.fn .normal (.inl rfl) (res0 rfl) [(b, row 43 [.int .u64 (e.clr.tok : Int), vn, .int .i64 e.clr.place, .int .i64 e.clr.no, .int .i64 e.clr.low, .int .i64 e.clr.kept, .int .i64 e.clr.txn, .int .i64 e.clr.lead, (.slice none 0 0)])] (Imm.le_refl _) ?_; exact ⟨rfl, rfl, rfl⟩

theorem txn_sets {I : Imm} {b c m co : Nat} {Ao : Option Addr} {e : Ent} {vn vw : Value} : Spec Tryz.prog 183 [.pointer (some ⟨b, 0, none⟩), .pointer (some ⟨c, 0, none⟩)] I [(b, row 43 [.int .u64 (e.tok : Int), vn, .int .i64 e.place, .int .i64 e.no, .int .i64 e.low, .int .i64 e.kept, .int .i64 e.txn, .int .i64 e.lead, vw]), (c, row 22 [.slice Ao m co])] (fun v J L => v = .tuple #[] ∧ I = J ∧ L = [(b, row 43 [.int .u64 (e.tok : Int), vn, .int .i64 e.place, .int .i64 e.no, .int .i64 e.low, .int .i64 e.kept, .int .i64 e.txn, .int .i64 e.lead, (.slice Ao m co)]), (c, row 22 [.slice Ao m co])]) := by
 refine Spec.of Tryz.func183 rfl Tryz.ntmps183 (Nat.le_of_ble_eq_true rfl) (fun F => ?_)
 try simp only [nf]
 dsimp only [argsEnv]
 refine WP.region [0, 1, 2, 3, 4] rfl ?_; refine WP.mv rfl rfl ?_; refine WP.vl rfl (Yld.ld (v := .slice Ao m co) rfl ty_sc_22 rfl rfl) ?_; refine WP.vl rfl (Yld.nilCheck rfl rfl) ?_; refine WP.vl rfl (Yld.fieldAddr rfl ty_fd_43_8 rfl) ?_; refine WP.loud rfl rfl ?_; refine Op.s1 rfl rfl ty_sz_22 rfl rfl rfl ?_; refine WP.nil ?_; refine WP.sub [(0, _), (1, _)] ?_ ⟨rfl, rfl, trivial⟩
 refine WP.fn .normal (.inl rfl) (res0 rfl) [(b, row 43 [.int .u64 (e.tok : Int), vn, .int .i64 e.place, .int .i64 e.no, .int .i64 e.low, .int .i64 e.kept, .int .i64 e.txn, .int .i64 e.lead, (.slice Ao m co)]), (c, row 22 [.slice Ao m co])] (Imm.le_refl _) ?_; exact ⟨rfl, rfl, rfl⟩


structure WiX where
 i : Nat
 e : Ent
 vw : Value
theorem txn_with_done {I : Imm} {e : Ent} {vn vw : Value} (h1n : vn.oneCell' = true) (h1w : vw.oneCell' = true) {ba : Nat} : Spec Tryz.prog 181 [.agg ([.int .u64 (e.tok : Int), vn, .int .i64 e.place, .int .i64 e.no, .int .i64 e.low, .int .i64 e.kept, .int .i64 e.txn, .int .i64 e.lead, vw]).toArray, .slice (some ⟨ba, 0, none⟩) 1 1] I ((ba, row 196 [.func (.func 192) [].toArray [].toArray]) :: []) (fun v J L => I = J ∧ v = .agg ([.int .u64 (e.clr.tok : Int), vn, .int .i64 e.clr.place, .int .i64 e.clr.no, .int .i64 e.clr.low, .int .i64 e.clr.kept, .int .i64 e.clr.txn, .int .i64 e.clr.lead, (.slice none 0 0)]).toArray ∧ L = (ba, row 196 [.func (.func 192) [].toArray [].toArray]) :: []) := by
 refine Spec.of Tryz.func181 rfl Tryz.ntmps181 (Nat.le_of_ble_eq_true rfl) (fun F => ?_)
 try simp only [nf]
 dsimp only [argsEnv]
 refine WP.seq ?_; refine WP.region [0, 1] rfl ?_; refine WP.loud rfl rfl ?_; refine Op.box rfl rfl rfl rfl rfl (fun b2 => ?_)
 refine WP.loud rfl rfl ?_; refine Op.alloc rfl rfl rfl ty_zr_43 (fun b4 => ?_)
 refine WP.nil (WP.next (WP.seq (WP.seq ?_)))
 refine WP.region [0, 1, 2] rfl ?_; refine WP.mv rfl rfl ?_; refine WP.vl rfl (Yld.len rfl ty_sl_279 rfl) ?_; refine WP.mv rfl rfl ?_; refine WP.nil (WP.next (WP.block ?_))
 refine WP.loop (X := WiX) (fun t : WiX => [(2, .pointer (some ⟨b2, 0, none⟩)), (4, .pointer (some ⟨b4, 0, none⟩)), (7, .slice (some ⟨ba, 0, none⟩) 1 1), (8, .int .i64 1), (9, .int .i64 (t.i : Int))]) (fun _ => I) (fun t : WiX => (b2, row 43 [.int .u64 (t.e.tok : Int), vn, .int .i64 t.e.place, .int .i64 t.e.no, .int .i64 t.e.low, .int .i64 t.e.kept, .int .i64 t.e.txn, .int .i64 t.e.lead, t.vw]) :: (b4, row 43 [.int .u64 0, .slice none 0 0, .int .i64 0, .int .i64 0, .int .i64 0, .int .i64 0, .int .i64 0, .int .i64 0, .slice none 0 0]) :: (ba, row 196 [.func (.func 192) [].toArray [].toArray]) :: ([] ++ F)) (fun t : WiX => (t.i = 0 ∧ e = t.e ∧ vw = t.vw) ∨ (t.i = 1 ∧ e.clr = t.e ∧ (.slice none 0 0) = t.vw)) (fun t => 1 - t.i) ⟨0, e, vw⟩ (.inl ⟨rfl, rfl, rfl⟩) ⟨rfl, rfl, rfl, rfl, rfl, trivial⟩ rfl zP ?_; rintro ⟨i, ei, vi⟩ hp; dsimp only at hp
 try dsimp only
 try simp only [nf]
 refine WP.seq ?_; refine WP.region [0] rfl ?_; refine WP.split rfl rfl rfl rfl (Yld.lss rfl rfl rfl) (fun hlt => ?_) (fun hlt => ?_)
 ·obtain ⟨rfl, rfl, rfl⟩ := hp.resolve_right (fun h => by omega)
  refine WP.nil (WP.next (WP.seq ?_))
  refine WP.condT rfl ?_; refine WP.skip (WP.next (WP.seq (WP.block (WP.seq ?_))))
  refine WP.region [0, 1, 2] rfl ?_; refine WP.vl rfl (Yld.indexAddr (i := 0) rfl ty_sl_279 rfl rfl (by decide)) ?_; refine WP.vl rfl (Yld.ld (v := .func (.func 192) [].toArray [].toArray) rfl ty_sc_196 rfl rfl) ?_; refine WP.mv rfl rfl ?_; refine WP.nil ?_; refine WP.sub [(2, _), (4, _), (6, _), (7, _), (8, _), (9, _), (10, _)] ?_ ⟨rfl, rfl, rfl, rfl, rfl, rfl, rfl, trivial⟩
  refine WP.next ?_; refine WP.region [0, 1] rfl ?_; refine WP.mv rfl rfl ?_; refine WP.loud rfl rfl ?_; refine Op.callE txn_done (Enters.bound rfl Tryz.func192 rfl (rs := []) (us := []) rfl (vs := [_]) rfl) rfl rfl zT ?_; rintro v J L1 - ⟨rfl, rfl, rfl⟩
  try simp only [nf]
  refine WP.nil ?_; refine WP.sub [(2, _), (4, _), (6, _), (7, _), (8, _), (9, _), (10, _)] ?_ ⟨rfl, rfl, rfl, rfl, rfl, rfl, rfl, trivial⟩
  refine WP.leave (WP.next ?_)
  refine WP.region [0, 1] rfl ?_; refine WP.vl rfl (Yld.add64 rfl rfl rfl (by omega)) ?_; refine WP.mv rfl rfl ?_; refine WP.nil ?_; refine WP.sub [(2, _), (4, _), (6, _), (7, _), (8, _), (9, _), (10, _)] ?_ ⟨rfl, rfl, rfl, rfl, rfl, rfl, rfl, trivial⟩
  exact WP.ag ⟨1, e.clr, (.slice none 0 0)⟩ (.inr ⟨rfl, rfl, rfl⟩) (show 1 - 1 < 1 - 0 by decide) ⟨rfl, rfl, rfl, rfl, rfl, trivial⟩ rfl
 ·obtain ⟨rfl, rfl, rfl⟩ := hp.resolve_left (fun h => by omega)
  refine WP.nil (WP.next (WP.seq ?_))
  refine WP.condF rfl ?_; refine WP.exit (WP.thenE (WP.thenE (WP.hit (WP.next (WP.seq ?_)))))
  refine WP.region [0, 1] rfl ?_; refine WP.vl rfl (Yld.lda rfl ty_ag_43 rfl rfl) ?_; refine WP.loud rfl rfl ?_; refine Op.sA rfl rfl ty_sz_43 rfl rfl rfl (by simp only [List.all_cons, List.all_nil, h1n]; rfl) rfl ?_; refine WP.nil ?_; refine WP.sub [(2, _), (4, _), (7, _), (8, _), (9, _), (10, _)] ?_ ⟨rfl, rfl, rfl, rfl, rfl, rfl, trivial⟩
  refine WP.next (WP.ret ?_)
  refine WP.fn .ret (.inr rfl) (resC rfl ty_ag_43 rfl zM rfl) ((ba, row 196 [.func (.func 192) [].toArray [].toArray]) :: []) (Imm.le_refl _) ?_; exact ⟨rfl, rfl, rfl⟩

theorem txn_with_sets {I : Imm} {e : Ent} {vn vw : Value} (h1n : vn.oneCell' = true) (h1w : vw.oneCell' = true) {c m co : Nat} {Ao : Option Addr} {ba : Nat} : Spec Tryz.prog 181 [.agg ([.int .u64 (e.tok : Int), vn, .int .i64 e.place, .int .i64 e.no, .int .i64 e.low, .int .i64 e.kept, .int .i64 e.txn, .int .i64 e.lead, vw]).toArray, .slice (some ⟨ba, 0, none⟩) 1 1] I ((ba, row 196 [.func (.func 183) [].toArray [.pointer (some ⟨c, 0, none⟩)].toArray]) :: [(c, row 22 [.slice Ao m co])]) (fun v J L => I = J ∧ v = .agg ([.int .u64 (e.tok : Int), vn, .int .i64 e.place, .int .i64 e.no, .int .i64 e.low, .int .i64 e.kept, .int .i64 e.txn, .int .i64 e.lead, (.slice Ao m co)]).toArray ∧ L = (ba, row 196 [.func (.func 183) [].toArray [.pointer (some ⟨c, 0, none⟩)].toArray]) :: [(c, row 22 [.slice Ao m co])]) := by
 refine Spec.of Tryz.func181 rfl Tryz.ntmps181 (Nat.le_of_ble_eq_true rfl) (fun F => ?_)
 try simp only [nf]
 dsimp only [argsEnv]
 refine WP.seq ?_; refine WP.region [0, 1] rfl ?_; refine WP.loud rfl rfl ?_; refine Op.box rfl rfl rfl rfl rfl (fun b2 => ?_)
 refine WP.loud rfl rfl ?_; refine Op.alloc rfl rfl rfl ty_zr_43 (fun b4 => ?_)
 refine WP.nil (WP.next (WP.seq (WP.seq ?_)))
 refine WP.region [0, 1, 2] rfl ?_; refine WP.mv rfl rfl ?_; refine WP.vl rfl (Yld.len rfl ty_sl_279 rfl) ?_; refine WP.mv rfl rfl ?_; refine WP.nil (WP.next (WP.block ?_))
 refine WP.loop (X := WiX) (fun t : WiX => [(2, .pointer (some ⟨b2, 0, none⟩)), (4, .pointer (some ⟨b4, 0, none⟩)), (7, .slice (some ⟨ba, 0, none⟩) 1 1), (8, .int .i64 1), (9, .int .i64 (t.i : Int))]) (fun _ => I) (fun t : WiX => (b2, row 43 [.int .u64 (t.e.tok : Int), vn, .int .i64 t.e.place, .int .i64 t.e.no, .int .i64 t.e.low, .int .i64 t.e.kept, .int .i64 t.e.txn, .int .i64 t.e.lead, t.vw]) :: (b4, row 43 [.int .u64 0, .slice none 0 0, .int .i64 0, .int .i64 0, .int .i64 0, .int .i64 0, .int .i64 0, .int .i64 0, .slice none 0 0]) :: (ba, row 196 [.func (.func 183) [].toArray [.pointer (some ⟨c, 0, none⟩)].toArray]) :: ([(c, row 22 [.slice Ao m co])] ++ F)) (fun t : WiX => (t.i = 0 ∧ e = t.e ∧ vw = t.vw) ∨ (t.i = 1 ∧ e = t.e ∧ (.slice Ao m co) = t.vw)) (fun t => 1 - t.i) ⟨0, e, vw⟩ (.inl ⟨rfl, rfl, rfl⟩) ⟨rfl, rfl, rfl, rfl, rfl, trivial⟩ rfl zP ?_; rintro ⟨i, ei, vi⟩ hp; dsimp only at hp
 try dsimp only
 try simp only [nf]
 refine WP.seq ?_; refine WP.region [0] rfl ?_; refine WP.split rfl rfl rfl rfl (Yld.lss rfl rfl rfl) (fun hlt => ?_) (fun hlt => ?_)
 ·obtain ⟨rfl, rfl, rfl⟩ := hp.resolve_right (fun h => by omega)
  refine WP.nil (WP.next (WP.seq ?_))
  refine WP.condT rfl ?_; refine WP.skip (WP.next (WP.seq (WP.block (WP.seq ?_))))
  refine WP.region [0, 1, 2] rfl ?_; refine WP.vl rfl (Yld.indexAddr (i := 0) rfl ty_sl_279 rfl rfl (by decide)) ?_; refine WP.vl rfl (Yld.ld (v := .func (.func 183) [].toArray [.pointer (some ⟨c, 0, none⟩)].toArray) rfl ty_sc_196 rfl rfl) ?_; refine WP.mv rfl rfl ?_; refine WP.nil ?_; refine WP.sub [(2, _), (4, _), (6, _), (7, _), (8, _), (9, _), (10, _)] ?_ ⟨rfl, rfl, rfl, rfl, rfl, rfl, rfl, trivial⟩
  refine WP.next ?_; refine WP.region [0, 1] rfl ?_; refine WP.mv rfl rfl ?_; refine WP.loud rfl rfl ?_; refine Op.callE txn_sets (Enters.bound rfl Tryz.func183 rfl (rs := []) (us := [.pointer (some ⟨c, 0, none⟩)]) rfl (vs := [_]) rfl) rfl rfl zT ?_; rintro v J L1 - ⟨rfl, rfl, rfl⟩
  try simp only [nf]
  refine WP.nil ?_; refine WP.sub [(2, _), (4, _), (6, _), (7, _), (8, _), (9, _), (10, _)] ?_ ⟨rfl, rfl, rfl, rfl, rfl, rfl, rfl, trivial⟩
  refine WP.leave (WP.next ?_)
  refine WP.region [0, 1] rfl ?_; refine WP.vl rfl (Yld.add64 rfl rfl rfl (by omega)) ?_; refine WP.mv rfl rfl ?_; refine WP.nil ?_; refine WP.sub [(2, _), (4, _), (6, _), (7, _), (8, _), (9, _), (10, _)] ?_ ⟨rfl, rfl, rfl, rfl, rfl, rfl, rfl, trivial⟩
  exact WP.ag ⟨1, e, (.slice Ao m co)⟩ (.inr ⟨rfl, rfl, rfl⟩) (show 1 - 1 < 1 - 0 by decide) ⟨rfl, rfl, rfl, rfl, rfl, trivial⟩ rfl
 ·obtain ⟨rfl, rfl, rfl⟩ := hp.resolve_left (fun h => by omega)
  refine WP.nil (WP.next (WP.seq ?_))
  refine WP.condF rfl ?_; refine WP.exit (WP.thenE (WP.thenE (WP.hit (WP.next (WP.seq ?_)))))
  refine WP.region [0, 1] rfl ?_; refine WP.vl rfl (Yld.lda rfl ty_ag_43 rfl rfl) ?_; refine WP.loud rfl rfl ?_; refine Op.sA rfl rfl ty_sz_43 rfl rfl rfl (by simp only [List.all_cons, List.all_nil, h1n]; rfl) rfl ?_; refine WP.nil ?_; refine WP.sub [(2, _), (4, _), (7, _), (8, _), (9, _), (10, _)] ?_ ⟨rfl, rfl, rfl, rfl, rfl, rfl, trivial⟩
  refine WP.next (WP.ret ?_)
  refine WP.fn .ret (.inr rfl) (resC rfl ty_ag_43 rfl zM rfl) ((ba, row 196 [.func (.func 183) [].toArray [.pointer (some ⟨c, 0, none⟩)].toArray]) :: [(c, row 22 [.slice Ao m co])]) (Imm.le_refl _) ?_; exact ⟨rfl, rfl, rfl⟩


theorem RPrs.page {J : Imm} {A : Option Addr} {c : Nat} {l : List (Pr × Value)} (h : RPrs J (.slice A l.length c) l) {i : Nat} (hi : i < l.length) : ∃ b k T fr arr, A = some ⟨b, k, none⟩ ∧ J.blk b = some (.cells arr T fr) ∧ ((arr.toList.drop (k + i * 3)).take 3) = prV l[i].1 l[i].2 ∧ arr[k + i * 3]? = some (.int .i64 l[i].1.page) := by
 obtain ⟨b, k, T, fr, arr, e, hb, hc⟩ := h.at_ hi
 refine ⟨b, k, T, fr, arr, e, hb, hc, ?_⟩
 have h0 := congrArg (fun z => z[0]?) hc
 simp only [List.getElem?_take, List.getElem?_drop, prV] at h0
 rw [if_pos (by decide), Nat.add_zero, Array.getElem?_toList] at h0
 exact h0
/-- What a page's entry becomes. -/
def becE (pages : List (Pr × Value)) (txn place : Int) (r : Pr) : Ent := ⟨0, r.nodes, place, txn, place, r.nodes.length, txn, ((pages.head?).map (·.1.page)).getD 0, []⟩
theorem head_page {l : List (Pr × Value)} (h : 0 < l.length) : ((l.head?).map (·.1.page)).getD 0 = l[0].1.page := by cases l with | nil => exact absurd h (Nat.lt_irrefl _) | cons a l => rfl

theorem RPrs.dropS {J : Imm} {v : Value} {l : List (Pr × Value)} (h : RPrs J v l) {k : Nat} (hk : k ≤ l.length) : ∃ As cs, subSl 3 k l.length v = .slice As (l.drop k).length cs ∧ RPrs J (.slice As (l.drop k).length cs) (l.drop k) := by
 have q := h.sub hk (Nat.le_refl _)
 rw [List.take_of_length_le (by rw [List.length_drop]; exact Nat.le_refl _)] at q
 obtain ⟨A, c, e, _⟩ := id q.rd
 exact ⟨A, c, e, e ▸ q⟩
structure ThX where
 i : Nat
 v : Value
 L : Chunks
theorem txn_those {I : Imm} {l t g tok : Nat} {nx th vc vn vw vp vb vl : Value} {place : Int} {z : Cm} {pages : List (Pr × Value)} {k : Nat} {has : Bool} (hp : RPrs I vp pages) (hk : k ≤ pages.length) (hln : pages.length ≤ 1099511627776) : Spec Tryz.prog 113 [.pointer (some ⟨g, 0, none⟩), .int .i64 (k : Int), .bool has] I [(g, row 60 (cmV l t nx th z vc vn vw [.int .u64 (tok : Int), vp, vb, .int .i64 place, vl]))] (fun v J L => ∃ Lo, I = J ∧ L = (g, row 60 (cmV l t nx th z vc vn vw [.int .u64 (tok : Int), vp, vb, .int .i64 place, vl])) :: Lo ∧ Own 51 3 v (prC (thoseL pages k has)) (thoseL pages k has).length Lo) := by
 obtain ⟨Ap, cp, rfl, hcp, _, _⟩ := id hp.rd
 refine Spec.of Tryz.func113 rfl Tryz.ntmps113 (Nat.le_of_ble_eq_true rfl) (fun F => ?_)
 try simp only [nf]
 dsimp only [argsEnv]
 refine WP.seq ?_; refine WP.region [0] rfl ?_; refine WP.mv rfl rfl ?_; refine WP.nil (WP.next (WP.seq ?_))
 refine WP.region [0] rfl ?_; refine WP.mv rfl rfl ?_; refine WP.nil (WP.next (WP.seq (WP.seq ?_)))
 obtain ⟨As, cs, hsv, hds⟩ := hp.dropS hk
 obtain ⟨dl, hdl⟩ : ∃ x, x = pages.drop k := ⟨_, rfl⟩
 rw [← hdl] at hsv hds
 obtain ⟨fh, hfh⟩ : ∃ f, f = (fun x : Pr × Value => decide (0 < x.1.nodes.length) == has) := ⟨_, rfl⟩
 refine WP.region [0, 1, 2, 3, 4, 5, 6, 7] rfl ?_; refine WP.mv rfl rfl ?_; refine WP.vl rfl (Yld.nilCheck rfl rfl) ?_; refine WP.vl rfl (Yld.fieldAddr rfl ty_fd_60_2 rfl) ?_; refine WP.vl rfl (Yld.ld (v := .slice Ap pages.length cp) rfl ty_sc_52 rfl rfl) ?_; refine WP.mv rfl rfl ?_; refine WP.vl rfl (Yld.slice (l := k) (h := pages.length) rfl ty_sl_52 rfl (Env.limS rfl) Env.lim0 hk (by omega)) ?_; rw [hsv]
 refine WP.vl rfl (Yld.len rfl ty_sl_52 rfl) ?_; refine WP.mv rfl rfl ?_; refine WP.nil ?_; refine WP.sub [(0, _), (1, _), (2, _), (6, _), (7, _), (15, _), (16, _), (17, _)] ?_ ⟨rfl, rfl, rfl, rfl, rfl, rfl, rfl, rfl, trivial⟩
 refine WP.next (WP.block ?_)
 refine WP.loop (X := ThX) (fun u : ThX => [(2, .bool has), (7, u.v), (15, .slice As dl.length cs), (16, .int .i64 (dl.length : Int)), (17, .int .i64 (u.i : Int))]) (fun _ => I) (fun u : ThX => (g, row 60 (cmV l t nx th z vc vn vw [.int .u64 (tok : Int), (.slice Ap pages.length cp), vb, .int .i64 place, vl])) :: (u.L ++ F)) (fun u : ThX => u.i ≤ dl.length ∧ Own 51 3 u.v (prC ((dl.take u.i).filter fh)) ((dl.take u.i).filter fh).length u.L) (fun u => dl.length - u.i) ⟨0, .slice none 0 0, []⟩ ⟨Nat.zero_le _, .none0⟩ ⟨rfl, rfl, rfl, rfl, rfl, trivial⟩ rfl zP ?_; rintro ⟨i, vo, Lo⟩ ⟨hle, ho⟩; dsimp only at hle ho; obtain ⟨Ao, co, rfl, _⟩ := ho.slice
 try dsimp only
 try simp only [nf]
 refine WP.seq ?_; refine WP.region [0] rfl ?_; refine WP.split rfl rfl rfl rfl (Yld.lss rfl rfl rfl) (fun hlt => ?_) (fun hlt => ?_)
 ·have hi : i < dl.length := by omega
  obtain ⟨bl, kl, Tl, fl, arl, ea, hbl, hcl⟩ := hds.at_ hi
  have hr1 : dl[i].2.oneCell' = true := by obtain ⟨nv, ⟨A, c, e, _⟩, _⟩ := (hds.el _ (List.getElem_mem hi)).ex; rw [e]; rfl
  obtain ⟨nvi, hni, hnoi⟩ := id (hds.el _ (List.getElem_mem hi)).ex
  have hflen : ((dl.take i).filter fh).length ≤ i := Nat.le_trans (List.length_filter_le _ _) (by rw [List.length_take]; omega)
  have hdlen : dl.length ≤ pages.length := by rw [hdl, List.length_drop]; omega
  refine WP.nil (WP.next (WP.seq ?_))
  refine WP.condT rfl ?_; refine WP.skip (WP.next (WP.seq (WP.block (WP.seq ?_))))
  refine WP.region [0, 1, 2, 3] rfl ?_; refine WP.vl rfl (Yld.indexAddr (i := i) rfl ty_sl_52 (congrArg (fun a => some (Value.slice a dl.length cs)) ea) rfl hi) ?_; refine WP.vl rfl (Yld.loadAggC (vs := [.int .i64 dl[i].1.page, .int .i64 dl[i].1.prev, dl[i].2]) rfl ty_ag_51 rfl (There.i hbl) hcl rfl) ?_; refine WP.loud rfl rfl ?_; refine Op.alloc rfl rfl rfl ty_zr_51 (fun b9 => ?_)
  refine WP.loud rfl rfl ?_; refine Op.sA rfl rfl ty_sz_51 rfl rfl rfl (by show (true && (true && (dl[i].2.oneCell' && true))) = true; rw [hr1]; rfl) rfl ?_; refine WP.nil ?_; refine WP.sub [(2, _), (7, _), (9, _), (15, _), (16, _), (17, _), (18, _)] ?_ ⟨rfl, rfl, rfl, rfl, rfl, rfl, rfl, trivial⟩
  refine WP.next (WP.seq ?_)
  refine WP.region [0, 1, 2, 3, 4, 5] rfl ?_; refine WP.vl rfl (Yld.fieldAddr rfl ty_fd_51_2 rfl) ?_; refine WP.vl rfl (Yld.ld (v := dl[i].2) rfl ty_sc_41 rfl rfl) ?_; refine WP.vl rfl (Yld.lenR hni rfl ty_sl_41 rfl) ?_; refine WP.split rfl rfl rfl rfl (Yld.gtr rfl rfl rfl) (fun h1 => ?_) (fun h1 => ?_)
  ·refine WP.mv rfl rfl ?_
   by_cases hh : has = true
   ·try rw [hh]
    refine WP.vl rfl (Yld.eqlBool rfl zK rfl rfl true (by simp)) ?_; refine WP.nil ?_; refine WP.sub [(2, _), (7, _), (9, _), (15, _), (16, _), (17, _), (18, _), (26, _)] ?_ ⟨rfl, rfl, rfl, rfl, rfl, rfl, rfl, rfl, trivial⟩
    refine WP.next ?_; refine WP.condT rfl ?_; refine WP.region [0, 1, 2, 3, 4] rfl ?_; refine WP.mv rfl rfl ?_; refine WP.vl rfl (Yld.ldg (vs := [.int .i64 dl[i].1.page, .int .i64 dl[i].1.prev, dl[i].2]) rfl ty_ag_51 rfl rfl rfl) ?_; refine WP.loud rfl rfl ?_; refine Op.buildSlice rfl ty_sl_52 ty_el2_52 rfl rfl rfl rfl (vs := [_]) rfl (segs := [(0, [.int .i64 dl[i].1.page, .int .i64 dl[i].1.prev, dl[i].2])]) (cs := [.int .i64 dl[i].1.page, .int .i64 dl[i].1.prev, dl[i].2]) rfl rfl (.seg (Nat.le_refl _) rfl .nil) (fun bq => ?_)
    refine WP.loud rfl rfl ?_; refine Op.append (m := 1) rfl ty_sl_52 ty_el_52 rfl rfl rfl rfl rfl ho (SlRd.lit (m := 1) zM rfl (Nat.le_refl _)) zT (by show (true && (true && (dl[i].2.oneCell' && true))) = true; rw [hr1]; rfl) (by omega) (by omega) (fun vn2 Ln hn2 => ?_)
    try simp only [nf]
    obtain ⟨An, cn, rfl, _⟩ := hn2.slice
    have htrue : fh dl[i] = true := by rw [hfh]; show (decide (0 < dl[i].1.nodes.length) == has) = true; rw [hh]; first | rfl | (rw [decide_eq_true (by omega)]; rfl) | (rw [decide_eq_false (by omega)]; rfl)
    have hnew : Own 51 3 (.slice An (((dl.take i).filter fh).length + 1) cn) (prC ((dl.take (i + 1)).filter fh)) ((dl.take (i + 1)).filter fh).length Ln := by rw [filter_succ fh hi, if_pos htrue, prC_app, List.length_append]; exact hn2
    refine WP.mv rfl rfl ?_; refine WP.nil ?_; refine WP.sub [(2, _), (7, _), (9, _), (15, _), (16, _), (17, _), (18, _), (26, _)] ?_ ⟨rfl, rfl, rfl, rfl, rfl, rfl, rfl, rfl, trivial⟩
    refine WP.leave (WP.next ?_)
    refine WP.region [0, 1] rfl ?_; refine WP.vl rfl (Yld.add64 rfl rfl rfl (by omega)) ?_; refine WP.mv rfl rfl ?_; refine WP.nil ?_; refine WP.sub [(2, _), (7, _), (9, _), (15, _), (16, _), (17, _), (18, _), (26, _)] ?_ ⟨rfl, rfl, rfl, rfl, rfl, rfl, rfl, rfl, trivial⟩
    exact WP.ag ⟨i + 1, .slice An _ cn, Ln⟩ ⟨hi, hnew⟩ (show dl.length - (i + 1) < dl.length - i by omega) ⟨rfl, rfl, rfl, rfl, rfl, trivial⟩ rfl
   ·have hh : has = false := eq_false_of_ne_true hh
    try rw [hh]
    refine WP.vl rfl (Yld.eqlBool rfl zK rfl rfl false (by simp)) ?_; refine WP.nil ?_; refine WP.sub [(2, _), (7, _), (9, _), (15, _), (16, _), (17, _), (18, _), (26, _)] ?_ ⟨rfl, rfl, rfl, rfl, rfl, rfl, rfl, rfl, trivial⟩
    refine WP.next ?_; refine WP.condF rfl ?_; refine WP.skip (WP.leave (WP.next ?_))
    refine WP.region [0, 1] rfl ?_; refine WP.vl rfl (Yld.add64 rfl rfl rfl (by omega)) ?_; refine WP.mv rfl rfl ?_; refine WP.nil ?_; refine WP.sub [(2, _), (7, _), (9, _), (15, _), (16, _), (17, _), (18, _), (26, _)] ?_ ⟨rfl, rfl, rfl, rfl, rfl, rfl, rfl, rfl, trivial⟩
    have hfalse : fh dl[i] = false := by rw [hfh]; show (decide (0 < dl[i].1.nodes.length) == has) = false; rw [hh]; first | rfl | (rw [decide_eq_true (by omega)]; rfl) | (rw [decide_eq_false (by omega)]; rfl)
    have hkeep : Own 51 3 (.slice Ao ((dl.take i).filter fh).length co) (prC ((dl.take (i + 1)).filter fh)) ((dl.take (i + 1)).filter fh).length Lo := by rw [filter_succ fh hi, if_neg (by rw [hfalse]; decide), List.append_nil]; exact ho
    exact WP.ag ⟨i + 1, .slice Ao _ co, Lo⟩ ⟨hi, hkeep⟩ (show dl.length - (i + 1) < dl.length - i by omega) ⟨rfl, rfl, rfl, rfl, rfl, trivial⟩ rfl
  ·refine WP.mv rfl rfl ?_
   by_cases hh : has = true
   ·try rw [hh]
    refine WP.vl rfl (Yld.eqlBool rfl zK rfl rfl false (by simp)) ?_; refine WP.nil ?_; refine WP.sub [(2, _), (7, _), (9, _), (15, _), (16, _), (17, _), (18, _), (26, _)] ?_ ⟨rfl, rfl, rfl, rfl, rfl, rfl, rfl, rfl, trivial⟩
    refine WP.next ?_; refine WP.condF rfl ?_; refine WP.skip (WP.leave (WP.next ?_))
    refine WP.region [0, 1] rfl ?_; refine WP.vl rfl (Yld.add64 rfl rfl rfl (by omega)) ?_; refine WP.mv rfl rfl ?_; refine WP.nil ?_; refine WP.sub [(2, _), (7, _), (9, _), (15, _), (16, _), (17, _), (18, _), (26, _)] ?_ ⟨rfl, rfl, rfl, rfl, rfl, rfl, rfl, rfl, trivial⟩
    have hfalse : fh dl[i] = false := by rw [hfh]; show (decide (0 < dl[i].1.nodes.length) == has) = false; rw [hh]; first | rfl | (rw [decide_eq_true (by omega)]; rfl) | (rw [decide_eq_false (by omega)]; rfl)
    have hkeep : Own 51 3 (.slice Ao ((dl.take i).filter fh).length co) (prC ((dl.take (i + 1)).filter fh)) ((dl.take (i + 1)).filter fh).length Lo := by rw [filter_succ fh hi, if_neg (by rw [hfalse]; decide), List.append_nil]; exact ho
    exact WP.ag ⟨i + 1, .slice Ao _ co, Lo⟩ ⟨hi, hkeep⟩ (show dl.length - (i + 1) < dl.length - i by omega) ⟨rfl, rfl, rfl, rfl, rfl, trivial⟩ rfl
   ·have hh : has = false := eq_false_of_ne_true hh
    try rw [hh]
    refine WP.vl rfl (Yld.eqlBool rfl zK rfl rfl true (by simp)) ?_; refine WP.nil ?_; refine WP.sub [(2, _), (7, _), (9, _), (15, _), (16, _), (17, _), (18, _), (26, _)] ?_ ⟨rfl, rfl, rfl, rfl, rfl, rfl, rfl, rfl, trivial⟩
    refine WP.next ?_; refine WP.condT rfl ?_; refine WP.region [0, 1, 2, 3, 4] rfl ?_; refine WP.mv rfl rfl ?_; refine WP.vl rfl (Yld.ldg (vs := [.int .i64 dl[i].1.page, .int .i64 dl[i].1.prev, dl[i].2]) rfl ty_ag_51 rfl rfl rfl) ?_; refine WP.loud rfl rfl ?_; refine Op.buildSlice rfl ty_sl_52 ty_el2_52 rfl rfl rfl rfl (vs := [_]) rfl (segs := [(0, [.int .i64 dl[i].1.page, .int .i64 dl[i].1.prev, dl[i].2])]) (cs := [.int .i64 dl[i].1.page, .int .i64 dl[i].1.prev, dl[i].2]) rfl rfl (.seg (Nat.le_refl _) rfl .nil) (fun bq => ?_)
    refine WP.loud rfl rfl ?_; refine Op.append (m := 1) rfl ty_sl_52 ty_el_52 rfl rfl rfl rfl rfl ho (SlRd.lit (m := 1) zM rfl (Nat.le_refl _)) zT (by show (true && (true && (dl[i].2.oneCell' && true))) = true; rw [hr1]; rfl) (by omega) (by omega) (fun vn2 Ln hn2 => ?_)
    try simp only [nf]
    obtain ⟨An, cn, rfl, _⟩ := hn2.slice
    have htrue : fh dl[i] = true := by rw [hfh]; show (decide (0 < dl[i].1.nodes.length) == has) = true; rw [hh]; first | rfl | (rw [decide_eq_true (by omega)]; rfl) | (rw [decide_eq_false (by omega)]; rfl)
    have hnew : Own 51 3 (.slice An (((dl.take i).filter fh).length + 1) cn) (prC ((dl.take (i + 1)).filter fh)) ((dl.take (i + 1)).filter fh).length Ln := by rw [filter_succ fh hi, if_pos htrue, prC_app, List.length_append]; exact hn2
    refine WP.mv rfl rfl ?_; refine WP.nil ?_; refine WP.sub [(2, _), (7, _), (9, _), (15, _), (16, _), (17, _), (18, _), (26, _)] ?_ ⟨rfl, rfl, rfl, rfl, rfl, rfl, rfl, rfl, trivial⟩
    refine WP.leave (WP.next ?_)
    refine WP.region [0, 1] rfl ?_; refine WP.vl rfl (Yld.add64 rfl rfl rfl (by omega)) ?_; refine WP.mv rfl rfl ?_; refine WP.nil ?_; refine WP.sub [(2, _), (7, _), (9, _), (15, _), (16, _), (17, _), (18, _), (26, _)] ?_ ⟨rfl, rfl, rfl, rfl, rfl, rfl, rfl, rfl, trivial⟩
    exact WP.ag ⟨i + 1, .slice An _ cn, Ln⟩ ⟨hi, hnew⟩ (show dl.length - (i + 1) < dl.length - i by omega) ⟨rfl, rfl, rfl, rfl, rfl, trivial⟩ rfl
 ·refine WP.nil ?_
  refine WP.next (WP.seq ?_)
  refine WP.condF rfl ?_; refine WP.exit (WP.thenE (WP.thenE (WP.hit (WP.next (WP.seq ?_)))))
  refine WP.region [0, 1] rfl ?_; iterate 2 refine WP.mv rfl rfl ?_
  refine WP.nil ?_; refine WP.sub [(2, _), (6, _), (7, _), (15, _), (16, _), (17, _), (18, _)] ?_ ⟨rfl, rfl, rfl, rfl, rfl, rfl, rfl, trivial⟩
  refine WP.next (WP.ret ?_)
  refine WP.fn .ret (.inr rfl) (res1 rfl rfl) ((g, row 60 (cmV l t nx th z vc vn vw [.int .u64 (tok : Int), (.slice Ap pages.length cp), vb, .int .i64 place, vl])) :: Lo) (Imm.le_refl _) ?_; obtain rfl : i = dl.length := by omega
  have e : (dl.take dl.length).filter fh = thoseL pages k has := by rw [List.take_of_length_le (Nat.le_refl _), hdl, hfh]; rfl
  rw [e] at ho
  rw [e]
  exact ⟨Lo, rfl, rfl, ho⟩

theorem txn_becomes {I : Imm} {l t g tok : Nat} {nx th vc vn vw vp vb vl : Value} {place : Int} {z : Cm} {pages : List (Pr × Value)} {r : Pr} {vr : Value} (hp : RPrs I vp pages) (h0 : 0 < pages.length) (hr : RNodes I vr r.nodes) : Spec Tryz.prog 182 [.pointer (some ⟨g, 0, none⟩), .agg ([.int .i64 r.page, .int .i64 r.prev, vr]).toArray] I [(g, row 60 (cmV l t nx th z vc vn vw [.int .u64 (tok : Int), vp, vb, .int .i64 place, vl]))] (fun v J L => I = J ∧ v = .agg (entV (becE pages z.txn place r) vr (.slice none 0 0)).toArray ∧ L = [(g, row 60 (cmV l t nx th z vc vn vw [.int .u64 (tok : Int), vp, vb, .int .i64 place, vl]))]) := by
 obtain ⟨Ap, cp, rfl, hcp, _, _⟩ := id hp.rd
 obtain ⟨bl, kl, Tl, fl, arl, ea, hbl, hcl, hc0⟩ := hp.page h0
 obtain ⟨nvi, hni, hnoi⟩ := id hr.ex
 obtain ⟨Ar, cr, rfl, hcr⟩ := hni.slice'
 refine Spec.of Tryz.func182 rfl Tryz.ntmps182 (Nat.le_of_ble_eq_true rfl) (fun F => ?_)
 try simp only [nf]
 dsimp only [argsEnv]
 refine WP.seq ?_; refine WP.region [0, 1] rfl ?_; refine WP.loud rfl rfl ?_; refine Op.box rfl rfl rfl rfl rfl (fun b3 => ?_)
 refine WP.loud rfl rfl ?_; refine Op.alloc rfl rfl rfl ty_zr_43 (fun b4 => ?_)
 refine WP.nil (WP.next (WP.seq ?_))
 refine WQ.start Tryzmixed 31 zK _ rfl [31] rfl ?_; refine WQ.val rfl rfl rfl (Yld.fieldAddr rfl ty_fd_51_2 rfl) ?_; refine WQ.val rfl rfl rfl (Yld.ld (v := .slice Ar r.nodes.length cr) rfl ty_sc_41 rfl rfl) ?_; refine WQ.val rfl rfl rfl (Yld.move rfl rfl) ?_; refine WQ.val rfl rfl rfl (Yld.nilCheck rfl rfl) ?_; refine WQ.val rfl rfl rfl (Yld.fieldAddr rfl ty_fd_60_4 rfl) ?_; refine WQ.val rfl rfl rfl (Yld.ld (v := .int .i64 place) rfl ty_sc_3 rfl rfl) ?_; refine WQ.val rfl rfl rfl (Yld.move rfl rfl) ?_; refine WQ.val rfl rfl rfl (Yld.nilCheck rfl rfl) ?_; refine WQ.val rfl rfl rfl (Yld.fieldAddr rfl ty_fd_60_4 rfl) ?_; refine WQ.val rfl rfl rfl (Yld.ld (v := .int .i64 place) rfl ty_sc_3 rfl rfl) ?_; refine WQ.val rfl rfl rfl (Yld.move rfl rfl) ?_; refine WQ.val rfl rfl rfl (Yld.nilCheck rfl rfl) ?_; refine WQ.val rfl rfl rfl (Yld.fieldAddr rfl ty_fd_60_0 rfl) ?_; refine WQ.val rfl rfl rfl (Yld.fieldAddr rfl ty_fd_58_1 rfl) ?_; refine WQ.val rfl rfl rfl (Yld.ld (v := .int .i64 z.txn) rfl ty_sc_3 rfl rfl) ?_; refine WQ.val rfl rfl rfl (Yld.fieldAddr rfl ty_fd_51_2 rfl) ?_; refine WQ.val rfl rfl rfl (Yld.ld (v := .slice Ar r.nodes.length cr) rfl ty_sc_41 rfl rfl) ?_; refine WQ.val rfl rfl rfl (Yld.lenR hni rfl ty_sl_41 rfl) ?_; refine WQ.val rfl rfl rfl (Yld.move rfl rfl) ?_; refine WQ.val rfl rfl rfl (Yld.nilCheck rfl rfl) ?_; refine WQ.val rfl rfl rfl (Yld.fieldAddr rfl ty_fd_60_0 rfl) ?_; refine WQ.val rfl rfl rfl (Yld.fieldAddr rfl ty_fd_58_1 rfl) ?_; refine WQ.val rfl rfl rfl (Yld.ld (v := .int .i64 z.txn) rfl ty_sc_3 rfl rfl) ?_
 refine WQ.val rfl rfl rfl (Yld.move rfl rfl) ?_; refine WQ.val rfl rfl rfl (Yld.nilCheck rfl rfl) ?_; refine WQ.val rfl rfl rfl (Yld.fieldAddr rfl ty_fd_60_2 rfl) ?_; refine WQ.val rfl rfl rfl (Yld.ld (v := .slice Ap pages.length cp) rfl ty_sc_52 rfl rfl) ?_; refine WQ.val rfl rfl rfl (Yld.indexAddr (i := 0) rfl ty_sl_52 (congrArg (fun a => some (Value.slice a pages.length cp)) ea) rfl h0) ?_; refine WQ.val rfl rfl rfl (Yld.fieldAddr rfl ty_fd_51_0 rfl) ?_; refine WQ.val rfl rfl rfl (Yld.loadC rfl ty_sc_3 rfl (There.i hbl) hc0) ?_; refine WQ.val rfl rfl rfl (Yld.buildS (pl := [(1, 1, 1), (2, 2, 1), (4, 4, 1), (3, 3, 1), (5, 5, 1), (6, 6, 1), (7, 7, 1)]) rfl ty_zr_43 ty_zd_43 zK rfl (vs := [_, _, _, _, _, _, _]) rfl (segs := [(1, [_]), (2, [_]), (4, [_]), (3, [_]), (5, [_]), (6, [_]), (7, [_])]) rfl rfl zS) ?_; refine WQ.nil ?_; refine WP.loud rfl rfl ?_; refine Op.sA rfl rfl ty_sz_43 rfl rfl rfl rfl rfl ?_; refine WP.nil ?_; refine WP.sub [(0, _), (1, _), (3, _), (4, _)] ?_ ⟨rfl, rfl, rfl, rfl, trivial⟩
 refine WP.next (WP.ret ?_)
 refine WP.fn .ret (.inr rfl) (resC rfl ty_ag_43 rfl zM rfl) [(g, row 60 (cmV l t nx th z vc vn vw [.int .u64 (tok : Int), (.slice Ap pages.length cp), vb, .int .i64 place, vl]))] (Imm.le_refl _) ?_; exact ⟨rfl, (by rw [becE, head_page h0]; rfl), rfl⟩

def nextV (b : Nat) : Nat → Value
 | 0 => .func (.func 52) [.pointer (some ⟨b, 0, none⟩)].toArray [].toArray
 | 1 => .func (.func 112) [.pointer (some ⟨b, 0, none⟩)].toArray [].toArray
 | 2 => .func (.func 157) [.pointer (some ⟨b, 0, none⟩)].toArray [].toArray
 | 3 => .func (.func 156) [.pointer (some ⟨b, 0, none⟩)].toArray [].toArray
 | 4 => .func (.func 160) [.pointer (some ⟨b, 0, none⟩)].toArray [].toArray
 | 5 => .func (.func 185) [.pointer (some ⟨b, 0, none⟩)].toArray [].toArray
 | 6 => .func (.func 189) [.pointer (some ⟨b, 0, none⟩)].toArray [].toArray
 | 7 => .func (.func 191) [.pointer (some ⟨b, 0, none⟩)].toArray [].toArray
 | 8 => .func (.func 114) [.pointer (some ⟨b, 0, none⟩)].toArray [].toArray
 | _ => .nilFunc

/-- A Group: 0 begins, 1 appends, 2 puts, 3 swaps, 4 takes, 5 commits, 6 looks, 7 clears, 8 frees, 9 has ended. -/
structure Gp where
 at_ : Nat
 c : Cm
 tok : Nat
 pages : List (Pr × Value)
 bytes : List UInt8
 place : Int
 left : List (Pr × Value)
inductive IsGr (J : Imm) (g l t : Nat) (z : Gp) : Chunks → Prop
 | mk {vc vn vw vp vb vl : Value} (hc : SlRd (Im J) vc z.c.clear.length 1 (z.c.clear.map (Value.int .i64))) (hn : RNodes J vn z.c.ent.nodes) (hw : SlRd (Imv J) vw z.c.ent.with_.length 1 (z.c.ent.with_.map (Value.int .i64))) (hs : z.c.ent.sized)
   (hp : RPrs J vp z.pages) (hb : SlRd (Im J) vb z.bytes.length 1 (bytesV z.bytes)) (hl : RPrs J vl z.left) (hk : z.pages.length ≤ 1099511627776) :
  IsGr J g l t z [(g, row 60 (cmV l t (nextV g z.at_) (.func (.func 53) [.pointer (some ⟨g, 0, none⟩)].toArray [].toArray) z.c vc vn vw [.int .u64 (z.tok : Int), vp, vb, .int .i64 z.place, vl]))]
theorem IsGr.mono {I J : Imm} {g l t : Nat} {z : Gp} {L : Chunks} (h : IsGr I g l t z L) (hJ : I.le J) : IsGr J g l t z L := by
 cases h with
 | mk hc hn hw hs hp hb hl hk => exact .mk (hc.mono fun b o q => hJ.2 b o q) (hn.mono hJ) (hw.mono (Imv.le hJ)) hs (hp.mono hJ) (hb.mono fun b o q => hJ.2 b o q) (hl.mono hJ) hk
def Gp.go (z : Gp) (k : Nat) : Gp := { z with at_ := k }
def Gp.fin (z : Gp) (e : Int) : Gp := { z with at_ := 9, c := { z.c with e := e } }
def Gp.setC (z : Gp) (c : Cm) : Gp := { z with c := c }
def Gp.setL (z : Gp) (l : List (Pr × Value)) : Gp := { z with left := l }
def Gp.cleared (z : Gp) : Bool × Gp := if thoseL z.pages 0 false = [] then (true, (z.setL []).fin 0) else (false, (z.setL (thoseL z.pages 0 false)).go 8)
def Gp.past (z : Gp) : Bool × Gp := if z.c.clear.tail = [] then (z.setC { z.c with clear := [] }).cleared else (false, (z.setC { z.c with clear := z.c.clear.tail }).go 6)
theorem RPrs.of {J : Imm} {v : Value} {l m : List (Pr × Value)} (h : SlRd (Im J) v m.length 3 (prC m)) (hl : ∀ x ∈ l, RNodes J x.2 x.1.nodes) (hm : ∀ x ∈ m, x ∈ l) : RPrs J v m := ⟨h, fun x hx => hl x (hm x hx)⟩
theorem those_mem {l : List (Pr × Value)} {k : Nat} {has : Bool} : ∀ x ∈ thoseL l k has, x ∈ l := fun x hx => List.mem_of_mem_drop (List.mem_filter.1 hx).1
theorem those_len (l : List (Pr × Value)) (k : Nat) (has : Bool) : (thoseL l k has).length ≤ l.length := Nat.le_trans (List.length_filter_le _ _) (by rw [List.length_drop]; omega)
theorem tail_rd {J : Imm} {v : Value} {l : List Int} (h : SlRd (Im J) v l.length 1 (l.map (Value.int .i64))) (h0 : 0 < l.length) : ∃ A c, subSl 1 1 l.length v = .slice A l.tail.length c ∧ SlRd (Im J) (.slice A l.tail.length c) l.tail.length 1 (l.tail.map (Value.int .i64)) := by
 have q := h.sub (l := 1) h0 (Nat.le_refl _)
 have e : ((l.map (Value.int .i64)).drop (1 * 1)).take ((l.length - 1) * 1) = l.tail.map (Value.int .i64) := by
  rw [← List.map_drop, List.take_of_length_le (by rw [List.length_map, List.length_drop]; omega), List.drop_one]
 rw [e, show l.length - 1 = l.tail.length by rw [List.length_tail]] at q
 obtain ⟨A, c, e2, _⟩ := id q
 exact ⟨A, c, e2, e2 ▸ q⟩
theorem RPrs.tail {J : Imm} {v : Value} {l : List (Pr × Value)} (h : RPrs J v l) (h0 : 0 < l.length) : ∃ A c, subSl 3 1 l.length v = .slice A l.tail.length c ∧ RPrs J (.slice A l.tail.length c) l.tail := by
 obtain ⟨A, c, e1, e2⟩ := h.dropS (k := 1) h0
 rw [List.drop_one] at e1 e2
 exact ⟨A, c, e1, e2⟩
theorem txn_cleared {I : Imm} {g l t : Nat} {z : Gp} {Lgr : Chunks} (hg : IsGr I g l t z Lgr) : Spec Tryz.prog 53 [.pointer (some ⟨g, 0, none⟩)] I Lgr (fun v J L => v = .bool z.cleared.1 ∧ IsGr J g l t z.cleared.2 L) := by
 cases hg with
 | @mk vc vn vw vp vb vl hc hn hw hs hp hb hl hk =>
 obtain ⟨Ac, cc, rfl, hcc, _, _⟩ := id hc
 obtain ⟨nvn, hn1, hn2⟩ := id hn.ex
 obtain ⟨An, cn, rfl, _⟩ := hn1.slice'
 obtain ⟨Aw, cw, rfl, _⟩ := hw.slice'
 obtain ⟨Ap, cp, rfl, hcp, _, _⟩ := id hp.rd
 obtain ⟨Ab, cb, rfl, _⟩ := id hb
 obtain ⟨Al, cl, rfl, hcl, _, _⟩ := id hl.rd
 refine Spec.of Tryz.func53 rfl Tryz.ntmps53 (Nat.le_of_ble_eq_true rfl) (fun F => ?_)
 try simp only [nf]
 dsimp only [argsEnv]
 refine WP.seq ?_; refine WP.region [0] rfl ?_; refine WP.mv rfl rfl ?_; refine WP.nil (WP.next (WP.seq (WP.seq ?_)))
 refine WP.region [0, 1, 2, 3, 4, 5] rfl ?_; iterate 2 refine WP.mv rfl rfl ?_
 refine WP.loud rfl rfl ?_; refine Op.cl (txn_those hp (k := 0) (has := false) (Nat.zero_le _) hk) rfl Tryz.func113 rfl rfl rfl rfl ?_; rintro v J L1 - ⟨Lo, rfl, rfl, ho⟩
 try simp only [nf]
 obtain ⟨Ao, co, rfl, _⟩ := ho.slice
 refine WP.vl rfl (Yld.nilCheck rfl rfl) ?_; refine WP.vl rfl (Yld.fieldAddr rfl ty_fd_60_5 rfl) ?_; refine WP.loud rfl rfl ?_; refine Op.s1 rfl rfl ty_sz_52 rfl rfl rfl ?_; refine WP.nil ?_; refine WP.sub [(0, _), (2, _)] ?_ ⟨rfl, rfl, trivial⟩
 refine WP.next (WP.seq ?_)
 refine WP.shO ho (fun J2 hJ2 hso => ?_)
 have hlf : RPrs J2 (.slice Ao (thoseL z.pages 0 false).length co) (thoseL z.pages 0 false) := RPrs.of hso (fun x hx => (hp.el x hx).mono hJ2) those_mem
 refine WP.region [0, 1, 2, 3, 4, 5] rfl ?_; refine WP.mv rfl rfl ?_; refine WP.vl rfl (Yld.nilCheck rfl rfl) ?_; refine WP.vl rfl (Yld.fieldAddr rfl ty_fd_60_5 rfl) ?_; refine WP.vl rfl (Yld.ld (v := .slice Ao (thoseL z.pages 0 false).length co) rfl ty_sc_52 rfl rfl) ?_; refine WP.vl rfl (Yld.len rfl ty_sl_52 rfl) ?_; refine WP.split rfl rfl rfl rfl (Yld.eql rfl rfl rfl) (fun h0 => ?_) (fun h0 => ?_)
 ·refine WP.nil ?_
  refine WP.sub [(0, _), (2, _), (13, _)] ?_ ⟨rfl, rfl, rfl, trivial⟩
  refine WP.next ?_; refine WP.condT rfl ?_; refine WP.seq ?_; refine WP.region [0, 1, 2, 3, 4, 5] rfl ?_; refine WP.mv rfl rfl ?_; refine WP.vl rfl (Yld.nilCheck rfl rfl) ?_; refine WP.vl rfl (Yld.fieldAddr rfl ty_fd_60_0 rfl) ?_; refine WP.vl rfl (Yld.fieldAddr rfl ty_fd_58_0 rfl) ?_; refine WP.loud rfl rfl ?_; refine Op.cl (txn_end (b := g)) rfl Tryz.func110 rfl rfl rfl rfl ?_; rintro v J L1 - ⟨rfl, rfl, rfl⟩
  try simp only [nf]
  refine WP.mv rfl rfl ?_; refine WP.nil ?_; refine WP.sub [(0, _), (2, _), (13, _)] ?_ ⟨rfl, rfl, rfl, trivial⟩
  refine WP.next (WP.ret ?_)
  refine WP.fn .ret (.inr rfl) (res1 rfl rfl) [(g, row 60 (cmV l t (nextV g 9) (.func (.func 53) [.pointer (some ⟨g, 0, none⟩)].toArray [].toArray) ({ z.c with e := 0 } : Cm) (.slice Ac z.c.clear.length cc) (.slice An z.c.ent.nodes.length cn) (.slice Aw z.c.ent.with_.length cw) [.int .u64 (z.tok : Int), .slice Ap z.pages.length cp, .slice Ab z.bytes.length cb, .int .i64 z.place, .slice Ao (thoseL z.pages 0 false).length co]))] hJ2 ?_; have hm : IsGr J2 g l t z _ := (IsGr.mk hc hn hw hs hp hb hl hk).mono hJ2
  have e0 : thoseL z.pages 0 false = [] := List.length_eq_zero_iff.1 (by omega)
  have e : z.cleared = (true, (z.setL []).fin 0) := if_pos e0
  rw [e]
  rw [e0] at hlf ⊢
  refine ⟨rfl, ?_⟩
  exact .mk (hc.mono fun b o q => hJ2.2 b o q) (hn.mono hJ2) (hw.mono (Imv.le hJ2)) hs (hp.mono hJ2) (hb.mono fun b o q => hJ2.2 b o q) hlf hk
 ·refine WP.nil ?_
  refine WP.sub [(0, _), (2, _), (13, _)] ?_ ⟨rfl, rfl, rfl, trivial⟩
  refine WP.next ?_; refine WP.condF rfl ?_; refine WP.skip (WP.next (WP.seq ?_))
  refine WP.region [0, 1, 2, 3, 4, 5, 6, 7] rfl ?_; refine WP.mv rfl rfl ?_; refine WP.vl rfl (Yld.nilCheck rfl rfl) ?_; refine WP.vl rfl (Yld.fieldAddr rfl ty_fd_60_0 rfl) ?_; refine WP.vl rfl (Yld.fieldAddr rfl ty_fd_58_0 rfl) ?_; refine WP.mv rfl rfl ?_; refine WP.vl rfl (Yld.makeFunc rfl (vs := [_]) (us := []) rfl rfl) ?_; refine WP.loud rfl rfl ?_; refine Op.cl (txn_goes (b := g)) rfl Tryz.func111 rfl rfl rfl rfl ?_; rintro v J L1 - ⟨rfl, rfl, rfl⟩
  try simp only [nf]
  refine WP.mv rfl rfl ?_; refine WP.nil ?_; refine WP.sub [(0, _), (2, _), (13, _)] ?_ ⟨rfl, rfl, rfl, trivial⟩
  refine WP.next (WP.ret ?_)
  refine WP.fn .ret (.inr rfl) (res1 rfl rfl) [(g, row 60 (cmV l t (nextV g 8) (.func (.func 53) [.pointer (some ⟨g, 0, none⟩)].toArray [].toArray) z.c (.slice Ac z.c.clear.length cc) (.slice An z.c.ent.nodes.length cn) (.slice Aw z.c.ent.with_.length cw) [.int .u64 (z.tok : Int), .slice Ap z.pages.length cp, .slice Ab z.bytes.length cb, .int .i64 z.place, .slice Ao (thoseL z.pages 0 false).length co]))] hJ2 ?_; have hm : IsGr J2 g l t z _ := (IsGr.mk hc hn hw hs hp hb hl hk).mono hJ2
  have e0 : ¬ thoseL z.pages 0 false = [] := fun e => h0 (by rw [e]; rfl)
  have e : z.cleared = (false, (z.setL (thoseL z.pages 0 false)).go 8) := if_neg e0
  rw [e]
  refine ⟨rfl, ?_⟩
  exact .mk (hc.mono fun b o q => hJ2.2 b o q) (hn.mono hJ2) (hw.mono (Imv.le hJ2)) hs (hp.mono hJ2) (hb.mono fun b o q => hJ2.2 b o q) hlf hk


end Go.Hp
