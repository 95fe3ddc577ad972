import Derived.Test.YtilgaelpbgfnnaaGreatRdD
set_option linter.unusedVariables false
set_option linter.unusedSimpArgs false
namespace Go.Hp
open Go Go.Proofs

theorem nd_cells {arr : Array Value} {k : Nat} {x : Bool × Value} (h : (arr.toList.drop k).take 2 = ndV x) : arr[k]? = some (.bool x.1) ∧ arr[k + 1]? = some x.2 := by
 have h0 := take_cells h 0 _ rfl (by decide)
 have h1 := take_cells h 1 _ rfl (by decide)
 rw [Array.getElem?_toList] at h0 h1
 exact ⟨h0, h1⟩
theorem ref9_SameNodes {I : Imm} {va vb : Value} {la lb : List (Bool × List UInt8)} (ha : RNodes I va la) (hb : RNodes I vb lb) (hla : la.length ≤ 140737488351232) : Spec Tryz.prog 78 [va, vb] I [] (fun v J L => v = .bool (decide (la = lb)) ∧ I = J ∧ L = []) := by
 obtain ⟨nva, hna, hnoa⟩ := id ha.ex
 obtain ⟨Aa, ca, rfl, hca⟩ := hna.slice'
 obtain ⟨nvb, hnb, hnob⟩ := id hb.ex
 obtain ⟨Ab, cb, rfl, hcb⟩ := hnb.slice'
 refine Spec.of Tryz.func78 rfl Tryz.ntmps78 (Nat.le_of_ble_eq_true rfl) (fun F => ?_)
 try simp only [nf]
 dsimp only [argsEnv]
 refine WP.seq ?_; refine WP.region [0] rfl ?_; refine WP.mv rfl rfl ?_; refine WP.nil ?_; refine WP.next ?_; iterate 2 refine WP.seq ?_
 refine WP.region [0, 1, 2, 3, 4] rfl ?_; refine WP.mv rfl rfl ?_; refine WP.vl rfl (Yld.len rfl ty_sl_41 rfl) ?_; refine WP.mv rfl rfl ?_; refine WP.vl rfl (Yld.len rfl ty_sl_41 rfl) ?_; refine WP.split rfl rfl rfl rfl (Yld.neq rfl rfl rfl) (fun hne => ?_) (fun hne => ?_)
 ·refine WP.nil ?_
  refine WP.sub [(0, _), (1, _), (4, _), (10, _)] ?_ ⟨rfl, rfl, rfl, rfl, trivial⟩
  refine WP.next ?_; refine WP.condT rfl ?_; refine WP.seq ?_; refine WP.region [0] rfl ?_; refine WP.mv rfl rfl ?_; refine WP.nil ?_; refine WP.next ?_; refine WP.ret ?_; refine WP.fn .ret (.inr rfl) (res1 rfl rfl) [] (Imm.le_refl _) ?_; exact ⟨congrArg Value.bool (decide_eq_false (fun h => hne (by rw [h]))).symm, rfl, rfl⟩
 ·refine WP.nil ?_
  refine WP.sub [(0, _), (1, _), (4, _), (10, _)] ?_ ⟨rfl, rfl, rfl, rfl, trivial⟩
  refine WP.next ?_; refine WP.condF rfl ?_; refine WP.skip ?_; refine WP.next ?_; iterate 2 refine WP.seq ?_
  refine WP.region [0] rfl ?_; refine WP.mv rfl rfl ?_; refine WP.nil ?_; refine WP.next ?_; refine WP.block ?_; refine WP.loop (X := Nat) (fun i : Nat => [(0, .slice Aa la.length ca), (1, .slice Ab lb.length cb), (5, .int .i64 (i : Int))]) (fun _ => I) (fun _ : Nat => F) (fun i : Nat => i ≤ la.length ∧ ∀ k, k < i → la[k]? = lb[k]?) (fun i => la.length - i) 0 ⟨Nat.zero_le _, fun k hk => absurd hk (Nat.not_lt_zero _)⟩ ⟨rfl, rfl, rfl, trivial⟩ rfl (by (try dsimp only); repeat (first | exact Rm.chunk | exact Rm.here | exact Rm.nil0 | apply Rm.skip | apply Rm.skipS | apply PX.cons | (apply PX.done; (repeat (first | exact Leave.done | apply Leave.drop | apply Leave.dropS)); done) | apply PX.app)) ?_; rintro i ⟨hle, hall⟩
  try dsimp only
  try simp only [nf]
  iterate 2 refine WP.seq ?_
  refine WP.region [0, 1, 2, 3] rfl ?_; iterate 2 refine WP.mv rfl rfl ?_
  refine WP.vl rfl (Yld.len rfl ty_sl_41 rfl) ?_; refine WP.split rfl rfl rfl rfl (Yld.lss rfl rfl rfl) (fun hlt => ?_) (fun hlt => ?_)
  ·have hia : i < la.length := by omega
   have hina : i < nva.length := by rw [hnoa.len]; exact hia
   obtain ⟨da, hd1a, hd2a⟩ := hnoa.at_ i _ (List.getElem?_eq_getElem hina)
   obtain ⟨bna, kna, Tna, frna, arna, rfl, hbna, hsega, _⟩ := hna.elem hia
   have hfa := flat_seg ndV_len hina []
   rw [List.append_nil, Nat.zero_add] at hfa
   rw [hfa] at hsega
   obtain ⟨hc1a, hc2a⟩ := nd_cells hsega
   have hea : la[i] = (nva[i].1, da) := by rw [List.getElem?_eq_getElem hia] at hd1a; exact Option.some.inj hd1a
   have hib : i < lb.length := by omega
   have hinb : i < nvb.length := by rw [hnob.len]; exact hib
   obtain ⟨db, hd1b, hd2b⟩ := hnob.at_ i _ (List.getElem?_eq_getElem hinb)
   obtain ⟨bnb, knb, Tnb, frnb, arnb, rfl, hbnb, hsegb, _⟩ := hnb.elem hib
   have hfb := flat_seg ndV_len hinb []
   rw [List.append_nil, Nat.zero_add] at hfb
   rw [hfb] at hsegb
   obtain ⟨hc1b, hc2b⟩ := nd_cells hsegb
   have heb : lb[i] = (nvb[i].1, db) := by rw [List.getElem?_eq_getElem hib] at hd1b; exact Option.some.inj hd1b
   refine WP.nil ?_; refine WP.sub [(0, _), (1, _), (5, _), (14, _)] ?_ ⟨rfl, rfl, rfl, rfl, trivial⟩
   refine WP.next ?_; refine WP.condT rfl ?_; refine WP.skip ?_; refine WP.next ?_; refine WP.seq ?_; refine WP.block ?_; refine WP.seq ?_; refine WQ.startAll Tryzmixed (by kernel_rfl) _ rfl ?_; iterate 2 refine WQ.val rfl rfl rfl (Yld.move rfl rfl) ?_
   refine WQ.val rfl rfl rfl (Yld.indexAddr (i := i) rfl ty_sl_41 rfl rfl hia) ?_; refine WQ.val rfl rfl rfl (Yld.fieldAddr rfl ty_fd_63_0 rfl) ?_; refine WQ.val rfl rfl rfl (Yld.loadC (v := .bool nva[i].1) rfl ty_sc_4 rfl (There.i hbna) hc1a) ?_; iterate 2 refine WQ.val rfl rfl rfl (Yld.move rfl rfl) ?_
   refine WQ.val rfl rfl rfl (Yld.indexAddr (i := i) rfl ty_sl_41 rfl rfl hib) ?_; refine WQ.val rfl rfl rfl (Yld.fieldAddr rfl ty_fd_63_0 rfl) ?_; refine WQ.val rfl rfl rfl (Yld.loadC (v := .bool nvb[i].1) rfl ty_sc_4 rfl (There.i hbnb) hc1b) ?_; refine WQ.val rfl rfl rfl (Yld.neqBool rfl (by kernel_rfl) rfl rfl (decide (¬ nva[i].1 = nvb[i].1)) (by first | rfl | simp)) ?_; by_cases hb1 : (decide (¬ nva[i].1 = nvb[i].1)) = true
   ·rw [hb1]
    refine WQ.val rfl rfl rfl (Yld.move rfl rfl) ?_; iterate 13 refine WQ.passG rfl rfl rfl rfl rfl rfl rfl ?_
    refine WQ.val rfl rfl rfl (Yld.pickT rfl rfl rfl) ?_; refine WQ.nil ?_; refine WP.sub [(0, _), (1, _), (5, _), (14, _), (42, _)] ?_ ⟨rfl, rfl, rfl, rfl, rfl, trivial⟩
    refine WP.next ?_; refine WP.condT rfl ?_; refine WP.seq ?_; refine WP.region [0] rfl ?_; refine WP.mv rfl rfl ?_; refine WP.nil ?_; refine WP.next ?_; refine WP.ret ?_; refine WP.fn .ret (.inr rfl) (res1 rfl rfl) [] (Imm.le_refl _) ?_; refine ⟨congrArg Value.bool (decide_eq_false (fun h => ?_)).symm, rfl, rfl⟩
    subst h
    rw [hea] at heb
    injection heb with q1 q2
    first | (rw [q1] at hb1; simp at hb1; done) | (exact absurd q2 (of_decide_eq_true hb2))
   ·have hb1 : (decide (¬ nva[i].1 = nvb[i].1)) = false := eq_false_of_ne_true hb1
    rw [hb1]
    refine WQ.val rfl rfl rfl (Yld.move rfl rfl) ?_; iterate 2 refine WQ.valG rfl rfl rfl rfl rfl rfl (Yld.move rfl rfl) ?_
    refine WQ.valG rfl rfl rfl rfl rfl rfl (Yld.indexAddr (i := i) rfl ty_sl_41 rfl rfl hia) ?_; refine WQ.valG rfl rfl rfl rfl rfl rfl (Yld.fieldAddr rfl ty_fd_63_1 rfl) ?_; refine WQ.valG rfl rfl rfl rfl rfl rfl (Yld.loadC (v := nva[i].2) rfl ty_sc_49 rfl (There.i hbna) hc2a) ?_; refine WQ.valG rfl rfl rfl rfl rfl rfl (Yld.str (e := 5) rfl (by kernel_rfl) (by kernel_rfl) (by kernel_rfl) rfl (hd2a.mono (fun b o h => .inr h))) ?_; iterate 2 refine WQ.valG rfl rfl rfl rfl rfl rfl (Yld.move rfl rfl) ?_
    refine WQ.valG rfl rfl rfl rfl rfl rfl (Yld.indexAddr (i := i) rfl ty_sl_41 rfl rfl hib) ?_; refine WQ.valG rfl rfl rfl rfl rfl rfl (Yld.fieldAddr rfl ty_fd_63_1 rfl) ?_; refine WQ.valG rfl rfl rfl rfl rfl rfl (Yld.loadC (v := nvb[i].2) rfl ty_sc_49 rfl (There.i hbnb) hc2b) ?_; refine WQ.valG rfl rfl rfl rfl rfl rfl (Yld.str (e := 5) rfl (by kernel_rfl) (by kernel_rfl) (by kernel_rfl) rfl (hd2b.mono (fun b o h => .inr h))) ?_; refine WQ.valG rfl rfl rfl rfl rfl rfl (Yld.neqStr rfl rfl rfl (decide (¬ da = db)) (by simp)) ?_; by_cases hb2 : (decide (¬ da = db)) = true
    ·rw [hb2]
     refine WQ.val rfl rfl rfl (Yld.pickF rfl rfl rfl) ?_; refine WQ.nil ?_; refine WP.sub [(0, _), (1, _), (5, _), (14, _), (42, _)] ?_ ⟨rfl, rfl, rfl, rfl, rfl, trivial⟩
     refine WP.next ?_; refine WP.condT rfl ?_; refine WP.seq ?_; refine WP.region [0] rfl ?_; refine WP.mv rfl rfl ?_; refine WP.nil ?_; refine WP.next ?_; refine WP.ret ?_; refine WP.fn .ret (.inr rfl) (res1 rfl rfl) [] (Imm.le_refl _) ?_; refine ⟨congrArg Value.bool (decide_eq_false (fun h => ?_)).symm, rfl, rfl⟩
     subst h
     rw [hea] at heb
     injection heb with q1 q2
     first | (rw [q1] at hb1; simp at hb1; done) | (exact absurd q2 (of_decide_eq_true hb2))
    ·have hb2 : (decide (¬ da = db)) = false := eq_false_of_ne_true hb2
     rw [hb2]
     refine WQ.val rfl rfl rfl (Yld.pickF rfl rfl rfl) ?_; refine WQ.nil ?_; refine WP.sub [(0, _), (1, _), (5, _), (14, _), (42, _)] ?_ ⟨rfl, rfl, rfl, rfl, rfl, trivial⟩
     refine WP.next ?_; refine WP.condF rfl ?_; refine WP.skip ?_; refine WP.leave ?_; refine WP.next ?_; refine WP.region [0, 1, 2] rfl ?_; refine WP.mv rfl rfl ?_; refine WP.vl rfl (Yld.add64 rfl rfl rfl (by omega)) ?_; refine WP.mv rfl rfl ?_; refine WP.nil ?_; refine WP.sub [(0, _), (1, _), (5, _), (14, _), (42, _)] ?_ ⟨rfl, rfl, rfl, rfl, rfl, trivial⟩
     exact WP.ag (i + 1) ⟨hia, fun k hk => by
    rcases Nat.lt_succ_iff_lt_or_eq.1 hk with hk | hk
    ·exact hall k hk
    ·subst hk; rw [List.getElem?_eq_getElem hia, List.getElem?_eq_getElem hib, hea, heb]; have q1 : nva[k].1 = nvb[k].1 := (by simpa using hb1); have q2 : da = db := (by simpa using hb2); rw [q1, q2]⟩ (show la.length - (i + 1) < la.length - i by omega) ⟨rfl, rfl, rfl, trivial⟩ rfl
  ·refine WP.nil ?_
   refine WP.sub [(0, _), (1, _), (5, _), (14, _)] ?_ ⟨rfl, rfl, rfl, rfl, trivial⟩
   refine WP.next ?_; refine WP.condF rfl ?_; refine WP.exit ?_; iterate 2 refine WP.thenE ?_
   refine WP.hit ?_; refine WP.next ?_; refine WP.seq ?_; refine WP.region [0] rfl ?_; refine WP.mv rfl rfl ?_; refine WP.nil ?_; refine WP.next ?_; refine WP.ret ?_; refine WP.fn .ret (.inr rfl) (res1 rfl rfl) [] (Imm.le_refl _) ?_; exact ⟨congrArg Value.bool (decide_eq_true (List.ext_getElem? fun k => by by_cases hk : k < i; exact hall k hk; rw [List.getElem?_eq_none (by omega), List.getElem?_eq_none (by omega)])).symm, rfl, rfl⟩

theorem ref12_Same {I : Imm} {p q : Pr} {vp vq : Value} (hp : RNodes I vp p.nodes) (hq : RNodes I vq q.nodes) (hln : p.nodes.length ≤ 140737488351232) : Spec Tryz.prog 33 [.agg ([.int .i64 p.page, .int .i64 p.prev, vp]).toArray, .agg ([.int .i64 q.page, .int .i64 q.prev, vq]).toArray] I [] (fun v J L => ∃ c : Bool, v = .bool c ∧ (c = true ↔ p = q) ∧ I = J ∧ L = []) := by
 obtain ⟨nvp, hnp, hnop⟩ := id hp.ex
 obtain ⟨Ap, cp, rfl, hcp⟩ := hnp.slice'
 obtain ⟨nvq, hnq, hnoq⟩ := id hq.ex
 obtain ⟨Aq, cq, rfl, hcq⟩ := hnq.slice'
 refine Spec.of Tryz.func33 rfl Tryz.ntmps33 (Nat.le_of_ble_eq_true rfl) (fun F => ?_)
 try simp only [nf]
 dsimp only [argsEnv]
 refine WP.seq ?_; refine WP.region [0, 1, 2] rfl ?_; refine WP.loud rfl rfl ?_; refine Op.box rfl rfl rfl rfl rfl (fun b2 => ?_)
 refine WP.loud rfl rfl ?_; refine Op.box rfl rfl rfl rfl rfl (fun b3 => ?_)
 refine WP.mv rfl rfl ?_; refine WP.nil ?_; refine WP.next ?_; refine WP.seq ?_; refine WP.region [0, 1, 2, 3, 4, 5] rfl ?_; refine WP.vl rfl (Yld.fieldAddr rfl ty_fd_51_2 rfl) ?_; refine WP.vl rfl (Yld.ld (v := .slice Ap p.nodes.length cp) rfl ty_sc_41 rfl rfl) ?_; refine WP.vl rfl (Yld.fieldAddr rfl ty_fd_51_2 rfl) ?_; refine WP.vl rfl (Yld.ld (v := .slice Aq q.nodes.length cq) rfl ty_sc_41 rfl rfl) ?_; refine WP.loud rfl rfl ?_; refine Op.cl (ref9_SameNodes hp hq hln) rfl Tryz.func78 rfl rfl rfl rfl ?_; rintro v J L1 - ⟨rfl, rfl, rfl⟩
 try simp only [nf]
 by_cases hsn : (decide (p.nodes = q.nodes)) = true
 ·rw [hsn]
  refine WP.mv rfl rfl ?_; refine WP.nil ?_; refine WP.sub [(0, _), (1, _), (2, _), (3, _), (4, _), (5, _)] ?_ ⟨rfl, rfl, rfl, rfl, rfl, rfl, trivial⟩
  refine WP.next ?_; refine WP.seq ?_; refine WP.region [0, 1, 2, 3, 4, 5, 6, 7, 8, 9, 10, 11, 12, 13, 14, 15] rfl ?_; iterate 2 refine WP.mv rfl rfl ?_
  refine WP.valG rfl rfl rfl rfl rfl rfl rfl (Yld.fieldAddr rfl ty_fd_51_0 rfl) ?_; refine WP.valG rfl rfl rfl rfl rfl rfl rfl (Yld.ld rfl ty_sc_3 rfl rfl) ?_; refine WP.valG rfl rfl rfl rfl rfl rfl rfl (Yld.fieldAddr rfl ty_fd_51_0 rfl) ?_; refine WP.valG rfl rfl rfl rfl rfl rfl rfl (Yld.ld rfl ty_sc_3 rfl rfl) ?_; refine WP.splitG rfl rfl rfl rfl rfl rfl rfl (Yld.eql rfl rfl rfl) (fun h1 => ?_) (fun h1 => ?_)
  ·refine WP.vl rfl (Yld.pickT rfl rfl rfl) ?_
   refine WP.mv rfl rfl ?_; refine WP.valG rfl rfl rfl rfl rfl rfl rfl (Yld.fieldAddr rfl ty_fd_51_1 rfl) ?_; refine WP.valG rfl rfl rfl rfl rfl rfl rfl (Yld.ld rfl ty_sc_3 rfl rfl) ?_; refine WP.valG rfl rfl rfl rfl rfl rfl rfl (Yld.fieldAddr rfl ty_fd_51_1 rfl) ?_; refine WP.valG rfl rfl rfl rfl rfl rfl rfl (Yld.ld rfl ty_sc_3 rfl rfl) ?_; refine WP.splitG rfl rfl rfl rfl rfl rfl rfl (Yld.eql rfl rfl rfl) (fun h2 => ?_) (fun h2 => ?_)
   ·refine WP.vl rfl (Yld.pickT rfl rfl rfl) ?_
    refine WP.mv rfl rfl ?_; refine WP.nil ?_; refine WP.sub [(0, _), (1, _), (2, _), (3, _), (4, _), (5, _)] ?_ ⟨rfl, rfl, rfl, rfl, rfl, rfl, trivial⟩
    refine WP.next ?_; refine WP.ret ?_; refine WP.fn .ret (.inr rfl) (res1 rfl rfl) [] (Imm.le_refl _) ?_; exact ⟨true, rfl, ⟨fun _ => by obtain ⟨p1, q1, n1⟩ := p; obtain ⟨p2, q2, n2⟩ := q; dsimp only at *; have e3 := of_decide_eq_true hsn; subst e3; rw [h1, h2], fun _ => rfl⟩, rfl, rfl⟩
   ·refine WP.vl rfl (Yld.pickT rfl rfl rfl) ?_
    refine WP.mv rfl rfl ?_; refine WP.nil ?_; refine WP.sub [(0, _), (1, _), (2, _), (3, _), (4, _), (5, _)] ?_ ⟨rfl, rfl, rfl, rfl, rfl, rfl, trivial⟩
    refine WP.next ?_; refine WP.ret ?_; refine WP.fn .ret (.inr rfl) (res1 rfl rfl) [] (Imm.le_refl _) ?_; exact ⟨false, rfl, ⟨fun h => (by cases h), fun h => by subst h; first | exact absurd rfl h1 | exact absurd rfl h2 | (simp at hsn)⟩, rfl, rfl⟩
  ·refine WP.vl rfl (Yld.pickT rfl rfl rfl) ?_
   refine WP.mv rfl rfl ?_; iterate 5 refine WP.passG rfl rfl rfl rfl rfl rfl rfl rfl ?_
   refine WP.vl rfl (Yld.pickF rfl rfl rfl) ?_; refine WP.mv rfl rfl ?_; refine WP.nil ?_; refine WP.sub [(0, _), (1, _), (2, _), (3, _), (4, _), (5, _)] ?_ ⟨rfl, rfl, rfl, rfl, rfl, rfl, trivial⟩
   refine WP.next ?_; refine WP.ret ?_; refine WP.fn .ret (.inr rfl) (res1 rfl rfl) [] (Imm.le_refl _) ?_; exact ⟨false, rfl, ⟨fun h => (by cases h), fun h => by subst h; first | exact absurd rfl h1 | exact absurd rfl h2 | (simp at hsn)⟩, rfl, rfl⟩
 ·have hsn : (decide (p.nodes = q.nodes)) = false := eq_false_of_ne_true hsn
  rw [hsn]
  refine WP.mv rfl rfl ?_; refine WP.nil ?_; refine WP.sub [(0, _), (1, _), (2, _), (3, _), (4, _), (5, _)] ?_ ⟨rfl, rfl, rfl, rfl, rfl, rfl, trivial⟩
  refine WP.next ?_; refine WP.seq ?_; refine WP.region [0, 1, 2, 3, 4, 5, 6, 7, 8, 9, 10, 11, 12, 13, 14, 15] rfl ?_; iterate 2 refine WP.mv rfl rfl ?_
  iterate 5 refine WP.passG rfl rfl rfl rfl rfl rfl rfl rfl ?_
  refine WP.vl rfl (Yld.pickF rfl rfl rfl) ?_; refine WP.mv rfl rfl ?_; iterate 5 refine WP.passG rfl rfl rfl rfl rfl rfl rfl rfl ?_
  refine WP.vl rfl (Yld.pickF rfl rfl rfl) ?_; refine WP.mv rfl rfl ?_; refine WP.nil ?_; refine WP.sub [(0, _), (1, _), (2, _), (3, _), (4, _), (5, _)] ?_ ⟨rfl, rfl, rfl, rfl, rfl, rfl, trivial⟩
  refine WP.next ?_; refine WP.ret ?_; refine WP.fn .ret (.inr rfl) (res1 rfl rfl) [] (Imm.le_refl _) ?_; exact ⟨false, rfl, ⟨fun h => (by cases h), fun h => by subst h; first | exact absurd rfl h1 | exact absurd rfl h2 | (simp at hsn)⟩, rfl, rfl⟩


end Go.Hp
