import Derived.Test.YtcnfcdlapbjgeaaSegG
set_option linter.unusedVariables false
set_option linter.unusedSimpArgs false
namespace Go.Hp
open Go Go.Proofs

structure pgood (f : Pt) (n i : Nat) (p : Pt) : Prop where
 may : p.may
 index : p.index = i
 parts : p.parts = n
 no : p.no = f.no
 era : p.era = f.era
 place : p.place = f.place + i
instance (f : Pt) (n i : Nat) (p : Pt) : Decidable (pgood f n i p) := decidable_of_iff (p.may ∧ p.index = i ∧ p.parts = n ∧ p.no = f.no ∧ p.era = f.era ∧ p.place = f.place + i) ⟨fun h => ⟨h.1, h.2.1, h.2.2.1, h.2.2.2.1, h.2.2.2.2.1, h.2.2.2.2.2⟩, fun h => ⟨h.may, h.index, h.parts, h.no, h.era, h.place⟩⟩
def pjoin (l : List Pt) : List UInt8 × Int := if l ≠ [] ∧ ∀ i, i < l.length → pgood (l.headD ptZ) l.length i (l.getD i ptZ) then (l.flatMap (·.data), 0) else ([], 71)
theorem ptV_one {p : Pt} {v : Value} (h : ∃ A n c, v = .slice A n c) : (ptV p v).all (·.oneCell') = true := by obtain ⟨_, _, _, rfl⟩ := h; rfl
theorem fst_getD {l : List (Pt × Value)} {i : Nat} (h : i < l.length) : (l.map (·.1)).getD i ptZ = l[i].1 := by simp [h]
theorem fst_head {l : List (Pt × Value)} (h : 0 < l.length) : (l.map (·.1)).headD ptZ = l[0].1 := by cases l with | nil => simp at h | cons a l => rfl
theorem pjoin_bad {l : List (Pt × Value)} {i : Nat} (hi : i < l.length) (h : ¬ pgood (l[0]'(by omega)).1 l.length i l[i].1) : pjoin (l.map (·.1)) = ([], 71) := if_neg (fun g => h (by
 have := g.2 i (by simpa using hi)
 rw [fst_getD hi, fst_head (by omega), List.length_map] at this; exact this))
theorem pjoin_good {l : List (Pt × Value)} (h0 : 0 < l.length) (h : ∀ i (hi : i < l.length), pgood l[0].1 l.length i l[i].1) : pjoin (l.map (·.1)) = (l.flatMap (·.1.data), 0) := by
 have e : (l.map (·.1)).flatMap (·.data) = l.flatMap (·.1.data) := by rw [List.flatMap_map]
 rw [← e]
 refine if_pos ⟨fun e => ?_, fun i hi => ?_⟩
 ·have := congrArg List.length e; simp at this; subst this; simp at h0
 ·rw [List.length_map] at hi ⊢
  rw [fst_getD hi, fst_head h0]; exact h i hi
theorem jd_le {l : List (Pt × Value)} : ∀ (i : Nat), (∀ j (hj : j < i) (hjl : j < l.length), l[j].1.data.length ≤ 198) → i ≤ l.length → ((l.take i).flatMap (·.1.data)).length ≤ 198 * i
 | 0, _, _ => by simp
 | i + 1, h, hl => by
  rw [List.take_succ_eq_append_getElem (by omega), List.flatMap_append, List.length_append]
  have h1 := jd_le i (fun j hj hjl => h j (by omega) hjl) (by omega)
  have h2 := h i (by omega) (by omega)
  simp only [List.flatMap_cons, List.flatMap_nil, List.append_nil]
  omega
set_option maxHeartbeats 1000000 in
theorem seg_Join {I : Imm} {l : List (Pt × Value)} {v : Value} (hr : RParts I v l) (hln : l.length ≤ 2199023255552) : Spec Try.prog 48 [v] I [] (fun v J L => ∃ vo Lo, v = .tuple #[vo, .int .i64 (pjoin (l.map (·.1))).2] ∧ Own 5 1 vo (bytesV ((pjoin (l.map (·.1))).1)) ((pjoin (l.map (·.1))).1).length Lo ∧ L = Lo) := by
 obtain ⟨A, c, rfl, _, _, _⟩ := id hr.rd
 refine Spec.of Try.func48 rfl Try.ntmps48 (Nat.le_of_ble_eq_true rfl) (fun F => ?_)
 try simp only [nf]
 dsimp only [argsEnv]
 refine WP.seq ?_
 refine WP.region [0, 1] rfl ?_
 iterate 2 refine WP.mv rfl rfl ?_
 refine WP.nil ?_
 refine WP.next ?_
 refine WP.seq ?_
 refine WP.region [0] rfl ?_
 refine WP.mv rfl rfl ?_
 refine WP.nil ?_
 refine WP.next ?_
 refine WP.seq ?_
 refine WP.seq ?_
 refine WP.region [0, 1, 2] rfl ?_
 refine WP.mv rfl rfl ?_
 refine WP.vl rfl (Yld.len rfl ty_sl_90 rfl) ?_
 refine WP.mv rfl rfl ?_
 refine WP.nil ?_
 refine WP.next ?_
 refine WP.block ?_
 refine WP.loop (X := Nat × Value × Chunks) (fun u : Nat × Value × Chunks => [(0, .slice A l.length c), (4, u.2.1), (7, .slice A l.length c), (8, .int .i64 (l.length : Int)), (9, .int .i64 (u.1 : Int))]) (fun _ => I) (fun u : Nat × Value × Chunks => u.2.2 ++ F) (fun u : Nat × Value × Chunks => u.1 ≤ l.length ∧ Own 5 1 u.2.1 (bytesV (((l.take (u.1)).flatMap (·.1.data)))) (((l.take (u.1)).flatMap (·.1.data))).length u.2.2 ∧ ∀ j (hj : j < u.1) , (hjl : j < l.length) → pgood (l[0]'(by omega)).1 l.length j l[j].1) (fun u : Nat × Value × Chunks => l.length - u.1) (0, .slice none 0 0, []) ⟨Nat.zero_le _, (by rw [List.take_zero]; exact Own.none0), fun j hj => absurd hj (Nat.not_lt_zero _)⟩ ⟨rfl, rfl, rfl, rfl, rfl, trivial⟩ rfl (by (try dsimp only); repeat (first | exact Rm.chunk | exact Rm.here | exact Rm.nil0 | apply Rm.skip | apply Rm.skipS | apply PX.cons | (apply PX.done; (repeat (first | exact Leave.done | apply Leave.drop | apply Leave.dropS)); done) | apply PX.app)) ?_
 rintro ⟨i, vo, Lo⟩ ⟨hle, hout, hprev⟩; dsimp only at hle hout hprev
 try dsimp only
 try simp only [nf]
 refine WP.seq ?_
 refine WP.region [0] rfl ?_
 refine WP.split rfl rfl rfl rfl (Yld.lss rfl rfl rfl) (fun hlt => ?_) (fun hlt => ?_)
 ·have hi : i < l.length := by omega
  have h0l : 0 < l.length := by omega
  obtain ⟨bl, kl, c', T, fr, arr, e, hbl0, hseg, hcc⟩ := hr.cells hi
  obtain rfl : A = some ⟨bl, kl, none⟩ := by injection e
  obtain ⟨bl', kl', c2, T', fr', arr', e', hbl', hseg', hc0⟩ := hr.cells h0l
  obtain ⟨rfl, rfl⟩ : bl = bl' ∧ kl = kl' := by injection e' with e1; injection e1 with e1; injection e1 with e1 e2; exact ⟨e1, e2⟩
  obtain ⟨rfl, rfl, rfl⟩ : arr' = arr ∧ T' = T ∧ fr' = fr := by rw [hbl0] at hbl'; cases hbl'; exact ⟨rfl, rfl, rfl⟩
  have hdat := hr.data _ (List.getElem_mem hi)
  have h0m : l[i].1.may → l[0].1.may := fun h => by by_cases h0 : i = 0; subst h0; exact h; exact (hprev 0 (by omega) (by omega)).may
  have hdl : l[i].1.may → l[i].1.data.length ≤ 198 := fun h => h.len.2
  refine WP.nil ?_
  refine WP.next ?_
  refine WP.seq ?_
  refine WP.condT rfl ?_
  refine WP.skip ?_
  refine WP.next ?_
  refine WP.seq ?_
  refine WP.block ?_
  refine WP.seq ?_
  refine WP.region [0, 1, 2, 3, 4, 5] rfl ?_
  refine WP.mv rfl rfl ?_
  refine WP.vl rfl (Yld.indexAddr (i := i) rfl ty_sl_90 rfl rfl hi) ?_
  refine WP.vl rfl (Yld.loadAggC rfl ty_ag_52 rfl (There.i hbl0) hseg rfl) ?_
  refine WP.loud rfl rfl ?_
  refine Op.alloc rfl rfl rfl ty_zr_52 (fun b6 => ?_)
  refine WP.mv rfl rfl ?_
  refine WP.loud rfl rfl ?_
  refine Op.sA rfl rfl ty_sz_52 rfl rfl rfl (ptV_one (by obtain ⟨A', c', e, _⟩ := hdat; exact ⟨_, _, _, e⟩)) rfl ?_
  refine WP.nil ?_
  refine WP.sub [(0, _), (4, _), (5, _), (6, _), (7, _), (8, _), (9, _), (10, _)] ?_ ⟨rfl, rfl, rfl, rfl, rfl, rfl, rfl, rfl, trivial⟩
  refine WP.next ?_
  refine WP.seq ?_
  refine WP.seq ?_
  refine WQ.startAll Trymixed (by kernel_rfl) _ rfl ?_
  refine WQ.val rfl rfl rfl (Yld.lda rfl ty_ag_52 rfl rfl) ?_
  refine WQ.call (seg_mayQ hdat) (by rintro v' J L1 ⟨rfl, rfl, rfl⟩; exact ⟨rfl, rfl, rfl⟩) rfl Try.func50 rfl rfl rfl rfl rfl (by repeat (first | exact Take.nil | with_reducible apply Take.cons | apply Take.app | exact Rm.chunk | exact Rm.here | exact Rm.nil0 | apply Rm.skip | apply Rm.skipS | (focus (apply Take.all; (repeat (first | exact Rm.chunk | exact Rm.here | exact Rm.nil0 | apply Rm.skip | apply Rm.skipS)); done)) | apply Take.cons)) ?_
  by_cases hmm : (decide l[i].1.may) = true
  ·rw [hmm]
   refine WQ.val rfl rfl rfl (Yld.not rfl rfl) ?_
   refine WQ.val rfl rfl rfl (Yld.move rfl rfl) ?_
   refine WQ.valG rfl rfl rfl rfl rfl rfl (Yld.fieldAddr rfl ty_fd_52_2 rfl) ?_
   refine WQ.valG rfl rfl rfl rfl rfl rfl (Yld.ld (v := .int .i64 l[i].1.index) rfl ty_sc_3 rfl rfl) ?_
   refine WQ.valG rfl rfl rfl rfl rfl rfl (Yld.move rfl rfl) ?_
   refine WQ.splitG rfl rfl rfl rfl rfl rfl (Yld.neq rfl rfl rfl) (fun h2 => ?_) (fun h2 => ?_)
   ·refine WQ.val rfl rfl rfl (Yld.pickF rfl rfl rfl) ?_
    refine WQ.val rfl rfl rfl (Yld.move rfl rfl) ?_
    refine WQ.passG rfl rfl rfl rfl rfl rfl rfl ?_
    refine WQ.passG rfl rfl rfl rfl rfl rfl rfl ?_
    refine WQ.passG rfl rfl rfl rfl rfl rfl rfl ?_
    refine WQ.passG rfl rfl rfl rfl rfl rfl rfl ?_
    refine WQ.passG rfl rfl rfl rfl rfl rfl rfl ?_
    refine WQ.val rfl rfl rfl (Yld.pickT rfl rfl rfl) ?_
    refine WQ.val rfl rfl rfl (Yld.move rfl rfl) ?_
    refine WQ.passG rfl rfl rfl rfl rfl rfl rfl ?_
    refine WQ.passG rfl rfl rfl rfl rfl rfl rfl ?_
    refine WQ.passG rfl rfl rfl rfl rfl rfl rfl ?_
    refine WQ.passG rfl rfl rfl rfl rfl rfl rfl ?_
    refine WQ.passG rfl rfl rfl rfl rfl rfl rfl ?_
    refine WQ.passG rfl rfl rfl rfl rfl rfl rfl ?_
    refine WQ.passG rfl rfl rfl rfl rfl rfl rfl ?_
    refine WQ.val rfl rfl rfl (Yld.pickT rfl rfl rfl) ?_
    refine WQ.val rfl rfl rfl (Yld.move rfl rfl) ?_
    refine WQ.passG rfl rfl rfl rfl rfl rfl rfl ?_
    refine WQ.passG rfl rfl rfl rfl rfl rfl rfl ?_
    refine WQ.passG rfl rfl rfl rfl rfl rfl rfl ?_
    refine WQ.passG rfl rfl rfl rfl rfl rfl rfl ?_
    refine WQ.passG rfl rfl rfl rfl rfl rfl rfl ?_
    refine WQ.passG rfl rfl rfl rfl rfl rfl rfl ?_
    refine WQ.passG rfl rfl rfl rfl rfl rfl rfl ?_
    refine WQ.val rfl rfl rfl (Yld.pickT rfl rfl rfl) ?_
    refine WQ.val rfl rfl rfl (Yld.move rfl rfl) ?_
    refine WQ.passG rfl rfl rfl rfl rfl rfl rfl ?_
    refine WQ.passG rfl rfl rfl rfl rfl rfl rfl ?_
    refine WQ.passG rfl rfl rfl rfl rfl rfl rfl ?_
    refine WQ.passG rfl rfl rfl rfl rfl rfl rfl ?_
    refine WQ.passG rfl rfl rfl rfl rfl rfl rfl ?_
    refine WQ.passG rfl rfl rfl rfl rfl rfl rfl ?_
    refine WQ.passG rfl rfl rfl rfl rfl rfl rfl ?_
    refine WQ.passG rfl rfl rfl rfl rfl rfl rfl ?_
    refine WQ.passG rfl rfl rfl rfl rfl rfl rfl ?_
    refine WQ.val rfl rfl rfl (Yld.pickT rfl rfl rfl) ?_
    refine WQ.nil ?_
    refine WP.sub [(0, _), (4, _), (5, _), (6, _), (7, _), (8, _), (9, _), (10, _), (58, _)] ?_ ⟨rfl, rfl, rfl, rfl, rfl, rfl, rfl, rfl, rfl, trivial⟩
    refine WP.next ?_
    refine WP.condT rfl ?_
    refine WP.seq ?_
    refine WP.region [0, 1] rfl ?_
    iterate 2 refine WP.mv rfl rfl ?_
    refine WP.nil ?_
    refine WP.next ?_
    refine WP.ret ?_
    refine WP.fn .ret (.inr rfl) (res2 rfl rfl rfl) [] (Imm.le_refl _) ?_
    have e := pjoin_bad hi (fun g => (by have g2 := g.index; have g3 := g.parts; have g4 := g.no; have g5 := g.era; have g6 := g.place; omega))
    rw [e]; exact ⟨_, _, rfl, .none0, rfl⟩
   ·refine WQ.val rfl rfl rfl (Yld.pickF rfl rfl rfl) ?_
    refine WQ.val rfl rfl rfl (Yld.move rfl rfl) ?_
    refine WQ.valG rfl rfl rfl rfl rfl rfl (Yld.fieldAddr rfl ty_fd_52_4 rfl) ?_
    refine WQ.valG rfl rfl rfl rfl rfl rfl (Yld.ld (v := .int .i64 l[i].1.parts) rfl ty_sc_3 rfl rfl) ?_
    refine WQ.valG rfl rfl rfl rfl rfl rfl (Yld.move rfl rfl) ?_
    refine WQ.valG rfl rfl rfl rfl rfl rfl (Yld.len rfl ty_sl_90 rfl) ?_
    refine WQ.splitG rfl rfl rfl rfl rfl rfl (Yld.neq rfl rfl rfl) (fun h3 => ?_) (fun h3 => ?_)
    ·refine WQ.val rfl rfl rfl (Yld.pickF rfl rfl rfl) ?_
     refine WQ.val rfl rfl rfl (Yld.move rfl rfl) ?_
     refine WQ.passG rfl rfl rfl rfl rfl rfl rfl ?_
     refine WQ.passG rfl rfl rfl rfl rfl rfl rfl ?_
     refine WQ.passG rfl rfl rfl rfl rfl rfl rfl ?_
     refine WQ.passG rfl rfl rfl rfl rfl rfl rfl ?_
     refine WQ.passG rfl rfl rfl rfl rfl rfl rfl ?_
     refine WQ.passG rfl rfl rfl rfl rfl rfl rfl ?_
     refine WQ.passG rfl rfl rfl rfl rfl rfl rfl ?_
     refine WQ.val rfl rfl rfl (Yld.pickT rfl rfl rfl) ?_
     refine WQ.val rfl rfl rfl (Yld.move rfl rfl) ?_
     refine WQ.passG rfl rfl rfl rfl rfl rfl rfl ?_
     refine WQ.passG rfl rfl rfl rfl rfl rfl rfl ?_
     refine WQ.passG rfl rfl rfl rfl rfl rfl rfl ?_
     refine WQ.passG rfl rfl rfl rfl rfl rfl rfl ?_
     refine WQ.passG rfl rfl rfl rfl rfl rfl rfl ?_
     refine WQ.passG rfl rfl rfl rfl rfl rfl rfl ?_
     refine WQ.passG rfl rfl rfl rfl rfl rfl rfl ?_
     refine WQ.val rfl rfl rfl (Yld.pickT rfl rfl rfl) ?_
     refine WQ.val rfl rfl rfl (Yld.move rfl rfl) ?_
     refine WQ.passG rfl rfl rfl rfl rfl rfl rfl ?_
     refine WQ.passG rfl rfl rfl rfl rfl rfl rfl ?_
     refine WQ.passG rfl rfl rfl rfl rfl rfl rfl ?_
     refine WQ.passG rfl rfl rfl rfl rfl rfl rfl ?_
     refine WQ.passG rfl rfl rfl rfl rfl rfl rfl ?_
     refine WQ.passG rfl rfl rfl rfl rfl rfl rfl ?_
     refine WQ.passG rfl rfl rfl rfl rfl rfl rfl ?_
     refine WQ.passG rfl rfl rfl rfl rfl rfl rfl ?_
     refine WQ.passG rfl rfl rfl rfl rfl rfl rfl ?_
     refine WQ.val rfl rfl rfl (Yld.pickT rfl rfl rfl) ?_
     refine WQ.nil ?_
     refine WP.sub [(0, _), (4, _), (5, _), (6, _), (7, _), (8, _), (9, _), (10, _), (58, _)] ?_ ⟨rfl, rfl, rfl, rfl, rfl, rfl, rfl, rfl, rfl, trivial⟩
     refine WP.next ?_
     refine WP.condT rfl ?_
     refine WP.seq ?_
     refine WP.region [0, 1] rfl ?_
     iterate 2 refine WP.mv rfl rfl ?_
     refine WP.nil ?_
     refine WP.next ?_
     refine WP.ret ?_
     refine WP.fn .ret (.inr rfl) (res2 rfl rfl rfl) [] (Imm.le_refl _) ?_
     have e := pjoin_bad hi (fun g => (by have g2 := g.index; have g3 := g.parts; have g4 := g.no; have g5 := g.era; have g6 := g.place; omega))
     rw [e]; exact ⟨_, _, rfl, .none0, rfl⟩
    ·refine WQ.val rfl rfl rfl (Yld.pickF rfl rfl rfl) ?_
     refine WQ.val rfl rfl rfl (Yld.move rfl rfl) ?_
     refine WQ.valG rfl rfl rfl rfl rfl rfl (Yld.fieldAddr rfl ty_fd_52_1 rfl) ?_
     refine WQ.valG rfl rfl rfl rfl rfl rfl (Yld.ld (v := .int .i64 l[i].1.no) rfl ty_sc_3 rfl rfl) ?_
     refine WQ.valG rfl rfl rfl rfl rfl rfl (Yld.move rfl rfl) ?_
     refine WQ.valG rfl rfl rfl rfl rfl rfl (Yld.indexAddr (i := 0) rfl ty_sl_90 rfl rfl (by omega)) ?_
     refine WQ.valG rfl rfl rfl rfl rfl rfl (Yld.fieldAddr rfl ty_fd_52_1 rfl) ?_
     refine WQ.valG rfl rfl rfl rfl rfl rfl (Yld.loadC rfl ty_sc_3 rfl (There.i hbl0) (hc0 1 _ rfl)) ?_
     refine WQ.splitG rfl rfl rfl rfl rfl rfl (Yld.neq rfl rfl rfl) (fun h4 => ?_) (fun h4 => ?_)
     ·refine WQ.val rfl rfl rfl (Yld.pickF rfl rfl rfl) ?_
      refine WQ.val rfl rfl rfl (Yld.move rfl rfl) ?_
      refine WQ.passG rfl rfl rfl rfl rfl rfl rfl ?_
      refine WQ.passG rfl rfl rfl rfl rfl rfl rfl ?_
      refine WQ.passG rfl rfl rfl rfl rfl rfl rfl ?_
      refine WQ.passG rfl rfl rfl rfl rfl rfl rfl ?_
      refine WQ.passG rfl rfl rfl rfl rfl rfl rfl ?_
      refine WQ.passG rfl rfl rfl rfl rfl rfl rfl ?_
      refine WQ.passG rfl rfl rfl rfl rfl rfl rfl ?_
      refine WQ.val rfl rfl rfl (Yld.pickT rfl rfl rfl) ?_
      refine WQ.val rfl rfl rfl (Yld.move rfl rfl) ?_
      refine WQ.passG rfl rfl rfl rfl rfl rfl rfl ?_
      refine WQ.passG rfl rfl rfl rfl rfl rfl rfl ?_
      refine WQ.passG rfl rfl rfl rfl rfl rfl rfl ?_
      refine WQ.passG rfl rfl rfl rfl rfl rfl rfl ?_
      refine WQ.passG rfl rfl rfl rfl rfl rfl rfl ?_
      refine WQ.passG rfl rfl rfl rfl rfl rfl rfl ?_
      refine WQ.passG rfl rfl rfl rfl rfl rfl rfl ?_
      refine WQ.passG rfl rfl rfl rfl rfl rfl rfl ?_
      refine WQ.passG rfl rfl rfl rfl rfl rfl rfl ?_
      refine WQ.val rfl rfl rfl (Yld.pickT rfl rfl rfl) ?_
      refine WQ.nil ?_
      refine WP.sub [(0, _), (4, _), (5, _), (6, _), (7, _), (8, _), (9, _), (10, _), (58, _)] ?_ ⟨rfl, rfl, rfl, rfl, rfl, rfl, rfl, rfl, rfl, trivial⟩
      refine WP.next ?_
      refine WP.condT rfl ?_
      refine WP.seq ?_
      refine WP.region [0, 1] rfl ?_
      iterate 2 refine WP.mv rfl rfl ?_
      refine WP.nil ?_
      refine WP.next ?_
      refine WP.ret ?_
      refine WP.fn .ret (.inr rfl) (res2 rfl rfl rfl) [] (Imm.le_refl _) ?_
      have e := pjoin_bad hi (fun g => (by have g2 := g.index; have g3 := g.parts; have g4 := g.no; have g5 := g.era; have g6 := g.place; omega))
      rw [e]; exact ⟨_, _, rfl, .none0, rfl⟩
     ·refine WQ.val rfl rfl rfl (Yld.pickF rfl rfl rfl) ?_
      refine WQ.val rfl rfl rfl (Yld.move rfl rfl) ?_
      refine WQ.valG rfl rfl rfl rfl rfl rfl (Yld.fieldAddr rfl ty_fd_52_3 rfl) ?_
      refine WQ.valG rfl rfl rfl rfl rfl rfl (Yld.ld (v := .int .i64 l[i].1.era) rfl ty_sc_3 rfl rfl) ?_
      refine WQ.valG rfl rfl rfl rfl rfl rfl (Yld.move rfl rfl) ?_
      refine WQ.valG rfl rfl rfl rfl rfl rfl (Yld.indexAddr (i := 0) rfl ty_sl_90 rfl rfl (by omega)) ?_
      refine WQ.valG rfl rfl rfl rfl rfl rfl (Yld.fieldAddr rfl ty_fd_52_3 rfl) ?_
      refine WQ.valG rfl rfl rfl rfl rfl rfl (Yld.loadC rfl ty_sc_3 rfl (There.i hbl0) (hc0 3 _ rfl)) ?_
      refine WQ.splitG rfl rfl rfl rfl rfl rfl (Yld.neq rfl rfl rfl) (fun h5 => ?_) (fun h5 => ?_)
      ·refine WQ.val rfl rfl rfl (Yld.pickF rfl rfl rfl) ?_
       refine WQ.val rfl rfl rfl (Yld.move rfl rfl) ?_
       refine WQ.passG rfl rfl rfl rfl rfl rfl rfl ?_
       refine WQ.passG rfl rfl rfl rfl rfl rfl rfl ?_
       refine WQ.passG rfl rfl rfl rfl rfl rfl rfl ?_
       refine WQ.passG rfl rfl rfl rfl rfl rfl rfl ?_
       refine WQ.passG rfl rfl rfl rfl rfl rfl rfl ?_
       refine WQ.passG rfl rfl rfl rfl rfl rfl rfl ?_
       refine WQ.passG rfl rfl rfl rfl rfl rfl rfl ?_
       refine WQ.passG rfl rfl rfl rfl rfl rfl rfl ?_
       refine WQ.passG rfl rfl rfl rfl rfl rfl rfl ?_
       refine WQ.val rfl rfl rfl (Yld.pickT rfl rfl rfl) ?_
       refine WQ.nil ?_
       refine WP.sub [(0, _), (4, _), (5, _), (6, _), (7, _), (8, _), (9, _), (10, _), (58, _)] ?_ ⟨rfl, rfl, rfl, rfl, rfl, rfl, rfl, rfl, rfl, trivial⟩
       refine WP.next ?_
       refine WP.condT rfl ?_
       refine WP.seq ?_
       refine WP.region [0, 1] rfl ?_
       iterate 2 refine WP.mv rfl rfl ?_
       refine WP.nil ?_
       refine WP.next ?_
       refine WP.ret ?_
       refine WP.fn .ret (.inr rfl) (res2 rfl rfl rfl) [] (Imm.le_refl _) ?_
       have e := pjoin_bad hi (fun g => (by have g2 := g.index; have g3 := g.parts; have g4 := g.no; have g5 := g.era; have g6 := g.place; omega))
       rw [e]; exact ⟨_, _, rfl, .none0, rfl⟩
      ·refine WQ.val rfl rfl rfl (Yld.pickF rfl rfl rfl) ?_
       refine WQ.val rfl rfl rfl (Yld.move rfl rfl) ?_
       refine WQ.valG rfl rfl rfl rfl rfl rfl (Yld.fieldAddr rfl ty_fd_52_0 rfl) ?_
       refine WQ.valG rfl rfl rfl rfl rfl rfl (Yld.ld (v := .int .i64 l[i].1.place) rfl ty_sc_3 rfl rfl) ?_
       refine WQ.valG rfl rfl rfl rfl rfl rfl (Yld.move rfl rfl) ?_
       refine WQ.valG rfl rfl rfl rfl rfl rfl (Yld.indexAddr (i := 0) rfl ty_sl_90 rfl rfl (by omega)) ?_
       refine WQ.valG rfl rfl rfl rfl rfl rfl (Yld.fieldAddr rfl ty_fd_52_0 rfl) ?_
       refine WQ.valG rfl rfl rfl rfl rfl rfl (Yld.loadC rfl ty_sc_3 rfl (There.i hbl0) (hc0 0 _ rfl)) ?_
       refine WQ.valG rfl rfl rfl rfl rfl rfl (Yld.move rfl rfl) ?_
       refine WQ.valG rfl rfl rfl rfl rfl rfl (Yld.add64 rfl rfl rfl (by have hm0 := h0m (of_decide_eq_true hmm); have := hm0.place; omega)) ?_
       refine WQ.splitG rfl rfl rfl rfl rfl rfl (Yld.neq rfl rfl rfl) (fun h6 => ?_) (fun h6 => ?_)
       ·refine WQ.val rfl rfl rfl (Yld.pickF rfl rfl rfl) ?_
        refine WQ.nil ?_
        refine WP.sub [(0, _), (4, _), (5, _), (6, _), (7, _), (8, _), (9, _), (10, _), (58, _)] ?_ ⟨rfl, rfl, rfl, rfl, rfl, rfl, rfl, rfl, rfl, trivial⟩
        refine WP.next ?_
        refine WP.condT rfl ?_
        refine WP.seq ?_
        refine WP.region [0, 1] rfl ?_
        iterate 2 refine WP.mv rfl rfl ?_
        refine WP.nil ?_
        refine WP.next ?_
        refine WP.ret ?_
        refine WP.fn .ret (.inr rfl) (res2 rfl rfl rfl) [] (Imm.le_refl _) ?_
        have e := pjoin_bad hi (fun g => (by have g2 := g.index; have g3 := g.parts; have g4 := g.no; have g5 := g.era; have g6 := g.place; omega))
        rw [e]; exact ⟨_, _, rfl, .none0, rfl⟩
       ·refine WQ.val rfl rfl rfl (Yld.pickF rfl rfl rfl) ?_
        refine WQ.nil ?_
        refine WP.sub [(0, _), (4, _), (5, _), (6, _), (7, _), (8, _), (9, _), (10, _), (58, _)] ?_ ⟨rfl, rfl, rfl, rfl, rfl, rfl, rfl, rfl, rfl, trivial⟩
        refine WP.next ?_
        refine WP.condF rfl ?_
        refine WP.skip ?_
        refine WP.next ?_
        have hmt := of_decide_eq_true hmm
        have hd198 := hdl hmt
        have hjd := jd_le (l := l) i (fun j hj hjl => (hprev j hj hjl).may.len.2) (by omega)
        have hp64 : l.length ≤ 64 := by have := hmt.parts; omega
        refine WP.region [0, 1, 2, 3, 4] rfl ?_
        refine WP.mv rfl rfl ?_
        refine WP.vl rfl (Yld.fieldAddr rfl ty_fd_52_5 rfl) ?_
        refine WP.vl rfl (Yld.ld (v := l[i].2) rfl ty_sc_46 rfl rfl) ?_
        refine WP.loud rfl rfl ?_
        refine Op.append rfl ty_sl_46 ty_el_46 rfl rfl rfl rfl rfl hout (hdat.mono (fun b o h => There.i h)) (by repeat (first | exact Take.nil | with_reducible apply Take.cons | apply Take.app | exact Rm.chunk | exact Rm.here | exact Rm.nil0 | apply Rm.skip | apply Rm.skipS | (focus (apply Take.all; (repeat (first | exact Rm.chunk | exact Rm.here | exact Rm.nil0 | apply Rm.skip | apply Rm.skipS)); done)) | apply Take.cons)) (bytesV_one _) (by omega) (by omega) (fun vn Ln hn => ?_)
        try simp only [nf]
        have hnew : Own 5 1 vn (bytesV (((l.take (i + 1)).flatMap (·.1.data)))) (((l.take (i + 1)).flatMap (·.1.data))).length Ln := by rw [List.take_succ_eq_append_getElem hi, List.flatMap_append, bytesV_app, List.length_append]; simpa using hn
        have hprev2 : ∀ j (hj : j < i + 1), (hjl : j < l.length) → pgood (l[0]'(by omega)).1 l.length j l[j].1 := fun j hj hjl => by rcases Nat.lt_succ_iff_lt_or_eq.1 hj with h | rfl; exact hprev j h hjl; exact ⟨hmt, by omega, by omega, by omega, by omega, by omega⟩
        refine WP.mv rfl rfl ?_
        refine WP.nil ?_
        refine WP.sub [(0, _), (4, _), (5, _), (6, _), (7, _), (8, _), (9, _), (10, _), (58, _)] ?_ ⟨rfl, rfl, rfl, rfl, rfl, rfl, rfl, rfl, rfl, trivial⟩
        refine WP.leave ?_
        refine WP.next ?_
        refine WP.region [0, 1] rfl ?_
        refine WP.vl rfl (Yld.add64 rfl rfl rfl (by omega)) ?_
        refine WP.mv rfl rfl ?_
        refine WP.nil ?_
        refine WP.sub [(0, _), (4, _), (5, _), (6, _), (7, _), (8, _), (9, _), (10, _), (58, _)] ?_ ⟨rfl, rfl, rfl, rfl, rfl, rfl, rfl, rfl, rfl, trivial⟩
        exact WP.ag (i + 1, vn, Ln) ⟨(show i + 1 ≤ l.length by omega), hnew, hprev2⟩ (show l.length - (i + 1) < l.length - i by omega) ⟨rfl, rfl, rfl, rfl, rfl, trivial⟩ rfl
  ·have hmm : (decide l[i].1.may) = false := eq_false_of_ne_true hmm
   rw [hmm]
   refine WQ.val rfl rfl rfl (Yld.not rfl rfl) ?_
   refine WQ.val rfl rfl rfl (Yld.move rfl rfl) ?_
   refine WQ.passG rfl rfl rfl rfl rfl rfl rfl ?_
   refine WQ.passG rfl rfl rfl rfl rfl rfl rfl ?_
   refine WQ.passG rfl rfl rfl rfl rfl rfl rfl ?_
   refine WQ.passG rfl rfl rfl rfl rfl rfl rfl ?_
   refine WQ.val rfl rfl rfl (Yld.pickT rfl rfl rfl) ?_
   refine WQ.val rfl rfl rfl (Yld.move rfl rfl) ?_
   refine WQ.passG rfl rfl rfl rfl rfl rfl rfl ?_
   refine WQ.passG rfl rfl rfl rfl rfl rfl rfl ?_
   refine WQ.passG rfl rfl rfl rfl rfl rfl rfl ?_
   refine WQ.passG rfl rfl rfl rfl rfl rfl rfl ?_
   refine WQ.passG rfl rfl rfl rfl rfl rfl rfl ?_
   refine WQ.val rfl rfl rfl (Yld.pickT rfl rfl rfl) ?_
   refine WQ.val rfl rfl rfl (Yld.move rfl rfl) ?_
   refine WQ.passG rfl rfl rfl rfl rfl rfl rfl ?_
   refine WQ.passG rfl rfl rfl rfl rfl rfl rfl ?_
   refine WQ.passG rfl rfl rfl rfl rfl rfl rfl ?_
   refine WQ.passG rfl rfl rfl rfl rfl rfl rfl ?_
   refine WQ.passG rfl rfl rfl rfl rfl rfl rfl ?_
   refine WQ.passG rfl rfl rfl rfl rfl rfl rfl ?_
   refine WQ.passG rfl rfl rfl rfl rfl rfl rfl ?_
   refine WQ.val rfl rfl rfl (Yld.pickT rfl rfl rfl) ?_
   refine WQ.val rfl rfl rfl (Yld.move rfl rfl) ?_
   refine WQ.passG rfl rfl rfl rfl rfl rfl rfl ?_
   refine WQ.passG rfl rfl rfl rfl rfl rfl rfl ?_
   refine WQ.passG rfl rfl rfl rfl rfl rfl rfl ?_
   refine WQ.passG rfl rfl rfl rfl rfl rfl rfl ?_
   refine WQ.passG rfl rfl rfl rfl rfl rfl rfl ?_
   refine WQ.passG rfl rfl rfl rfl rfl rfl rfl ?_
   refine WQ.passG rfl rfl rfl rfl rfl rfl rfl ?_
   refine WQ.val rfl rfl rfl (Yld.pickT rfl rfl rfl) ?_
   refine WQ.val rfl rfl rfl (Yld.move rfl rfl) ?_
   refine WQ.passG rfl rfl rfl rfl rfl rfl rfl ?_
   refine WQ.passG rfl rfl rfl rfl rfl rfl rfl ?_
   refine WQ.passG rfl rfl rfl rfl rfl rfl rfl ?_
   refine WQ.passG rfl rfl rfl rfl rfl rfl rfl ?_
   refine WQ.passG rfl rfl rfl rfl rfl rfl rfl ?_
   refine WQ.passG rfl rfl rfl rfl rfl rfl rfl ?_
   refine WQ.passG rfl rfl rfl rfl rfl rfl rfl ?_
   refine WQ.passG rfl rfl rfl rfl rfl rfl rfl ?_
   refine WQ.passG rfl rfl rfl rfl rfl rfl rfl ?_
   refine WQ.val rfl rfl rfl (Yld.pickT rfl rfl rfl) ?_
   refine WQ.nil ?_
   refine WP.sub [(0, _), (4, _), (5, _), (6, _), (7, _), (8, _), (9, _), (10, _), (58, _)] ?_ ⟨rfl, rfl, rfl, rfl, rfl, rfl, rfl, rfl, rfl, trivial⟩
   refine WP.next ?_
   refine WP.condT rfl ?_
   refine WP.seq ?_
   refine WP.region [0, 1] rfl ?_
   iterate 2 refine WP.mv rfl rfl ?_
   refine WP.nil ?_
   refine WP.next ?_
   refine WP.ret ?_
   refine WP.fn .ret (.inr rfl) (res2 rfl rfl rfl) [] (Imm.le_refl _) ?_
   have e := pjoin_bad hi (fun g => of_decide_eq_false hmm g.may)
   rw [e]; exact ⟨_, _, rfl, .none0, rfl⟩
 ·obtain rfl : i = l.length := by omega
  have hprev : ∀ j (hj : j < l.length), pgood (l[0]'(by omega)).1 l.length j l[j].1 := fun j hj => hprev j hj hj
  refine WP.nil ?_
  refine WP.next ?_
  refine WP.seq ?_
  refine WP.condF rfl ?_
  refine WP.exit ?_
  refine WP.thenE ?_
  refine WP.thenE ?_
  refine WP.hit ?_
  refine WP.next ?_
  refine WP.seq ?_
  refine WP.seq ?_
  refine WP.region [0, 1, 2] rfl ?_
  refine WP.mv rfl rfl ?_
  refine WP.vl rfl (Yld.len rfl ty_sl_90 rfl) ?_
  refine WP.split rfl rfl rfl rfl (Yld.eql rfl rfl rfl) (fun hz => ?_) (fun hz => ?_)
  ·refine WP.nil ?_
   refine WP.sub [(0, _), (4, _), (7, _), (8, _), (9, _), (10, _), (66, _)] ?_ ⟨rfl, rfl, rfl, rfl, rfl, rfl, rfl, trivial⟩
   refine WP.next ?_
   refine WP.condT rfl ?_
   refine WP.seq ?_
   refine WP.region [0, 1] rfl ?_
   iterate 2 refine WP.mv rfl rfl ?_
   refine WP.nil ?_
   refine WP.next ?_
   refine WP.ret ?_
   refine WP.fn .ret (.inr rfl) (res2 rfl rfl rfl) [] (Imm.le_refl _) ?_
   obtain rfl : l = [] := List.eq_nil_of_length_eq_zero (by omega)
   exact ⟨_, _, rfl, .none0, rfl⟩
  ·refine WP.nil ?_
   refine WP.sub [(0, _), (4, _), (7, _), (8, _), (9, _), (10, _), (66, _)] ?_ ⟨rfl, rfl, rfl, rfl, rfl, rfl, rfl, trivial⟩
   refine WP.next ?_
   refine WP.condF rfl ?_
   refine WP.skip ?_
   refine WP.next ?_
   refine WP.seq ?_
   refine WP.region [0, 1, 2] rfl ?_
   iterate 3 refine WP.mv rfl rfl ?_
   refine WP.nil ?_
   refine WP.sub [(0, _), (2, _), (3, _), (4, _), (7, _), (8, _), (9, _), (10, _), (66, _)] ?_ ⟨rfl, rfl, rfl, rfl, rfl, rfl, rfl, rfl, rfl, trivial⟩
   refine WP.next ?_
   refine WP.ret ?_
   refine WP.fn .ret (.inr rfl) (res2 rfl rfl rfl) Lo (Imm.le_refl _) ?_
   have e := pjoin_good (by omega) hprev
   rw [List.take_length] at hout
   rw [e]; exact ⟨_, _, rfl, hout, rfl⟩


end Go.Hp
