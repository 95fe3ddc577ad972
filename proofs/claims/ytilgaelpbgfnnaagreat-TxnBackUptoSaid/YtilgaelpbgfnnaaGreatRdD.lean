import Derived.Test.YtilgaelpbgfnnaaGreatRdC
set_option linter.unusedVariables false
set_option linter.unusedSimpArgs false
namespace Go.Hp
open Go Go.Proofs

structure GkX where
 i : Nat
 J : Imm
 ps : List (Pr × Value)
 s : Rs
 v : Value
 Lr : Chunks
 Lo : Chunks
theorem gkL_succ (n : Nat) (s : Rs) : gkL (n + 1) s = (⟨((rNum 512 s).1 : Int), 0, (tkN (rNum 512 s).2).1⟩ :: (gkL n (tkN (rNum 512 s).2).2).1, (gkL n (tkN (rNum 512 s).2).2).2) := rfl
theorem prC_flat (l : List (Pr × Value)) : prC l = l.flatMap fun x => prV x.1 x.2 := rfl
theorem gkL_n : ∀ (n : Nat) (s : Rs), (∀ r ∈ (gkL n s).1, r.nodes.length ≤ 64)
 | 0, s, r, h => by cases h
 | n + 1, s, r, h => by
  rw [gkL_succ] at h
  rcases List.mem_cons.1 h with rfl | h
  ·exact tkN_len _
  ·exact gkL_n n _ r h
theorem gkL_len : ∀ (n : Nat) (s : Rs), (gkL n s).1.length = n
 | 0, s => rfl
 | n + 1, s => by rw [gkL_succ, List.length_cons, gkL_len n]
theorem txn_DecodeGroup {I : Imm} {b : List UInt8} {vb : Value} (hb : SlRd (Im I) vb b.length 1 (bytesV b)) (hl : b.length ≤ 140737488355328) : Spec Tryz.prog 36 [vb] I [] (fun v J L => L = [] ∧ ∃ vl ps, ∃ e : Int, v = .tuple #[vl, .int .i64 e] ∧ RPrs J vl ps ∧ ((okG b ∧ e = 0 ∧ prs ps = (rdG b).1) ∨ (¬ okG b ∧ e = 120 ∧ ps = []))) := by
 obtain ⟨Ab, cb, rfl, _, _, _⟩ := id hb
 refine Spec.of Tryz.func36 rfl Tryz.ntmps36 (Nat.le_of_ble_eq_true rfl) (fun F => ?_)
 try simp only [nf]
 dsimp only [argsEnv]
 refine WP.seq ?_
 refine WP.region [0, 1] rfl ?_
 iterate 2 refine WP.mv rfl rfl ?_
 refine WP.nil ?_
 refine WP.next ?_
 refine WP.seq ?_
 refine WP.region [0, 1, 2] rfl ?_
 refine WP.mv rfl rfl ?_
 refine WP.loud rfl rfl ?_
 refine Op.cl (code_NewReader hb hl) rfl Tryz.func70 rfl rfl rfl rfl ?_
 rintro v J1 L1 hJ1 ⟨q, rfl, hq⟩
 try simp only [nf]
 refine WP.mv rfl rfl ?_
 refine WP.nil ?_
 refine WP.sub [(0, _), (2, _), (3, _), (4, _)] ?_ ⟨rfl, rfl, rfl, rfl, trivial⟩
 refine WP.next ?_
 refine WP.seq ?_
 refine WP.region [0] rfl ?_
 refine WP.mv rfl rfl ?_
 refine WP.nil ?_
 refine WP.next ?_
 refine WP.seq ?_
 refine WP.seq ?_
 refine WP.region [0, 1, 2] rfl ?_
 refine WP.mv rfl rfl ?_
 refine WP.loud rfl rfl ?_
 refine Op.cl (code_RNum (most := 8) hq) rfl Tryz.func71 rfl rfl rfl rfl ?_
 rintro v J L2 - ⟨rfl, rfl, hq⟩
 try simp only [nf]
 have hle := rNum_le 8 ⟨b, 0⟩
 refine WP.mv rfl rfl ?_
 refine WP.nil ?_
 refine WP.sub [(0, _), (2, _), (3, _), (4, _), (5, _), (10, _), (11, _)] ?_ ⟨rfl, rfl, rfl, rfl, rfl, rfl, rfl, trivial⟩
 refine WP.next ?_
 refine WP.block ?_
 refine WP.loop (X := GkX) (fun u : GkX => [(0, .slice Ab b.length cb), (4, .pointer (some ⟨q, 0, none⟩)), (5, u.v), (10, .int .u64 ((rNum 8 ⟨b, 0⟩).1 : Int)), (11, .int .u64 (u.i : Int))]) (fun u => u.J) (fun u : GkX => u.Lr ++ (u.Lo ++ F)) (fun u : GkX => J1.le u.J ∧ u.i ≤ (rNum 8 ⟨b, 0⟩).1 ∧ IsRd u.J q u.s u.Lr ∧ Own 51 3 u.v (prC u.ps) u.i u.Lo ∧ (∀ x ∈ u.ps, RNodes u.J x.2 x.1.nodes) ∧ rdG b = (prs u.ps ++ (gkL ((rNum 8 ⟨b, 0⟩).1 - u.i) u.s).1, (gkL ((rNum 8 ⟨b, 0⟩).1 - u.i) u.s).2)) (fun u => (rNum 8 ⟨b, 0⟩).1 - u.i) ⟨0, J1, [], (rNum 8 ⟨b, 0⟩).2, .slice none 0 0, L2, []⟩ ⟨Imm.le_refl _, Nat.zero_le _, hq, .none0, (fun x h => by cases h), rfl⟩ ⟨rfl, rfl, rfl, rfl, rfl, trivial⟩ rfl (by (try simp only [List.append_eq, List.cons_append, List.nil_append, List.append_assoc]); repeat (first | exact Rm.chunk | exact Rm.here | exact Rm.nil0 | apply Rm.skip | apply Rm.skipS | apply PX.cons | (apply PX.done; (repeat (first | exact Leave.done | apply Leave.drop | apply Leave.dropS)); done) | apply PX.app)) ?_
 rintro ⟨i, J, ps, s1, vo, Lr, Lo⟩ ⟨hJ, hi, hq1, ho, hpn, heq⟩; dsimp only at hJ hi hq1 ho hpn heq; obtain ⟨Ao, co, rfl, _⟩ := ho.slice
 try dsimp only
 try simp only [nf]
 refine WP.seq ?_
 refine WP.region [0] rfl ?_
 refine WP.split rfl rfl rfl rfl (Yld.lss rfl rfl rfl) (fun hlt => ?_) (fun hlt => ?_)
 ·refine WP.nil ?_
  refine WP.next ?_
  refine WP.seq ?_
  refine WP.condT rfl ?_
  refine WP.skip ?_
  refine WP.next ?_
  refine WP.seq ?_
  refine WP.block ?_
  refine WP.seq ?_
  refine WP.region [0, 1, 2, 3, 4, 5] rfl ?_
  refine WP.mv rfl rfl ?_
  refine WP.loud rfl rfl ?_
  refine Op.cl (code_RNum (most := 512) hq1) rfl Tryz.func71 rfl rfl rfl rfl ?_
  rintro v J L3 - ⟨rfl, rfl, hq2⟩
  try simp only [nf]
  have hle1 := rNum_le 512 s1
  refine WP.vl rfl (Yld.conv64 (a := (((rNum 512 s1).1 : Nat) : Int)) rfl ty_un_40 ty_ik_3 rfl (by omega)) ?_
  refine WP.vl rfl (Yld.buildS (pl := [(0, 0, 1)]) rfl ty_zr_51 ty_zd_51 (by kernel_rfl) rfl (vs := [_]) rfl (segs := [(0, [_])]) rfl rfl (by repeat (first | exact SetSeg.nil | apply SetSeg.one | exact SetAt.zero | apply SetAt.succ))) ?_
  refine WP.loud rfl rfl ?_
  refine Op.alloc rfl rfl rfl ty_zr_51 (fun b6 => ?_)
  refine WP.loud rfl rfl ?_
  refine Op.sA rfl rfl ty_sz_51 rfl rfl rfl rfl rfl ?_
  refine WP.nil ?_
  refine WP.sub [(0, _), (4, _), (5, _), (6, _), (10, _), (11, _), (12, _)] ?_ ⟨rfl, rfl, rfl, rfl, rfl, rfl, rfl, trivial⟩
  refine WP.next ?_
  refine WP.seq ?_
  refine WP.region [0, 1, 2, 3] rfl ?_
  refine WP.mv rfl rfl ?_
  refine WP.loud rfl rfl ?_
  refine Op.cl (txn_takeNodes hq2) rfl Tryz.func72 rfl rfl rfl rfl ?_
  rintro v J2 L4 hJ2 ⟨hrn, hq3⟩
  try simp only [nf]
  obtain ⟨nv, hn, hno⟩ := id hrn.ex
  obtain ⟨An, cn, hve, hcn⟩ := hn.slice'
  subst hve
  refine WP.vl rfl (Yld.fieldAddr rfl ty_fd_51_2 rfl) ?_
  refine WP.loud rfl rfl ?_
  refine Op.s1 rfl rfl ty_sz_41 rfl rfl rfl ?_
  refine WP.nil ?_
  refine WP.sub [(0, _), (4, _), (5, _), (6, _), (10, _), (11, _), (12, _)] ?_ ⟨rfl, rfl, rfl, rfl, rfl, rfl, rfl, trivial⟩
  refine WP.next ?_
  refine WP.region [0, 1, 2, 3, 4] rfl ?_
  refine WP.mv rfl rfl ?_
  refine WP.vl rfl (Yld.ldg (vs := [.int .i64 ((rNum 512 s1).1 : Int), .int .i64 0, (.slice An (tkN (rNum 512 s1).2).1.length cn)]) rfl ty_ag_51 rfl rfl rfl) ?_
  refine WP.loud rfl rfl ?_
  refine Op.buildSlice rfl ty_sl_52 ty_el2_52 rfl rfl rfl rfl (vs := [_]) rfl (segs := [(0, [.int .i64 ((rNum 512 s1).1 : Int), .int .i64 0, (.slice An (tkN (rNum 512 s1).2).1.length cn)])]) (cs := [.int .i64 ((rNum 512 s1).1 : Int), .int .i64 0, (.slice An (tkN (rNum 512 s1).2).1.length cn)]) rfl rfl (.seg (Nat.le_refl _) rfl .nil) (fun bq => ?_)
  refine WP.loud rfl rfl ?_
  refine Op.append (m := 1) rfl ty_sl_52 ty_el_52 rfl rfl rfl rfl rfl ho (SlRd.lit (m := 1) (by repeat (first | exact There.h | exact There.i (by assumption) | apply There.t | apply There.s)) rfl (Nat.le_refl _)) (by repeat (first | exact Take.nil | with_reducible apply Take.cons | apply Take.app | exact Rm.chunk | exact Rm.here | exact Rm.nil0 | apply Rm.skip | apply Rm.skipS | (focus (apply Take.all; (repeat (first | exact Rm.chunk | exact Rm.here | exact Rm.nil0 | apply Rm.skip | apply Rm.skipS)); done)) | apply Take.cons)) rfl (by omega) (by omega) (fun vu Lu hu => ?_)
  try simp only [nf]
  obtain ⟨Au, cu, rfl, _⟩ := hu.slice
  refine WP.mv rfl rfl ?_
  refine WP.nil ?_
  refine WP.sub [(0, _), (4, _), (5, _), (6, _), (10, _), (11, _), (12, _)] ?_ ⟨rfl, rfl, rfl, rfl, rfl, rfl, rfl, trivial⟩
  refine WP.leave ?_
  refine WP.next ?_
  refine WP.region [0, 1] rfl ?_
  refine WP.vl rfl (Yld.addU64N i 1 (by omega) rfl rfl rfl) ?_
  refine WP.mv rfl rfl ?_
  refine WP.nil ?_
  refine WP.sub [(0, _), (4, _), (5, _), (6, _), (10, _), (11, _), (12, _)] ?_ ⟨rfl, rfl, rfl, rfl, rfl, rfl, rfl, trivial⟩
  exact WP.again ⟨i + 1, J2, ps ++ [((⟨((rNum 512 s1).1 : Int), 0, (tkN (rNum 512 s1).2).1⟩ : Pr), (.slice An (tkN (rNum 512 s1).2).1.length cn))], (tkN (rNum 512 s1).2).2, .slice Au (i + 1) cu, L4, Lu⟩ ⟨Imm.le_trans hJ hJ2, (show i + 1 ≤ (rNum 8 ⟨b, 0⟩).1 by omega), hq3, by rw [prC_snoc]; exact hu, (fun x hx => by rcases List.mem_append.1 hx with hx | hx; exact (hpn x hx).mono hJ2; cases List.mem_singleton.1 hx; exact hrn), by rw [heq, show (rNum 8 ⟨b, 0⟩).1 - i = ((rNum 8 ⟨b, 0⟩).1 - (i + 1)) + 1 by omega, gkL_succ, prs_snoc, List.append_assoc]; rfl⟩ (show (rNum 8 ⟨b, 0⟩).1 - (i + 1) < (rNum 8 ⟨b, 0⟩).1 - i by omega) ⟨rfl, rfl, rfl, rfl, rfl, trivial⟩ rfl (by (try simp only [List.append_eq, List.cons_append, List.nil_append, List.append_assoc]); repeat (first | exact Rm.chunk | exact Rm.here | exact Rm.nil0 | apply Rm.skip | apply Rm.skipS | apply PX.cons | (apply PX.done; (repeat (first | exact Leave.done | apply Leave.drop | apply Leave.dropS)); done) | apply PX.app))
 ·have hn0 : i = (rNum 8 ⟨b, 0⟩).1 := by omega
  rw [hn0, Nat.sub_self] at heq
  have hg1 : (rdG b).1 = prs ps := by rw [heq]; exact List.append_nil _
  have hg2 : (rdG b).2 = s1 := by rw [heq]; rfl
  have hpl : ps.length = i := by rw [← prs_len, ← hg1]; unfold rdG; rw [gkL_len]; exact hn0.symm
  have hnl : ∀ x ∈ ps, x.1.nodes.length ≤ 140737488351232 := fun x hx => Nat.le_trans (gkL_n _ _ _ (show x.1 ∈ (rdG b).1 by rw [hg1]; exact List.mem_map_of_mem hx)) (by decide)
  rw [← hpl] at ho ⊢
  refine WP.shO ho (fun J3 hJ3 hpo => ?_)
  have hrp : RPrs J3 (.slice Ao ps.length co) ps := ⟨hpo, fun x hx => (hpn x hx).mono hJ3⟩
  refine WP.nil ?_
  refine WP.next ?_
  refine WP.seq ?_
  refine WP.condF rfl ?_
  refine WP.exit ?_
  refine WP.thenE ?_
  refine WP.thenE ?_
  refine WP.hit ?_
  refine WP.next ?_
  refine WP.seq ?_
  refine WP.seq ?_
  refine WP.region [0, 1, 2, 3, 4, 5, 6, 7, 8, 9, 10, 11, 12] rfl ?_
  refine WP.mv rfl rfl ?_
  refine WP.loud rfl rfl ?_
  refine Op.cl (code_RDone (hq1.mono hJ3)) rfl Tryz.func73 rfl rfl rfl rfl ?_
  rintro v J L5 - ⟨rfl, rfl, hq⟩
  try simp only [nf]
  rw [← hg2]
  refine WP.split rfl rfl rfl rfl (Yld.neq rfl rfl rfl) (fun hd => ?_) (fun hd => ?_)
  ·refine WP.mv rfl rfl ?_
   refine WP.passG rfl rfl rfl rfl rfl rfl rfl rfl ?_
   refine WP.passG rfl rfl rfl rfl rfl rfl rfl rfl ?_
   refine WP.passG rfl rfl rfl rfl rfl rfl rfl rfl ?_
   refine WP.vl rfl (Yld.pickT rfl rfl rfl) ?_
   refine WP.mv rfl rfl ?_
   refine WP.passG rfl rfl rfl rfl rfl rfl rfl rfl ?_
   refine WP.passG rfl rfl rfl rfl rfl rfl rfl rfl ?_
   refine WP.passG rfl rfl rfl rfl rfl rfl rfl rfl ?_
   refine WP.vl rfl (Yld.pickT rfl rfl rfl) ?_
   refine WP.nil ?_
   refine WP.sub [(0, _), (4, _), (5, _), (10, _), (11, _), (12, _), (37, _)] ?_ ⟨rfl, rfl, rfl, rfl, rfl, rfl, rfl, trivial⟩
   refine WP.next ?_
   refine WP.condT rfl ?_
   refine WP.seq ?_
   refine WP.region [0, 1] rfl ?_
   iterate 2 refine WP.mv rfl rfl ?_
   refine WP.nil ?_
   refine WP.next ?_
   refine WP.ret ?_
   refine WP.fn .ret (.inr rfl) (res2 rfl rfl rfl) [] (Imm.le_trans hJ1 (Imm.le_trans hJ hJ3)) ?_
   exact ⟨rfl, _, [], 120, rfl, RPrs.nil _, .inr ⟨fun h => by have h1 := h.1; have h2 := h.2.1; have h3 := h.2.2; first | exact hd h1 | omega | (rw [hc.2 h3] at hc1; cases hc1), rfl, rfl⟩⟩
  ·refine WP.mv rfl rfl ?_
   refine WP.valG rfl rfl rfl rfl rfl rfl rfl (Yld.move rfl rfl) ?_
   refine WP.valG rfl rfl rfl rfl rfl rfl rfl (Yld.len rfl ty_sl_49 rfl) ?_
   refine WP.splitG rfl rfl rfl rfl rfl rfl rfl (Yld.gtr rfl rfl rfl) (fun hlong => ?_) (fun hlong => ?_)
   ·refine WP.vl rfl (Yld.pickF rfl rfl rfl) ?_
    refine WP.mv rfl rfl ?_
    refine WP.passG rfl rfl rfl rfl rfl rfl rfl rfl ?_
    refine WP.passG rfl rfl rfl rfl rfl rfl rfl rfl ?_
    refine WP.passG rfl rfl rfl rfl rfl rfl rfl rfl ?_
    refine WP.vl rfl (Yld.pickT rfl rfl rfl) ?_
    refine WP.nil ?_
    refine WP.sub [(0, _), (4, _), (5, _), (10, _), (11, _), (12, _), (37, _)] ?_ ⟨rfl, rfl, rfl, rfl, rfl, rfl, rfl, trivial⟩
    refine WP.next ?_
    refine WP.condT rfl ?_
    refine WP.seq ?_
    refine WP.region [0, 1] rfl ?_
    iterate 2 refine WP.mv rfl rfl ?_
    refine WP.nil ?_
    refine WP.next ?_
    refine WP.ret ?_
    refine WP.fn .ret (.inr rfl) (res2 rfl rfl rfl) [] (Imm.le_trans hJ1 (Imm.le_trans hJ hJ3)) ?_
    exact ⟨rfl, _, [], 120, rfl, RPrs.nil _, .inr ⟨fun h => by have h1 := h.1; have h2 := h.2.1; have h3 := h.2.2; first | exact hd h1 | omega | (rw [hc.2 h3] at hc1; cases hc1), rfl, rfl⟩⟩
   ·refine WP.vl rfl (Yld.pickF rfl rfl rfl) ?_
    refine WP.mv rfl rfl ?_
    refine WP.valG rfl rfl rfl rfl rfl rfl rfl (Yld.move rfl rfl) ?_
    refine WP.loudG rfl rfl rfl rfl rfl ?_
    refine Op.cl (txn_mayGroup hrp (by omega) hnl) rfl Tryz.func67 rfl rfl rfl rfl ?_
    rintro v J L1 - ⟨c, rfl, hc, rfl, rfl⟩
    try simp only [nf]
    rw [← hg1] at hc
    by_cases hc1 : c = true
    ·rw [hc1]
     refine WP.valG rfl rfl rfl rfl rfl rfl rfl (Yld.not rfl rfl) ?_
     refine WP.vl rfl (Yld.pickF rfl rfl rfl) ?_
     refine WP.nil ?_
     refine WP.sub [(0, _), (4, _), (5, _), (10, _), (11, _), (12, _), (37, _)] ?_ ⟨rfl, rfl, rfl, rfl, rfl, rfl, rfl, trivial⟩
     refine WP.next ?_
     refine WP.condF rfl ?_
     refine WP.skip ?_
     refine WP.next ?_
     refine WP.seq ?_
     refine WP.region [0, 1, 2] rfl ?_
     iterate 3 refine WP.mv rfl rfl ?_
     refine WP.nil ?_
     refine WP.sub [(0, _), (2, _), (3, _), (4, _), (5, _), (10, _), (11, _), (12, _), (37, _)] ?_ ⟨rfl, rfl, rfl, rfl, rfl, rfl, rfl, rfl, rfl, trivial⟩
     refine WP.next ?_
     refine WP.ret ?_
     refine WP.fn .ret (.inr rfl) (res2 rfl rfl rfl) [] (Imm.le_trans hJ1 (Imm.le_trans hJ hJ3)) ?_
     exact ⟨rfl, _, ps, 0, rfl, hrp, .inl ⟨⟨Decidable.not_not.1 hd, by omega, hc.1 hc1⟩, rfl, hg1.symm⟩⟩
    ·have hc1 : c = false := eq_false_of_ne_true hc1
     rw [hc1]
     refine WP.valG rfl rfl rfl rfl rfl rfl rfl (Yld.not rfl rfl) ?_
     refine WP.vl rfl (Yld.pickF rfl rfl rfl) ?_
     refine WP.nil ?_
     refine WP.sub [(0, _), (4, _), (5, _), (10, _), (11, _), (12, _), (37, _)] ?_ ⟨rfl, rfl, rfl, rfl, rfl, rfl, rfl, trivial⟩
     refine WP.next ?_
     refine WP.condT rfl ?_
     refine WP.seq ?_
     refine WP.region [0, 1] rfl ?_
     iterate 2 refine WP.mv rfl rfl ?_
     refine WP.nil ?_
     refine WP.next ?_
     refine WP.ret ?_
     refine WP.fn .ret (.inr rfl) (res2 rfl rfl rfl) [] (Imm.le_trans hJ1 (Imm.le_trans hJ hJ3)) ?_
     exact ⟨rfl, _, [], 120, rfl, RPrs.nil _, .inr ⟨fun h => by have h1 := h.1; have h2 := h.2.1; have h3 := h.2.2; first | exact hd h1 | omega | (rw [hc.2 h3] at hc1; cases hc1), rfl, rfl⟩⟩


end Go.Hp
