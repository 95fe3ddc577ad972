import Derived.Test.YtgcbhbcmohcdpaaGreatChkD
set_option linter.unusedVariables false
set_option linter.unusedSimpArgs false
namespace Go.Hp
open Go Go.Proofs

theorem Rs.done_e {s : Rs} (h : s.done = 0) : s.e = 0 := by
 unfold Rs.done at h
 split at h
 ·next h1 => exact h1.1
 ·exact h
theorem mp_ext {p q : Mp} (h : ([p.page, p.place, p.no, p.low] : List Int) = [q.page, q.place, q.no, q.low]) : p = q := by
 cases p; cases q
 simp only [List.cons.injEq, and_true] at h
 obtain ⟨h1, h2, h3, h4⟩ := h
 subst h1 h2 h3 h4
 rfl
theorem ck_ext {c d : Ck} (h1 : c.fr = d.fr) (h2 : c.pl = d.pl) (h3 : c.root = d.root) (h4 : c.nx = d.nx) (h5 : c.ps = d.ps) : c = d := by
 cases c; cases d
 simp only [] at h1 h2 h3 h4 h5
 subst h1 h2 h3 h4 h5
 rfl
theorem rchk_Decode {I : Imm} {b : List UInt8} {vb : Value} (hb : SlRd (Im I) vb b.length 1 (bytesV b)) (hl : b.length ≤ 140737488351232) : Spec Tryz.prog 8 [vb] I [] (fun v J L => L = [] ∧ ∃ c vp, ∃ e : Int, v = .tuple #[.agg (kV c vp).toArray, .int .i64 e] ∧ SlRd (Im J) vp c.ps.length 4 (c.ps.flatMap mpV) ∧ KDec b c e) := by
 obtain ⟨Ab, cb, rfl, _, _, _⟩ := id hb
 refine Spec.of Tryz.func8 rfl Tryz.ntmps8 (Nat.le_of_ble_eq_true rfl) (fun F => ?_)
 try simp only [nf]
 dsimp only [argsEnv]
 refine WP.seq ?_; refine WP.region [0, 1] rfl ?_; refine WP.loud rfl rfl ?_; refine Op.alloc rfl rfl rfl ty_zr_24 (fun b2 => ?_)
 refine WP.mv rfl rfl ?_; refine WP.nil (WP.next (WP.seq ?_))
 refine WP.region [0, 1, 2] rfl ?_; refine WP.mv rfl rfl ?_; refine WP.loud rfl rfl ?_; refine Op.cl (ref1_Open hb hl) rfl Tryz.func25 rfl rfl rfl rfl ?_; rintro v J1 L1 hJ1 ⟨q, rfl, hq⟩
 try simp only [nf]
 refine WP.mv rfl rfl ?_; refine WP.nil ?_; refine WP.sub [(0, _), (2, _), (3, _), (4, _)] ?_ ⟨rfl, rfl, rfl, rfl, trivial⟩
 refine WP.next (WP.seq ?_)
 refine WP.region [0, 1, 2, 3, 4, 5, 6, 7, 8, 9, 10, 11, 12, 13, 14] rfl ?_; refine WP.mv rfl rfl ?_; refine WP.loud rfl rfl ?_; refine Op.cl (ref1_Num (most := 1099511627776) hq) rfl Tryz.func26 rfl rfl rfl rfl ?_; rintro v J Lq1 - ⟨rfl, rfl, hq⟩
 try simp only [nf]
 have hl1 : (rH1 b).1 ≤ 1099511627776 := rNum_le _ _
 refine WP.vl rfl (Yld.conv64 (a := (((rH1 b).1 : Nat) : Int)) rfl ty_un_62 ty_ik_3 rfl (by omega)) ?_; refine WP.mv rfl rfl ?_; refine WP.loud rfl rfl ?_; refine Op.cl (ref1_Num (most := 1099511627776) hq) rfl Tryz.func26 rfl rfl rfl rfl ?_; rintro v J Lq2 - ⟨rfl, rfl, hq⟩
 try simp only [nf]
 have hl2 : (rH2 b).1 ≤ 1099511627776 := rNum_le _ _
 refine WP.vl rfl (Yld.conv64 (a := (((rH2 b).1 : Nat) : Int)) rfl ty_un_62 ty_ik_3 rfl (by omega)) ?_; refine WP.mv rfl rfl ?_; refine WP.loud rfl rfl ?_; refine Op.cl (ref1_Num (most := 512) hq) rfl Tryz.func26 rfl rfl rfl rfl ?_; rintro v J Lq3 - ⟨rfl, rfl, hq⟩
 try simp only [nf]
 have hl3 : (rH3 b).1 ≤ 512 := rNum_le _ _
 refine WP.vl rfl (Yld.conv64 (a := (((rH3 b).1 : Nat) : Int)) rfl ty_un_62 ty_ik_3 rfl (by omega)) ?_; refine WP.mv rfl rfl ?_; refine WP.loud rfl rfl ?_; refine Op.cl (ref1_Num (most := 513) hq) rfl Tryz.func26 rfl rfl rfl rfl ?_; rintro v J Lq4 - ⟨rfl, rfl, hq⟩
 try simp only [nf]
 have hl4 : (rH4 b).1 ≤ 513 := rNum_le _ _
 refine WP.vl rfl (Yld.conv64 (a := (((rH4 b).1 : Nat) : Int)) rfl ty_un_62 ty_ik_3 rfl (by omega)) ?_; refine WP.vl rfl (Yld.buildS (pl := [(0, 0, 1), (1, 1, 1), (2, 2, 1), (3, 3, 1)]) rfl ty_zr_24 ty_zd_24 zK rfl (vs := [_, _, _, _]) rfl (segs := [(0, [_]), (1, [_]), (2, [_]), (3, [_])]) rfl rfl zS) ?_; refine WP.loud rfl rfl ?_; refine Op.alloc rfl rfl rfl ty_zr_24 (fun b5 => ?_)
 refine WP.loud rfl rfl ?_; refine Op.sA rfl rfl ty_sz_24 rfl rfl rfl rfl rfl ?_; refine WP.nil ?_; refine WP.sub [(0, _), (2, _), (3, _), (4, _), (5, _)] ?_ ⟨rfl, rfl, rfl, rfl, rfl, trivial⟩
 refine WP.next (WP.seq ?_)
 refine WP.region [0, 1, 2, 3] rfl ?_; refine WP.mv rfl rfl ?_; refine WP.loud rfl rfl ?_; refine Op.cl (ref1_Num (most := 512) hq) rfl Tryz.func26 rfl rfl rfl rfl ?_; rintro v J Lq5 - ⟨rfl, rfl, hq⟩
 try simp only [nf]
 have hl5 : (rH5 b).1 ≤ 512 := rNum_le _ _
 refine WP.vl rfl (Yld.conv64 (a := (((rH5 b).1 : Nat) : Int)) rfl ty_un_62 ty_ik_3 rfl (by omega)) ?_; refine WP.mv rfl rfl ?_; refine WP.nil ?_; refine WP.sub [(0, _), (2, _), (3, _), (4, _), (5, _), (6, _)] ?_ ⟨rfl, rfl, rfl, rfl, rfl, rfl, trivial⟩
 refine WP.next (WP.seq (WP.seq ?_))
 refine WP.region [0] rfl ?_; refine WP.mv rfl rfl ?_; refine WP.nil (WP.next (WP.block ?_))
 refine WP.loop (X := DkX) (fun u : DkX => [(0, .slice Ab b.length cb), (2, .pointer (some ⟨b2, 0, none⟩)), (4, .pointer (some ⟨q, 0, none⟩)), (5, .pointer (some ⟨b5, 0, none⟩)), (6, .int .i64 ((rH5 b).1 : Int)), (7, .int .i64 (u.i : Int))]) (fun _ => J1) (fun u : DkX => (b2, row 24 [.int .i64 0, .int .i64 0, .int .i64 0, .int .i64 0, .slice none 0 0]) :: (b5, row 24 [.int .i64 ((rH1 b).1 : Int), .int .i64 ((rH2 b).1 : Int), .int .i64 ((rH3 b).1 : Int), .int .i64 ((rH4 b).1 : Int), u.v]) :: (u.Lr ++ (u.Lo ++ F))) (fun u : DkX => u.i ≤ (rH5 b).1 ∧ u.l.length = u.i ∧ IsRq J1 q u.s u.Lr ∧ Own 65 4 u.v (u.l.flatMap mpV) u.i u.Lo ∧ rMps (rH5 b).1 (rH5 b).2 = (u.l ++ (rMps ((rH5 b).1 - u.i) u.s).1, (rMps ((rH5 b).1 - u.i) u.s).2)) (fun u => (rH5 b).1 - u.i) ⟨0, [], (rH5 b).2, .slice none 0 0, Lq5, []⟩ ⟨Nat.zero_le _, rfl, hq, .none0, rfl⟩ ⟨rfl, rfl, rfl, rfl, rfl, rfl, trivial⟩ rfl zA ?_; rintro ⟨i, l, s1, vo, Lr, Lo⟩ ⟨hi, hll, hq, ho, heq⟩; dsimp only at hi hll hq ho heq; obtain ⟨Ao, co, rfl, _⟩ := ho.slice
 try dsimp only
 try simp only [nf]
 refine WP.seq (WP.seq ?_)
 refine WP.region [0, 1, 2, 3, 4, 5, 6, 7, 8, 9] rfl ?_; iterate 2 refine WP.mv rfl rfl ?_
 refine WP.split rfl rfl rfl rfl (Yld.lss rfl rfl rfl) (fun hlt => ?_) (fun hlt => ?_)
 ·obtain @⟨vq, bsq, atq, hbq, hlq, haq, hsq⟩ := id hq
  refine WP.mv rfl rfl ?_; refine WP.valG rfl rfl rfl rfl rfl rfl rfl (Yld.move rfl rfl) ?_; refine WP.valG rfl rfl rfl rfl rfl rfl rfl (Yld.nilCheck rfl rfl) ?_; refine WP.valG rfl rfl rfl rfl rfl rfl rfl (Yld.fieldAddr rfl ty_fd_76_2 rfl) ?_; refine WP.valG rfl rfl rfl rfl rfl rfl rfl (Yld.ld (v := .int .i64 s1.e) rfl ty_sc_27 rfl rfl) ?_; refine WP.splitG rfl rfl rfl rfl rfl rfl rfl (Yld.eql rfl rfl rfl) (fun he => ?_) (fun he => ?_)
  ·refine WP.vl rfl (Yld.pickT rfl rfl rfl) ?_
   refine WP.nil ?_; refine WP.sub [(0, _), (2, _), (4, _), (5, _), (6, _), (7, _), (38, _)] ?_ ⟨rfl, rfl, rfl, rfl, rfl, rfl, rfl, trivial⟩
   refine WP.next ?_; refine WP.condT rfl ?_; refine WP.skip (WP.next (WP.seq (WP.block (WP.seq ?_))))
   refine WP.region [0, 1, 2, 3, 4, 5, 6, 7, 8, 9, 10, 11, 12, 13, 14] rfl ?_; refine WP.mv rfl rfl ?_; refine WP.loud rfl rfl ?_; refine Op.cl (ref1_Num (most := 512) hq) rfl Tryz.func26 rfl rfl rfl rfl ?_; rintro v J Lq6 - ⟨rfl, rfl, hq⟩
   try simp only [nf]
   have hl6 := rNum_le 512 s1
   refine WP.vl rfl (Yld.conv64 (a := (((rNum 512 s1).1 : Nat) : Int)) rfl ty_un_62 ty_ik_3 rfl (by omega)) ?_; refine WP.mv rfl rfl ?_; refine WP.loud rfl rfl ?_; refine Op.cl (ref1_Num (most := 1099511627776) hq) rfl Tryz.func26 rfl rfl rfl rfl ?_; rintro v J Lq7 - ⟨rfl, rfl, hq⟩
   try simp only [nf]
   have hl7 := rNum_le 1099511627776 (rNum 512 s1).2
   refine WP.vl rfl (Yld.conv64 (a := (((rNum 1099511627776 (rNum 512 s1).2).1 : Nat) : Int)) rfl ty_un_62 ty_ik_3 rfl (by omega)) ?_; refine WP.mv rfl rfl ?_; refine WP.loud rfl rfl ?_; refine Op.cl (ref1_Num (most := 1099511627776) hq) rfl Tryz.func26 rfl rfl rfl rfl ?_; rintro v J Lq8 - ⟨rfl, rfl, hq⟩
   try simp only [nf]
   have hl8 := rNum_le 1099511627776 (rNum 1099511627776 (rNum 512 s1).2).2
   refine WP.vl rfl (Yld.conv64 (a := (((rNum 1099511627776 (rNum 1099511627776 (rNum 512 s1).2).2).1 : Nat) : Int)) rfl ty_un_62 ty_ik_3 rfl (by omega)) ?_; refine WP.mv rfl rfl ?_; refine WP.loud rfl rfl ?_; refine Op.cl (ref1_Num (most := 1099511627776) hq) rfl Tryz.func26 rfl rfl rfl rfl ?_; rintro v J Lq9 - ⟨rfl, rfl, hq⟩
   try simp only [nf]
   have hl9 := rNum_le 1099511627776 (rNum 1099511627776 (rNum 1099511627776 (rNum 512 s1).2).2).2
   refine WP.vl rfl (Yld.conv64 (a := (((rNum 1099511627776 (rNum 1099511627776 (rNum 1099511627776 (rNum 512 s1).2).2).2).1 : Nat) : Int)) rfl ty_un_62 ty_ik_3 rfl (by omega)) ?_; refine WP.vl rfl (Yld.buildS (pl := [(0, 0, 1), (1, 1, 1), (2, 2, 1), (3, 3, 1)]) rfl ty_zr_65 ty_zd_65 zK rfl (vs := [_, _, _, _]) rfl (segs := [(0, [_]), (1, [_]), (2, [_]), (3, [_])]) rfl rfl zS) ?_; refine WP.loud rfl rfl ?_; refine Op.alloc rfl rfl rfl ty_zr_65 (fun b8 => ?_)
   refine WP.loud rfl rfl ?_; refine Op.sA rfl rfl ty_sz_65 rfl rfl rfl rfl rfl ?_; refine WP.nil ?_; refine WP.sub [(0, _), (2, _), (4, _), (5, _), (6, _), (7, _), (8, _), (38, _)] ?_ ⟨rfl, rfl, rfl, rfl, rfl, rfl, rfl, rfl, trivial⟩
   refine WP.next ?_; refine WP.region [0, 1, 2, 3, 4, 5, 6] rfl ?_; refine WP.vl rfl (Yld.fieldAddr rfl ty_fd_24_4 rfl) ?_; refine WP.vl rfl (Yld.ld (v := .slice Ao i co) rfl ty_sc_22 rfl rfl) ?_; refine WP.vl rfl (Yld.ldg (vs := [.int .i64 ((rMp s1).1.page), .int .i64 ((rMp s1).1.place), .int .i64 ((rMp s1).1.no), .int .i64 ((rMp s1).1.low)]) rfl ty_ag_65 rfl rfl rfl) ?_; refine WP.loud rfl rfl ?_; refine Op.buildSlice rfl ty_sl_22 ty_el2_22 rfl rfl rfl rfl (vs := [_]) rfl (segs := [(0, [.int .i64 ((rMp s1).1.page), .int .i64 ((rMp s1).1.place), .int .i64 ((rMp s1).1.no), .int .i64 ((rMp s1).1.low)])]) (cs := [.int .i64 ((rMp s1).1.page), .int .i64 ((rMp s1).1.place), .int .i64 ((rMp s1).1.no), .int .i64 ((rMp s1).1.low)]) rfl rfl (.seg (Nat.le_refl _) rfl .nil) (fun bq => ?_)
   refine WP.loud rfl rfl ?_; refine Op.append (m := 1) rfl ty_sl_22 ty_el_22 rfl rfl rfl rfl rfl ho (SlRd.lit (m := 1) zM rfl (Nat.le_refl _)) zT rfl (by omega) (by omega) (fun vu Lu hu => ?_)
   try simp only [nf]
   obtain ⟨Au, cu, rfl, _⟩ := hu.slice
   refine WP.vl rfl (Yld.fieldAddr rfl ty_fd_24_4 rfl) ?_; refine WP.loud rfl rfl ?_; refine Op.s1 rfl rfl ty_sz_22 rfl rfl rfl ?_; refine WP.nil ?_; refine WP.sub [(0, _), (2, _), (4, _), (5, _), (6, _), (7, _), (8, _), (38, _)] ?_ ⟨rfl, rfl, rfl, rfl, rfl, rfl, rfl, rfl, trivial⟩
   refine WP.leave (WP.next ?_)
   refine WP.region [0, 1, 2] rfl ?_; refine WP.mv rfl rfl ?_; refine WP.vl rfl (Yld.add64 rfl rfl rfl (by omega)) ?_; refine WP.mv rfl rfl ?_; refine WP.nil ?_; refine WP.sub [(0, _), (2, _), (4, _), (5, _), (6, _), (7, _), (8, _), (38, _)] ?_ ⟨rfl, rfl, rfl, rfl, rfl, rfl, rfl, rfl, trivial⟩
   exact WP.again ⟨i + 1, l ++ [(rMp s1).1], (rMp s1).2, .slice Au (i + 1) cu, Lq9, Lu⟩ ⟨(show i + 1 ≤ (rH5 b).1 by omega), by rw [List.length_append, hll]; rfl, hq, by rw [mpsV_snoc]; exact hu, by rw [heq, show (rH5 b).1 - i = ((rH5 b).1 - (i + 1)) + 1 by omega, rMps_succ, List.append_assoc]; rfl⟩ (show (rH5 b).1 - (i + 1) < (rH5 b).1 - i by omega) ⟨rfl, rfl, rfl, rfl, rfl, rfl, trivial⟩ rfl zA
  ·have hs2 : (rCk b).2 = s1 := by unfold rCk; rw [heq]; exact rMps_e he
   have hl2 : s1.e = 0 → (rCk b).1 = ckOf b l := fun h => absurd h he
   refine WP.vl rfl (Yld.pickT rfl rfl rfl) ?_; refine WP.nil ?_; refine WP.sub [(0, _), (2, _), (4, _), (5, _), (6, _), (7, _), (38, _)] ?_ ⟨rfl, rfl, rfl, rfl, rfl, rfl, rfl, trivial⟩
   refine WP.next ?_; refine WP.condF rfl ?_; refine WP.exit (WP.thenE (WP.thenE (WP.hit (WP.next (WP.seq ?_)))))
   have hln : l.length ≤ 512 := by omega
   subst hll
   refine WP.shO ho (fun J3 hJ3 hps => ?_)
   refine WP.region [0, 1, 2] rfl ?_; refine WP.mv rfl rfl ?_; refine WP.loud rfl rfl ?_; refine Op.cl (ref1_Done (hq.mono hJ3)) rfl Tryz.func27 rfl rfl rfl rfl ?_; rintro v J L8 - ⟨rfl, rfl, hq⟩
   try simp only [nf]
   refine WP.mv rfl rfl ?_; refine WP.nil ?_; refine WP.sub [(0, _), (2, _), (4, _), (5, _), (6, _), (7, _), (9, _), (38, _)] ?_ ⟨rfl, rfl, rfl, rfl, rfl, rfl, rfl, rfl, trivial⟩
   refine WP.next (WP.seq ?_)
   refine WP.region [0, 1, 2] rfl ?_; refine WP.vl rfl (Yld.ldg (vs := kV (ckOf b l) (.slice Ao l.length co)) rfl ty_ag_24 rfl rfl rfl) ?_; refine WP.loud rfl rfl ?_; refine Op.cl (rchk_May (c := ckOf b l) hps) rfl Tryz.func19 rfl rfl rfl rfl ?_; rintro v J L1 - ⟨bm, rfl, hbm, rfl, rfl⟩
   try simp only [nf]
   by_cases hb1 : bm = true
   ·try rw [hb1]
    refine WP.mv rfl rfl ?_; refine WP.nil ?_; refine WP.sub [(0, _), (2, _), (4, _), (5, _), (6, _), (7, _), (9, _), (10, _), (38, _)] ?_ ⟨rfl, rfl, rfl, rfl, rfl, rfl, rfl, rfl, rfl, trivial⟩
    refine WP.next (WP.seq (WP.seq ?_))
    refine WP.region [0, 1, 2, 3, 4, 5, 6, 7, 8, 9, 10] rfl ?_; refine WP.mv rfl rfl ?_; refine WP.split rfl rfl rfl rfl (Yld.neq rfl rfl rfl) (fun hd => ?_) (fun hd => ?_)
    ·refine WP.mv rfl rfl ?_
     iterate 2 refine WP.passG rfl rfl rfl rfl rfl rfl rfl rfl ?_
     refine WP.vl rfl (Yld.pickT rfl rfl rfl) ?_; refine WP.mv rfl rfl ?_; iterate 3 refine WP.passG rfl rfl rfl rfl rfl rfl rfl rfl ?_
     refine WP.vl rfl (Yld.pickT rfl rfl rfl) ?_; refine WP.nil ?_; refine WP.sub [(0, _), (2, _), (4, _), (5, _), (6, _), (7, _), (9, _), (10, _), (38, _), (74, _)] ?_ ⟨rfl, rfl, rfl, rfl, rfl, rfl, rfl, rfl, rfl, rfl, trivial⟩
     refine WP.next ?_; refine WP.condT rfl ?_; refine WP.seq ?_; refine WP.region [0, 1, 2] rfl ?_; refine WP.vl rfl (Yld.buildS (pl := []) rfl ty_zr_24 ty_zd_24 zK rfl (vs := []) rfl (segs := []) rfl rfl zS) ?_; refine WP.loud rfl rfl ?_; refine Op.sA rfl rfl ty_sz_24 rfl rfl rfl rfl rfl ?_; refine WP.mv rfl rfl ?_; refine WP.nil ?_; refine WP.sub [(0, _), (2, _), (3, _), (4, _), (5, _), (6, _), (7, _), (9, _), (10, _), (38, _), (74, _)] ?_ ⟨rfl, rfl, rfl, rfl, rfl, rfl, rfl, rfl, rfl, rfl, rfl, trivial⟩
     refine WP.next (WP.ret ?_)
     refine WP.fn .ret (.inr rfl) (resT (rs := [.cell 2 24, .tmp 3]) (vs := [_, _]) rfl ⟨⟨_, _, _, _, rfl, zM, .inl ⟨ty_ag_24, by rfl, rfl⟩⟩, rfl, trivial⟩ rfl) [] (Imm.le_trans hJ1 hJ3) ?_; exact ⟨rfl, kZ, .slice none 0 0, 170, rfl, SlRd.nil0, .inr ⟨fun h => by have h1 := h.1; rw [hs2] at h1; have h2 := h.2.1; have h3 := h.2.2; first | exact hd h1 | omega | (rw [hl2 (Rs.done_e h1)] at h3; rw [hbm.2 h3] at hb1; cases hb1), rfl, rfl⟩⟩
    ·refine WP.mv rfl rfl ?_
     refine WP.valG rfl rfl rfl rfl rfl rfl rfl (Yld.move rfl rfl) ?_; refine WP.valG rfl rfl rfl rfl rfl rfl rfl (Yld.not rfl rfl) ?_; refine WP.vl rfl (Yld.pickF rfl rfl rfl) ?_; refine WP.mv rfl rfl ?_; refine WP.valG rfl rfl rfl rfl rfl rfl rfl (Yld.move rfl rfl) ?_; refine WP.valG rfl rfl rfl rfl rfl rfl rfl (Yld.len rfl ty_sl_25 rfl) ?_; refine WP.splitG rfl rfl rfl rfl rfl rfl rfl (Yld.gtr rfl rfl rfl) (fun hlong => ?_) (fun hlong => ?_)
     ·refine WP.vl rfl (Yld.pickF rfl rfl rfl) ?_
      refine WP.nil ?_; refine WP.sub [(0, _), (2, _), (4, _), (5, _), (6, _), (7, _), (9, _), (10, _), (38, _), (74, _)] ?_ ⟨rfl, rfl, rfl, rfl, rfl, rfl, rfl, rfl, rfl, rfl, trivial⟩
      refine WP.next ?_; refine WP.condT rfl ?_; refine WP.seq ?_; refine WP.region [0, 1, 2] rfl ?_; refine WP.vl rfl (Yld.buildS (pl := []) rfl ty_zr_24 ty_zd_24 zK rfl (vs := []) rfl (segs := []) rfl rfl zS) ?_; refine WP.loud rfl rfl ?_; refine Op.sA rfl rfl ty_sz_24 rfl rfl rfl rfl rfl ?_; refine WP.mv rfl rfl ?_; refine WP.nil ?_; refine WP.sub [(0, _), (2, _), (3, _), (4, _), (5, _), (6, _), (7, _), (9, _), (10, _), (38, _), (74, _)] ?_ ⟨rfl, rfl, rfl, rfl, rfl, rfl, rfl, rfl, rfl, rfl, rfl, trivial⟩
      refine WP.next (WP.ret ?_)
      refine WP.fn .ret (.inr rfl) (resT (rs := [.cell 2 24, .tmp 3]) (vs := [_, _]) rfl ⟨⟨_, _, _, _, rfl, zM, .inl ⟨ty_ag_24, by rfl, rfl⟩⟩, rfl, trivial⟩ rfl) [] (Imm.le_trans hJ1 hJ3) ?_; exact ⟨rfl, kZ, .slice none 0 0, 170, rfl, SlRd.nil0, .inr ⟨fun h => by have h1 := h.1; rw [hs2] at h1; have h2 := h.2.1; have h3 := h.2.2; first | exact hd h1 | omega | (rw [hl2 (Rs.done_e h1)] at h3; rw [hbm.2 h3] at hb1; cases hb1), rfl, rfl⟩⟩
     ·refine WP.vl rfl (Yld.pickF rfl rfl rfl) ?_
      refine WP.nil ?_; refine WP.sub [(0, _), (2, _), (4, _), (5, _), (6, _), (7, _), (9, _), (10, _), (38, _), (74, _)] ?_ ⟨rfl, rfl, rfl, rfl, rfl, rfl, rfl, rfl, rfl, rfl, trivial⟩
      refine WP.next ?_; refine WP.condF rfl ?_; refine WP.skip (WP.next (WP.seq ?_))
      refine WP.region [0, 1, 2] rfl ?_; refine WP.vl rfl (Yld.ldg (vs := kV (ckOf b l) (.slice Ao l.length co)) rfl ty_ag_24 rfl rfl rfl) ?_; refine WP.loud rfl rfl ?_; refine Op.sA rfl rfl ty_sz_24 rfl rfl rfl rfl rfl ?_; refine WP.mv rfl rfl ?_; refine WP.nil ?_; refine WP.sub [(0, _), (2, _), (3, _), (4, _), (5, _), (6, _), (7, _), (9, _), (10, _), (38, _), (74, _)] ?_ ⟨rfl, rfl, rfl, rfl, rfl, rfl, rfl, rfl, rfl, rfl, rfl, trivial⟩
      refine WP.next (WP.ret ?_)
      refine WP.fn .ret (.inr rfl) (resT (rs := [.cell 2 24, .tmp 3]) (vs := [_, _]) rfl ⟨⟨_, _, _, _, rfl, zM, .inl ⟨ty_ag_24, by rfl, rfl⟩⟩, rfl, trivial⟩ rfl) [] (Imm.le_trans hJ1 hJ3) ?_; exact ⟨rfl, ckOf b l, _, 0, rfl, hps, .inl ⟨⟨by rw [hs2]; exact Decidable.not_not.1 hd, by omega, by rw [hl2 (Rs.done_e (Decidable.not_not.1 hd))]; exact hbm.1 hb1⟩, rfl, (hl2 (Rs.done_e (Decidable.not_not.1 hd))).symm⟩⟩
   ·have hb1 : bm = false := eq_false_of_ne_true hb1
    try rw [hb1]
    refine WP.mv rfl rfl ?_; refine WP.nil ?_; refine WP.sub [(0, _), (2, _), (4, _), (5, _), (6, _), (7, _), (9, _), (10, _), (38, _)] ?_ ⟨rfl, rfl, rfl, rfl, rfl, rfl, rfl, rfl, rfl, trivial⟩
    refine WP.next (WP.seq (WP.seq ?_))
    refine WP.region [0, 1, 2, 3, 4, 5, 6, 7, 8, 9, 10] rfl ?_; refine WP.mv rfl rfl ?_; refine WP.split rfl rfl rfl rfl (Yld.neq rfl rfl rfl) (fun hd => ?_) (fun hd => ?_)
    ·refine WP.mv rfl rfl ?_
     iterate 2 refine WP.passG rfl rfl rfl rfl rfl rfl rfl rfl ?_
     refine WP.vl rfl (Yld.pickT rfl rfl rfl) ?_; refine WP.mv rfl rfl ?_; iterate 3 refine WP.passG rfl rfl rfl rfl rfl rfl rfl rfl ?_
     refine WP.vl rfl (Yld.pickT rfl rfl rfl) ?_; refine WP.nil ?_; refine WP.sub [(0, _), (2, _), (4, _), (5, _), (6, _), (7, _), (9, _), (10, _), (38, _), (74, _)] ?_ ⟨rfl, rfl, rfl, rfl, rfl, rfl, rfl, rfl, rfl, rfl, trivial⟩
     refine WP.next ?_; refine WP.condT rfl ?_; refine WP.seq ?_; refine WP.region [0, 1, 2] rfl ?_; refine WP.vl rfl (Yld.buildS (pl := []) rfl ty_zr_24 ty_zd_24 zK rfl (vs := []) rfl (segs := []) rfl rfl zS) ?_; refine WP.loud rfl rfl ?_; refine Op.sA rfl rfl ty_sz_24 rfl rfl rfl rfl rfl ?_; refine WP.mv rfl rfl ?_; refine WP.nil ?_; refine WP.sub [(0, _), (2, _), (3, _), (4, _), (5, _), (6, _), (7, _), (9, _), (10, _), (38, _), (74, _)] ?_ ⟨rfl, rfl, rfl, rfl, rfl, rfl, rfl, rfl, rfl, rfl, rfl, trivial⟩
     refine WP.next (WP.ret ?_)
     refine WP.fn .ret (.inr rfl) (resT (rs := [.cell 2 24, .tmp 3]) (vs := [_, _]) rfl ⟨⟨_, _, _, _, rfl, zM, .inl ⟨ty_ag_24, by rfl, rfl⟩⟩, rfl, trivial⟩ rfl) [] (Imm.le_trans hJ1 hJ3) ?_; exact ⟨rfl, kZ, .slice none 0 0, 170, rfl, SlRd.nil0, .inr ⟨fun h => by have h1 := h.1; rw [hs2] at h1; have h2 := h.2.1; have h3 := h.2.2; first | exact hd h1 | omega | (rw [hl2 (Rs.done_e h1)] at h3; rw [hbm.2 h3] at hb1; cases hb1), rfl, rfl⟩⟩
    ·refine WP.mv rfl rfl ?_
     refine WP.valG rfl rfl rfl rfl rfl rfl rfl (Yld.move rfl rfl) ?_; refine WP.valG rfl rfl rfl rfl rfl rfl rfl (Yld.not rfl rfl) ?_; refine WP.vl rfl (Yld.pickF rfl rfl rfl) ?_; refine WP.mv rfl rfl ?_; iterate 3 refine WP.passG rfl rfl rfl rfl rfl rfl rfl rfl ?_
     refine WP.vl rfl (Yld.pickT rfl rfl rfl) ?_; refine WP.nil ?_; refine WP.sub [(0, _), (2, _), (4, _), (5, _), (6, _), (7, _), (9, _), (10, _), (38, _), (74, _)] ?_ ⟨rfl, rfl, rfl, rfl, rfl, rfl, rfl, rfl, rfl, rfl, trivial⟩
     refine WP.next ?_; refine WP.condT rfl ?_; refine WP.seq ?_; refine WP.region [0, 1, 2] rfl ?_; refine WP.vl rfl (Yld.buildS (pl := []) rfl ty_zr_24 ty_zd_24 zK rfl (vs := []) rfl (segs := []) rfl rfl zS) ?_; refine WP.loud rfl rfl ?_; refine Op.sA rfl rfl ty_sz_24 rfl rfl rfl rfl rfl ?_; refine WP.mv rfl rfl ?_; refine WP.nil ?_; refine WP.sub [(0, _), (2, _), (3, _), (4, _), (5, _), (6, _), (7, _), (9, _), (10, _), (38, _), (74, _)] ?_ ⟨rfl, rfl, rfl, rfl, rfl, rfl, rfl, rfl, rfl, rfl, rfl, trivial⟩
     refine WP.next (WP.ret ?_)
     refine WP.fn .ret (.inr rfl) (resT (rs := [.cell 2 24, .tmp 3]) (vs := [_, _]) rfl ⟨⟨_, _, _, _, rfl, zM, .inl ⟨ty_ag_24, by rfl, rfl⟩⟩, rfl, trivial⟩ rfl) [] (Imm.le_trans hJ1 hJ3) ?_; exact ⟨rfl, kZ, .slice none 0 0, 170, rfl, SlRd.nil0, .inr ⟨fun h => by have h1 := h.1; rw [hs2] at h1; have h2 := h.2.1; have h3 := h.2.2; first | exact hd h1 | omega | (rw [hl2 (Rs.done_e h1)] at h3; rw [hbm.2 h3] at hb1; cases hb1), rfl, rfl⟩⟩
 ·have hn0 : i = (rH5 b).1 := by omega
  rw [hn0, Nat.sub_self] at heq
  have hg1 : (rCk b).1 = ckOf b l := by unfold rCk ckOf; rw [heq]; exact congrArg (Ck.mk _ _ _ _) (List.append_nil l)
  have hs2 : (rCk b).2 = s1 := by unfold rCk; rw [heq]; rfl
  have hl2 : s1.e = 0 → (rCk b).1 = ckOf b l := fun _ => hg1
  clear hn0
  refine WP.mv rfl rfl ?_; iterate 5 refine WP.passG rfl rfl rfl rfl rfl rfl rfl rfl ?_
  refine WP.vl rfl (Yld.pickF rfl rfl rfl) ?_; refine WP.nil ?_; refine WP.sub [(0, _), (2, _), (4, _), (5, _), (6, _), (7, _), (38, _)] ?_ ⟨rfl, rfl, rfl, rfl, rfl, rfl, rfl, trivial⟩
  refine WP.next ?_; refine WP.condF rfl ?_; refine WP.exit (WP.thenE (WP.thenE (WP.hit (WP.next (WP.seq ?_)))))
  have hln : l.length ≤ 512 := by omega
  subst hll
  refine WP.shO ho (fun J3 hJ3 hps => ?_)
  refine WP.region [0, 1, 2] rfl ?_; refine WP.mv rfl rfl ?_; refine WP.loud rfl rfl ?_; refine Op.cl (ref1_Done (hq.mono hJ3)) rfl Tryz.func27 rfl rfl rfl rfl ?_; rintro v J L8 - ⟨rfl, rfl, hq⟩
  try simp only [nf]
  refine WP.mv rfl rfl ?_; refine WP.nil ?_; refine WP.sub [(0, _), (2, _), (4, _), (5, _), (6, _), (7, _), (9, _), (38, _)] ?_ ⟨rfl, rfl, rfl, rfl, rfl, rfl, rfl, rfl, trivial⟩
  refine WP.next (WP.seq ?_)
  refine WP.region [0, 1, 2] rfl ?_; refine WP.vl rfl (Yld.ldg (vs := kV (ckOf b l) (.slice Ao l.length co)) rfl ty_ag_24 rfl rfl rfl) ?_; refine WP.loud rfl rfl ?_; refine Op.cl (rchk_May (c := ckOf b l) hps) rfl Tryz.func19 rfl rfl rfl rfl ?_; rintro v J L1 - ⟨bm, rfl, hbm, rfl, rfl⟩
  try simp only [nf]
  by_cases hb1 : bm = true
  ·try rw [hb1]
   refine WP.mv rfl rfl ?_; refine WP.nil ?_; refine WP.sub [(0, _), (2, _), (4, _), (5, _), (6, _), (7, _), (9, _), (10, _), (38, _)] ?_ ⟨rfl, rfl, rfl, rfl, rfl, rfl, rfl, rfl, rfl, trivial⟩
   refine WP.next (WP.seq (WP.seq ?_))
   refine WP.region [0, 1, 2, 3, 4, 5, 6, 7, 8, 9, 10] rfl ?_; refine WP.mv rfl rfl ?_; refine WP.split rfl rfl rfl rfl (Yld.neq rfl rfl rfl) (fun hd => ?_) (fun hd => ?_)
   ·refine WP.mv rfl rfl ?_
    iterate 2 refine WP.passG rfl rfl rfl rfl rfl rfl rfl rfl ?_
    refine WP.vl rfl (Yld.pickT rfl rfl rfl) ?_; refine WP.mv rfl rfl ?_; iterate 3 refine WP.passG rfl rfl rfl rfl rfl rfl rfl rfl ?_
    refine WP.vl rfl (Yld.pickT rfl rfl rfl) ?_; refine WP.nil ?_; refine WP.sub [(0, _), (2, _), (4, _), (5, _), (6, _), (7, _), (9, _), (10, _), (38, _), (74, _)] ?_ ⟨rfl, rfl, rfl, rfl, rfl, rfl, rfl, rfl, rfl, rfl, trivial⟩
    refine WP.next ?_; refine WP.condT rfl ?_; refine WP.seq ?_; refine WP.region [0, 1, 2] rfl ?_; refine WP.vl rfl (Yld.buildS (pl := []) rfl ty_zr_24 ty_zd_24 zK rfl (vs := []) rfl (segs := []) rfl rfl zS) ?_; refine WP.loud rfl rfl ?_; refine Op.sA rfl rfl ty_sz_24 rfl rfl rfl rfl rfl ?_; refine WP.mv rfl rfl ?_; refine WP.nil ?_; refine WP.sub [(0, _), (2, _), (3, _), (4, _), (5, _), (6, _), (7, _), (9, _), (10, _), (38, _), (74, _)] ?_ ⟨rfl, rfl, rfl, rfl, rfl, rfl, rfl, rfl, rfl, rfl, rfl, trivial⟩
    refine WP.next (WP.ret ?_)
    refine WP.fn .ret (.inr rfl) (resT (rs := [.cell 2 24, .tmp 3]) (vs := [_, _]) rfl ⟨⟨_, _, _, _, rfl, zM, .inl ⟨ty_ag_24, by rfl, rfl⟩⟩, rfl, trivial⟩ rfl) [] (Imm.le_trans hJ1 hJ3) ?_; exact ⟨rfl, kZ, .slice none 0 0, 170, rfl, SlRd.nil0, .inr ⟨fun h => by have h1 := h.1; rw [hs2] at h1; have h2 := h.2.1; have h3 := h.2.2; first | exact hd h1 | omega | (rw [hl2 (Rs.done_e h1)] at h3; rw [hbm.2 h3] at hb1; cases hb1), rfl, rfl⟩⟩
   ·refine WP.mv rfl rfl ?_
    refine WP.valG rfl rfl rfl rfl rfl rfl rfl (Yld.move rfl rfl) ?_; refine WP.valG rfl rfl rfl rfl rfl rfl rfl (Yld.not rfl rfl) ?_; refine WP.vl rfl (Yld.pickF rfl rfl rfl) ?_; refine WP.mv rfl rfl ?_; refine WP.valG rfl rfl rfl rfl rfl rfl rfl (Yld.move rfl rfl) ?_; refine WP.valG rfl rfl rfl rfl rfl rfl rfl (Yld.len rfl ty_sl_25 rfl) ?_; refine WP.splitG rfl rfl rfl rfl rfl rfl rfl (Yld.gtr rfl rfl rfl) (fun hlong => ?_) (fun hlong => ?_)
    ·refine WP.vl rfl (Yld.pickF rfl rfl rfl) ?_
     refine WP.nil ?_; refine WP.sub [(0, _), (2, _), (4, _), (5, _), (6, _), (7, _), (9, _), (10, _), (38, _), (74, _)] ?_ ⟨rfl, rfl, rfl, rfl, rfl, rfl, rfl, rfl, rfl, rfl, trivial⟩
     refine WP.next ?_; refine WP.condT rfl ?_; refine WP.seq ?_; refine WP.region [0, 1, 2] rfl ?_; refine WP.vl rfl (Yld.buildS (pl := []) rfl ty_zr_24 ty_zd_24 zK rfl (vs := []) rfl (segs := []) rfl rfl zS) ?_; refine WP.loud rfl rfl ?_; refine Op.sA rfl rfl ty_sz_24 rfl rfl rfl rfl rfl ?_; refine WP.mv rfl rfl ?_; refine WP.nil ?_; refine WP.sub [(0, _), (2, _), (3, _), (4, _), (5, _), (6, _), (7, _), (9, _), (10, _), (38, _), (74, _)] ?_ ⟨rfl, rfl, rfl, rfl, rfl, rfl, rfl, rfl, rfl, rfl, rfl, trivial⟩
     refine WP.next (WP.ret ?_)
     refine WP.fn .ret (.inr rfl) (resT (rs := [.cell 2 24, .tmp 3]) (vs := [_, _]) rfl ⟨⟨_, _, _, _, rfl, zM, .inl ⟨ty_ag_24, by rfl, rfl⟩⟩, rfl, trivial⟩ rfl) [] (Imm.le_trans hJ1 hJ3) ?_; exact ⟨rfl, kZ, .slice none 0 0, 170, rfl, SlRd.nil0, .inr ⟨fun h => by have h1 := h.1; rw [hs2] at h1; have h2 := h.2.1; have h3 := h.2.2; first | exact hd h1 | omega | (rw [hl2 (Rs.done_e h1)] at h3; rw [hbm.2 h3] at hb1; cases hb1), rfl, rfl⟩⟩
    ·refine WP.vl rfl (Yld.pickF rfl rfl rfl) ?_
     refine WP.nil ?_; refine WP.sub [(0, _), (2, _), (4, _), (5, _), (6, _), (7, _), (9, _), (10, _), (38, _), (74, _)] ?_ ⟨rfl, rfl, rfl, rfl, rfl, rfl, rfl, rfl, rfl, rfl, trivial⟩
     refine WP.next ?_; refine WP.condF rfl ?_; refine WP.skip (WP.next (WP.seq ?_))
     refine WP.region [0, 1, 2] rfl ?_; refine WP.vl rfl (Yld.ldg (vs := kV (ckOf b l) (.slice Ao l.length co)) rfl ty_ag_24 rfl rfl rfl) ?_; refine WP.loud rfl rfl ?_; refine Op.sA rfl rfl ty_sz_24 rfl rfl rfl rfl rfl ?_; refine WP.mv rfl rfl ?_; refine WP.nil ?_; refine WP.sub [(0, _), (2, _), (3, _), (4, _), (5, _), (6, _), (7, _), (9, _), (10, _), (38, _), (74, _)] ?_ ⟨rfl, rfl, rfl, rfl, rfl, rfl, rfl, rfl, rfl, rfl, rfl, trivial⟩
     refine WP.next (WP.ret ?_)
     refine WP.fn .ret (.inr rfl) (resT (rs := [.cell 2 24, .tmp 3]) (vs := [_, _]) rfl ⟨⟨_, _, _, _, rfl, zM, .inl ⟨ty_ag_24, by rfl, rfl⟩⟩, rfl, trivial⟩ rfl) [] (Imm.le_trans hJ1 hJ3) ?_; exact ⟨rfl, ckOf b l, _, 0, rfl, hps, .inl ⟨⟨by rw [hs2]; exact Decidable.not_not.1 hd, by omega, by rw [hl2 (Rs.done_e (Decidable.not_not.1 hd))]; exact hbm.1 hb1⟩, rfl, (hl2 (Rs.done_e (Decidable.not_not.1 hd))).symm⟩⟩
  ·have hb1 : bm = false := eq_false_of_ne_true hb1
   try rw [hb1]
   refine WP.mv rfl rfl ?_; refine WP.nil ?_; refine WP.sub [(0, _), (2, _), (4, _), (5, _), (6, _), (7, _), (9, _), (10, _), (38, _)] ?_ ⟨rfl, rfl, rfl, rfl, rfl, rfl, rfl, rfl, rfl, trivial⟩
   refine WP.next (WP.seq (WP.seq ?_))
   refine WP.region [0, 1, 2, 3, 4, 5, 6, 7, 8, 9, 10] rfl ?_; refine WP.mv rfl rfl ?_; refine WP.split rfl rfl rfl rfl (Yld.neq rfl rfl rfl) (fun hd => ?_) (fun hd => ?_)
   ·refine WP.mv rfl rfl ?_
    iterate 2 refine WP.passG rfl rfl rfl rfl rfl rfl rfl rfl ?_
    refine WP.vl rfl (Yld.pickT rfl rfl rfl) ?_; refine WP.mv rfl rfl ?_; iterate 3 refine WP.passG rfl rfl rfl rfl rfl rfl rfl rfl ?_
    refine WP.vl rfl (Yld.pickT rfl rfl rfl) ?_; refine WP.nil ?_; refine WP.sub [(0, _), (2, _), (4, _), (5, _), (6, _), (7, _), (9, _), (10, _), (38, _), (74, _)] ?_ ⟨rfl, rfl, rfl, rfl, rfl, rfl, rfl, rfl, rfl, rfl, trivial⟩
    refine WP.next ?_; refine WP.condT rfl ?_; refine WP.seq ?_; refine WP.region [0, 1, 2] rfl ?_; refine WP.vl rfl (Yld.buildS (pl := []) rfl ty_zr_24 ty_zd_24 zK rfl (vs := []) rfl (segs := []) rfl rfl zS) ?_; refine WP.loud rfl rfl ?_; refine Op.sA rfl rfl ty_sz_24 rfl rfl rfl rfl rfl ?_; refine WP.mv rfl rfl ?_; refine WP.nil ?_; refine WP.sub [(0, _), (2, _), (3, _), (4, _), (5, _), (6, _), (7, _), (9, _), (10, _), (38, _), (74, _)] ?_ ⟨rfl, rfl, rfl, rfl, rfl, rfl, rfl, rfl, rfl, rfl, rfl, trivial⟩
    refine WP.next (WP.ret ?_)
    refine WP.fn .ret (.inr rfl) (resT (rs := [.cell 2 24, .tmp 3]) (vs := [_, _]) rfl ⟨⟨_, _, _, _, rfl, zM, .inl ⟨ty_ag_24, by rfl, rfl⟩⟩, rfl, trivial⟩ rfl) [] (Imm.le_trans hJ1 hJ3) ?_; exact ⟨rfl, kZ, .slice none 0 0, 170, rfl, SlRd.nil0, .inr ⟨fun h => by have h1 := h.1; rw [hs2] at h1; have h2 := h.2.1; have h3 := h.2.2; first | exact hd h1 | omega | (rw [hl2 (Rs.done_e h1)] at h3; rw [hbm.2 h3] at hb1; cases hb1), rfl, rfl⟩⟩
   ·refine WP.mv rfl rfl ?_
    refine WP.valG rfl rfl rfl rfl rfl rfl rfl (Yld.move rfl rfl) ?_; refine WP.valG rfl rfl rfl rfl rfl rfl rfl (Yld.not rfl rfl) ?_; refine WP.vl rfl (Yld.pickF rfl rfl rfl) ?_; refine WP.mv rfl rfl ?_; iterate 3 refine WP.passG rfl rfl rfl rfl rfl rfl rfl rfl ?_
    refine WP.vl rfl (Yld.pickT rfl rfl rfl) ?_; refine WP.nil ?_; refine WP.sub [(0, _), (2, _), (4, _), (5, _), (6, _), (7, _), (9, _), (10, _), (38, _), (74, _)] ?_ ⟨rfl, rfl, rfl, rfl, rfl, rfl, rfl, rfl, rfl, rfl, trivial⟩
    refine WP.next ?_; refine WP.condT rfl ?_; refine WP.seq ?_; refine WP.region [0, 1, 2] rfl ?_; refine WP.vl rfl (Yld.buildS (pl := []) rfl ty_zr_24 ty_zd_24 zK rfl (vs := []) rfl (segs := []) rfl rfl zS) ?_; refine WP.loud rfl rfl ?_; refine Op.sA rfl rfl ty_sz_24 rfl rfl rfl rfl rfl ?_; refine WP.mv rfl rfl ?_; refine WP.nil ?_; refine WP.sub [(0, _), (2, _), (3, _), (4, _), (5, _), (6, _), (7, _), (9, _), (10, _), (38, _), (74, _)] ?_ ⟨rfl, rfl, rfl, rfl, rfl, rfl, rfl, rfl, rfl, rfl, rfl, trivial⟩
    refine WP.next (WP.ret ?_)
    refine WP.fn .ret (.inr rfl) (resT (rs := [.cell 2 24, .tmp 3]) (vs := [_, _]) rfl ⟨⟨_, _, _, _, rfl, zM, .inl ⟨ty_ag_24, by rfl, rfl⟩⟩, rfl, trivial⟩ rfl) [] (Imm.le_trans hJ1 hJ3) ?_; exact ⟨rfl, kZ, .slice none 0 0, 170, rfl, SlRd.nil0, .inr ⟨fun h => by have h1 := h.1; rw [hs2] at h1; have h2 := h.2.1; have h3 := h.2.2; first | exact hd h1 | omega | (rw [hl2 (Rs.done_e h1)] at h3; rw [hbm.2 h3] at hb1; cases hb1), rfl, rfl⟩⟩

theorem rchk_Same {I : Imm} {c d : Ck} {vp vq : Value} (hv : SlRd (Im I) vp c.ps.length 4 (c.ps.flatMap mpV)) (hw : SlRd (Im I) vq d.ps.length 4 (d.ps.flatMap mpV)) (hln : c.ps.length ≤ 140737488351232) : Spec Tryz.prog 9 [.agg (kV c vp).toArray, .agg (kV d vq).toArray] I [] (fun v J L => ∃ b : Bool, v = .bool b ∧ (b = true ↔ c = d) ∧ I = J ∧ L = []) := by
 obtain ⟨Ap, cp, rfl, _, _, _⟩ := id hv
 obtain ⟨Aq, cq, rfl, _, _, _⟩ := id hw
 refine Spec.of Tryz.func9 rfl Tryz.ntmps9 (Nat.le_of_ble_eq_true rfl) (fun F => ?_)
 try simp only [nf]
 dsimp only [argsEnv]
 refine WP.seq ?_; refine WP.region [0, 1, 2] rfl ?_; refine WP.loud rfl rfl ?_; refine Op.box rfl rfl rfl rfl rfl (fun b2 => ?_)
 refine WP.loud rfl rfl ?_; refine Op.box rfl rfl rfl rfl rfl (fun b3 => ?_)
 refine WP.mv rfl rfl ?_; refine WP.nil (WP.next (WP.seq (WP.seq ?_)))
 refine WP.region [0, 1, 2, 3, 4, 5, 6, 7, 8, 9, 10, 11, 12, 13, 14, 15, 16, 17, 18, 19, 20, 21, 22, 23, 24, 25, 26, 27, 28, 29, 30, 31, 32, 33, 34] rfl ?_; refine WP.vl rfl (Yld.fieldAddr rfl ty_fd_24_0 rfl) ?_; refine WP.vl rfl (Yld.ld rfl ty_sc_3 rfl rfl) ?_; refine WP.vl rfl (Yld.fieldAddr rfl ty_fd_24_0 rfl) ?_; refine WP.vl rfl (Yld.ld rfl ty_sc_3 rfl rfl) ?_; refine WP.split rfl rfl rfl rfl (Yld.neq rfl rfl rfl) (fun h1 => ?_) (fun h1 => ?_)
 ·refine WP.mv rfl rfl ?_
  iterate 5 refine WP.passG rfl rfl rfl rfl rfl rfl rfl rfl ?_
  refine WP.vl rfl (Yld.pickT rfl rfl rfl) ?_; refine WP.mv rfl rfl ?_; iterate 5 refine WP.passG rfl rfl rfl rfl rfl rfl rfl rfl ?_
  refine WP.vl rfl (Yld.pickT rfl rfl rfl) ?_; refine WP.mv rfl rfl ?_; iterate 5 refine WP.passG rfl rfl rfl rfl rfl rfl rfl rfl ?_
  refine WP.vl rfl (Yld.pickT rfl rfl rfl) ?_; refine WP.mv rfl rfl ?_; iterate 7 refine WP.passG rfl rfl rfl rfl rfl rfl rfl rfl ?_
  refine WP.vl rfl (Yld.pickT rfl rfl rfl) ?_; refine WP.nil ?_; refine WP.sub [(0, _), (1, _), (2, _), (3, _), (4, _), (40, _)] ?_ ⟨rfl, rfl, rfl, rfl, rfl, rfl, trivial⟩
  refine WP.next ?_; refine WP.condT rfl ?_; refine WP.seq ?_; refine WP.region [0] rfl ?_; refine WP.mv rfl rfl ?_; refine WP.nil (WP.next (WP.ret ?_))
  refine WP.fn .ret (.inr rfl) (res1 rfl rfl) [] (Imm.le_refl _) ?_; exact ⟨false, rfl, ⟨fun h => (by cases h), fun h => by subst h; exact absurd rfl h1⟩, rfl, rfl⟩
 ·refine WP.mv rfl rfl ?_
  refine WP.valG rfl rfl rfl rfl rfl rfl rfl (Yld.fieldAddr rfl ty_fd_24_1 rfl) ?_; refine WP.valG rfl rfl rfl rfl rfl rfl rfl (Yld.ld rfl ty_sc_3 rfl rfl) ?_; refine WP.valG rfl rfl rfl rfl rfl rfl rfl (Yld.fieldAddr rfl ty_fd_24_1 rfl) ?_; refine WP.valG rfl rfl rfl rfl rfl rfl rfl (Yld.ld rfl ty_sc_3 rfl rfl) ?_; refine WP.splitG rfl rfl rfl rfl rfl rfl rfl (Yld.neq rfl rfl rfl) (fun h2 => ?_) (fun h2 => ?_)
  ·refine WP.vl rfl (Yld.pickF rfl rfl rfl) ?_
   refine WP.mv rfl rfl ?_; iterate 5 refine WP.passG rfl rfl rfl rfl rfl rfl rfl rfl ?_
   refine WP.vl rfl (Yld.pickT rfl rfl rfl) ?_; refine WP.mv rfl rfl ?_; iterate 5 refine WP.passG rfl rfl rfl rfl rfl rfl rfl rfl ?_
   refine WP.vl rfl (Yld.pickT rfl rfl rfl) ?_; refine WP.mv rfl rfl ?_; iterate 7 refine WP.passG rfl rfl rfl rfl rfl rfl rfl rfl ?_
   refine WP.vl rfl (Yld.pickT rfl rfl rfl) ?_; refine WP.nil ?_; refine WP.sub [(0, _), (1, _), (2, _), (3, _), (4, _), (40, _)] ?_ ⟨rfl, rfl, rfl, rfl, rfl, rfl, trivial⟩
   refine WP.next ?_; refine WP.condT rfl ?_; refine WP.seq ?_; refine WP.region [0] rfl ?_; refine WP.mv rfl rfl ?_; refine WP.nil (WP.next (WP.ret ?_))
   refine WP.fn .ret (.inr rfl) (res1 rfl rfl) [] (Imm.le_refl _) ?_; exact ⟨false, rfl, ⟨fun h => (by cases h), fun h => by subst h; exact absurd rfl h2⟩, rfl, rfl⟩
  ·refine WP.vl rfl (Yld.pickF rfl rfl rfl) ?_
   refine WP.mv rfl rfl ?_; refine WP.valG rfl rfl rfl rfl rfl rfl rfl (Yld.fieldAddr rfl ty_fd_24_2 rfl) ?_; refine WP.valG rfl rfl rfl rfl rfl rfl rfl (Yld.ld rfl ty_sc_3 rfl rfl) ?_; refine WP.valG rfl rfl rfl rfl rfl rfl rfl (Yld.fieldAddr rfl ty_fd_24_2 rfl) ?_; refine WP.valG rfl rfl rfl rfl rfl rfl rfl (Yld.ld rfl ty_sc_3 rfl rfl) ?_; refine WP.splitG rfl rfl rfl rfl rfl rfl rfl (Yld.neq rfl rfl rfl) (fun h3 => ?_) (fun h3 => ?_)
   ·refine WP.vl rfl (Yld.pickF rfl rfl rfl) ?_
    refine WP.mv rfl rfl ?_; iterate 5 refine WP.passG rfl rfl rfl rfl rfl rfl rfl rfl ?_
    refine WP.vl rfl (Yld.pickT rfl rfl rfl) ?_; refine WP.mv rfl rfl ?_; iterate 7 refine WP.passG rfl rfl rfl rfl rfl rfl rfl rfl ?_
    refine WP.vl rfl (Yld.pickT rfl rfl rfl) ?_; refine WP.nil ?_; refine WP.sub [(0, _), (1, _), (2, _), (3, _), (4, _), (40, _)] ?_ ⟨rfl, rfl, rfl, rfl, rfl, rfl, trivial⟩
    refine WP.next ?_; refine WP.condT rfl ?_; refine WP.seq ?_; refine WP.region [0] rfl ?_; refine WP.mv rfl rfl ?_; refine WP.nil (WP.next (WP.ret ?_))
    refine WP.fn .ret (.inr rfl) (res1 rfl rfl) [] (Imm.le_refl _) ?_; exact ⟨false, rfl, ⟨fun h => (by cases h), fun h => by subst h; exact absurd rfl h3⟩, rfl, rfl⟩
   ·refine WP.vl rfl (Yld.pickF rfl rfl rfl) ?_
    refine WP.mv rfl rfl ?_; refine WP.valG rfl rfl rfl rfl rfl rfl rfl (Yld.fieldAddr rfl ty_fd_24_3 rfl) ?_; refine WP.valG rfl rfl rfl rfl rfl rfl rfl (Yld.ld rfl ty_sc_3 rfl rfl) ?_; refine WP.valG rfl rfl rfl rfl rfl rfl rfl (Yld.fieldAddr rfl ty_fd_24_3 rfl) ?_; refine WP.valG rfl rfl rfl rfl rfl rfl rfl (Yld.ld rfl ty_sc_3 rfl rfl) ?_; refine WP.splitG rfl rfl rfl rfl rfl rfl rfl (Yld.neq rfl rfl rfl) (fun h4 => ?_) (fun h4 => ?_)
    ·refine WP.vl rfl (Yld.pickF rfl rfl rfl) ?_
     refine WP.mv rfl rfl ?_; iterate 7 refine WP.passG rfl rfl rfl rfl rfl rfl rfl rfl ?_
     refine WP.vl rfl (Yld.pickT rfl rfl rfl) ?_; refine WP.nil ?_; refine WP.sub [(0, _), (1, _), (2, _), (3, _), (4, _), (40, _)] ?_ ⟨rfl, rfl, rfl, rfl, rfl, rfl, trivial⟩
     refine WP.next ?_; refine WP.condT rfl ?_; refine WP.seq ?_; refine WP.region [0] rfl ?_; refine WP.mv rfl rfl ?_; refine WP.nil (WP.next (WP.ret ?_))
     refine WP.fn .ret (.inr rfl) (res1 rfl rfl) [] (Imm.le_refl _) ?_; exact ⟨false, rfl, ⟨fun h => (by cases h), fun h => by subst h; exact absurd rfl h4⟩, rfl, rfl⟩
    ·refine WP.vl rfl (Yld.pickF rfl rfl rfl) ?_
     refine WP.mv rfl rfl ?_; refine WP.valG rfl rfl rfl rfl rfl rfl rfl (Yld.fieldAddr rfl ty_fd_24_4 rfl) ?_; refine WP.valG rfl rfl rfl rfl rfl rfl rfl (Yld.ld (v := .slice Ap c.ps.length cp) rfl ty_sc_22 rfl rfl) ?_; refine WP.valG rfl rfl rfl rfl rfl rfl rfl (Yld.len rfl ty_sl_22 rfl) ?_; refine WP.valG rfl rfl rfl rfl rfl rfl rfl (Yld.fieldAddr rfl ty_fd_24_4 rfl) ?_; refine WP.valG rfl rfl rfl rfl rfl rfl rfl (Yld.ld (v := .slice Aq d.ps.length cq) rfl ty_sc_22 rfl rfl) ?_; refine WP.valG rfl rfl rfl rfl rfl rfl rfl (Yld.len rfl ty_sl_22 rfl) ?_; refine WP.splitG rfl rfl rfl rfl rfl rfl rfl (Yld.neq rfl rfl rfl) (fun h5 => ?_) (fun h5 => ?_)
     ·refine WP.vl rfl (Yld.pickF rfl rfl rfl) ?_
      refine WP.nil ?_; refine WP.sub [(0, _), (1, _), (2, _), (3, _), (4, _), (40, _)] ?_ ⟨rfl, rfl, rfl, rfl, rfl, rfl, trivial⟩
      refine WP.next ?_; refine WP.condT rfl ?_; refine WP.seq ?_; refine WP.region [0] rfl ?_; refine WP.mv rfl rfl ?_; refine WP.nil (WP.next (WP.ret ?_))
      refine WP.fn .ret (.inr rfl) (res1 rfl rfl) [] (Imm.le_refl _) ?_; exact ⟨false, rfl, ⟨fun h => (by cases h), fun h => by subst h; exact absurd rfl h5⟩, rfl, rfl⟩
     ·refine WP.vl rfl (Yld.pickF rfl rfl rfl) ?_
      refine WP.nil ?_; refine WP.sub [(0, _), (1, _), (2, _), (3, _), (4, _), (40, _)] ?_ ⟨rfl, rfl, rfl, rfl, rfl, rfl, trivial⟩
      refine WP.next ?_; refine WP.condF rfl ?_; refine WP.skip (WP.next (WP.seq (WP.seq ?_)))
      refine WP.region [0] rfl ?_; refine WP.mv rfl rfl ?_; refine WP.nil (WP.next (WP.block ?_))
      refine WP.loop (X := Nat) (fun i : Nat => [(2, .pointer (some ⟨b2, 0, none⟩)), (3, .pointer (some ⟨b3, 0, none⟩)), (5, .int .i64 (i : Int))]) (fun _ => I) (fun _ : Nat => (b2, row 24 (kV c (.slice Ap c.ps.length cp))) :: (b3, row 24 (kV d (.slice Aq d.ps.length cq))) :: F) (fun i : Nat => i ≤ c.ps.length ∧ ∀ k, k < i → c.ps[k]? = d.ps[k]?) (fun i => c.ps.length - i) 0 ⟨Nat.zero_le _, fun k hk => absurd hk (Nat.not_lt_zero _)⟩ ⟨rfl, rfl, rfl, trivial⟩ rfl zA ?_; rintro i ⟨hle, hall⟩
      try dsimp only
      try simp only [nf]
      refine WP.seq (WP.seq ?_)
      refine WP.region [0, 1, 2, 3, 4] rfl ?_; refine WP.mv rfl rfl ?_; refine WP.vl rfl (Yld.fieldAddr rfl ty_fd_24_4 rfl) ?_; refine WP.vl rfl (Yld.ld (v := .slice Ap c.ps.length cp) rfl ty_sc_22 rfl rfl) ?_; refine WP.vl rfl (Yld.len rfl ty_sl_22 rfl) ?_; refine WP.split rfl rfl rfl rfl (Yld.lss rfl rfl rfl) (fun hlt => ?_) (fun hlt => ?_)
      ·have hi : i < c.ps.length := by omega
       have hid : i < d.ps.length := by omega
       obtain ⟨bp, kp, Tp, fp, arp, ep, hbp, hcp⟩ := mps_at hv hi
       obtain ⟨bq, kq, Tq, fq, arq, eq_, hbq, hcq⟩ := mps_at hw hid
       refine WP.nil ?_; refine WP.sub [(2, _), (3, _), (5, _), (45, _)] ?_ ⟨rfl, rfl, rfl, rfl, trivial⟩
       refine WP.next ?_; refine WP.condT rfl ?_; refine WP.skip (WP.next (WP.seq (WP.block (WP.seq ?_))))
       refine WQ.startAll Tryzmixed zK _ rfl ?_; refine WQ.val rfl rfl rfl (Yld.fieldAddr rfl ty_fd_24_4 rfl) ?_; refine WQ.val rfl rfl rfl (Yld.ld (v := .slice Ap c.ps.length cp) rfl ty_sc_22 rfl rfl) ?_; refine WQ.val rfl rfl rfl (Yld.move rfl rfl) ?_; refine WQ.val rfl rfl rfl (Yld.indexAddr (i := i) rfl ty_sl_22 (congrArg (fun a => some (Value.slice a c.ps.length cp)) ep) rfl hi) ?_; refine WQ.val rfl rfl rfl (Yld.loadAggC (vs := mpV (c.ps[i])) rfl ty_ag_65 rfl (There.i hbp) hcp rfl) ?_; refine WQ.val rfl rfl rfl (Yld.fieldAddr rfl ty_fd_24_4 rfl) ?_; refine WQ.val rfl rfl rfl (Yld.ld (v := .slice Aq d.ps.length cq) rfl ty_sc_22 rfl rfl) ?_; refine WQ.val rfl rfl rfl (Yld.move rfl rfl) ?_; refine WQ.val rfl rfl rfl (Yld.indexAddr (i := i) rfl ty_sl_22 (congrArg (fun a => some (Value.slice a d.ps.length cq)) eq_) rfl hid) ?_; refine WQ.val rfl rfl rfl (Yld.loadAggC (vs := mpV (d.ps[i])) rfl ty_ag_65 rfl (There.i hbq) hcq rfl) ?_; refine WQ.val rfl rfl rfl (Yld.neqInts (m := 4) (us := [c.ps[i].page, c.ps[i].place, c.ps[i].no, c.ps[i].low]) (vs := [d.ps[i].page, d.ps[i].place, d.ps[i].no, d.ps[i].low]) rfl zK rfl rfl rfl rfl _ rfl) ?_; by_cases hne : (decide (([c.ps[i].page, c.ps[i].place, c.ps[i].no, c.ps[i].low] : List Int) ≠ [d.ps[i].page, d.ps[i].place, d.ps[i].no, d.ps[i].low])) = true
       ·try rw [hne]
        refine WQ.nil ?_; refine WP.sub [(2, _), (3, _), (5, _), (45, _), (58, _)] ?_ ⟨rfl, rfl, rfl, rfl, rfl, trivial⟩
        refine WP.next ?_; refine WP.condT rfl ?_; refine WP.seq ?_; refine WP.region [0] rfl ?_; refine WP.mv rfl rfl ?_; refine WP.nil (WP.next (WP.ret ?_))
        refine WP.fn .ret (.inr rfl) (res1 rfl rfl) [] (Imm.le_refl _) ?_; exact ⟨false, rfl, ⟨fun h => (by cases h), fun h => by subst h; exact absurd rfl (of_decide_eq_true hne)⟩, rfl, rfl⟩
       ·have hne : (decide (([c.ps[i].page, c.ps[i].place, c.ps[i].no, c.ps[i].low] : List Int) ≠ [d.ps[i].page, d.ps[i].place, d.ps[i].no, d.ps[i].low])) = false := eq_false_of_ne_true hne
        try rw [hne]
        refine WQ.nil ?_; refine WP.sub [(2, _), (3, _), (5, _), (45, _), (58, _)] ?_ ⟨rfl, rfl, rfl, rfl, rfl, trivial⟩
        refine WP.next ?_; refine WP.condF rfl ?_; refine WP.skip (WP.leave (WP.next ?_))
        refine WP.region [0, 1, 2] rfl ?_; refine WP.mv rfl rfl ?_; refine WP.vl rfl (Yld.add64 rfl rfl rfl (by omega)) ?_; refine WP.mv rfl rfl ?_; refine WP.nil ?_; refine WP.sub [(2, _), (3, _), (5, _), (45, _), (58, _)] ?_ ⟨rfl, rfl, rfl, rfl, rfl, trivial⟩
        exact WP.again (i + 1) ⟨hi, fun k hk => by
    rcases Nat.lt_succ_iff_lt_or_eq.1 hk with hk | hk
    ·exact hall k hk
    ·subst hk; rw [List.getElem?_eq_getElem hi, List.getElem?_eq_getElem hid, mp_ext (Decidable.not_not.1 (of_decide_eq_false hne))]⟩ (show c.ps.length - (i + 1) < c.ps.length - i by omega) ⟨rfl, rfl, rfl, trivial⟩ rfl zA
      ·refine WP.nil ?_
       refine WP.sub [(2, _), (3, _), (5, _), (45, _)] ?_ ⟨rfl, rfl, rfl, rfl, trivial⟩
       refine WP.next ?_; refine WP.condF rfl ?_; refine WP.exit (WP.thenE (WP.thenE (WP.hit (WP.next (WP.seq ?_)))))
       refine WP.region [0] rfl ?_; refine WP.mv rfl rfl ?_; refine WP.nil (WP.next (WP.ret ?_))
       refine WP.fn .ret (.inr rfl) (res1 rfl rfl) [] (Imm.le_refl _) ?_; exact ⟨true, rfl, ⟨fun _ => ck_ext (by omega) (by omega) (by omega) (by omega) (List.ext_getElem? fun k => by by_cases hk : k < i; exact hall k hk; rw [List.getElem?_eq_none (by omega), List.getElem?_eq_none (by omega)]), fun _ => rfl⟩, rfl, rfl⟩


end Go.Hp
