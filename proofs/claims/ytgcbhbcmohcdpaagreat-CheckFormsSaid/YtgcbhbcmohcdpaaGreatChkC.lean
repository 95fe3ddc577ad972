import Derived.Test.YtgcbhbcmohcdpaaGreatChkB
set_option linter.unusedVariables false
set_option linter.unusedSimpArgs false
namespace Go.Hp
open Go Go.Proofs

theorem chk_take {I : Imm} {q rb : Nat} {s : Rs} {L : Chunks} (hq : IsRd I q s L) {most : Nat} (hm : most < 9223372036854775808) : Spec Tryz.prog 22 [.int .i64 (most : Int), .pointer (some ⟨rb, 0, none⟩)] I ((rb, row 68 [.pointer (some ⟨q, 0, none⟩)]) :: L) (fun v J L' => v = .int .i64 ((rNum most s).1 : Int) ∧ I = J ∧ ∃ Lr, L' = (rb, row 68 [.pointer (some ⟨q, 0, none⟩)]) :: Lr ∧ IsRd I q (rNum most s).2 Lr) := by
 refine Spec.of Tryz.func22 rfl Tryz.ntmps22 (Nat.le_of_ble_eq_true rfl) (fun F => ?_)
 try simp only [nf]
 dsimp only [argsEnv]
 refine WP.seq ?_; refine WP.region [0] rfl ?_; refine WP.mv rfl rfl ?_; refine WP.nil (WP.next (WP.seq ?_))
 refine WP.region [0, 1, 2, 3, 4, 5] rfl ?_; refine WP.vl rfl (Yld.ld rfl ty_sc_68 rfl rfl) ?_; refine WP.mv rfl rfl ?_; refine WP.vl rfl (Yld.conv64u most rfl ty_un_3 ty_ik_62 rfl (by omega)) ?_; refine WP.loud rfl rfl ?_; refine Op.cl (code_RNum (most := most) hq) rfl Tryz.func23 rfl rfl rfl rfl ?_; rintro v J L1 - ⟨rfl, rfl, hq1⟩
 try simp only [nf]
 have hle := rNum_le most s
 refine WP.vl rfl (Yld.conv64 (a := (((rNum most s).1 : Nat) : Int)) rfl ty_un_62 ty_ik_3 rfl (by omega)) ?_; refine WP.mv rfl rfl ?_; refine WP.nil ?_; refine WP.sub [(0, _), (1, _), (3, _)] ?_ ⟨rfl, rfl, rfl, trivial⟩
 refine WP.next (WP.ret ?_)
 refine WP.fn .ret (.inr rfl) (res1 rfl rfl) ((rb, row 68 [.pointer (some ⟨q, 0, none⟩)]) :: L1) (Imm.le_refl _) ?_; exact ⟨rfl, rfl, L1, rfl, hq1⟩


structure DkX where
 i : Nat
 l : List Mp
 s : Rs
 v : Value
 Lr : Chunks
 Lo : Chunks
theorem rMps_succ (n : Nat) (s : Rs) : rMps (n + 1) s = ((rMp s).1 :: (rMps n (rMp s).2).1, (rMps n (rMp s).2).2) := rfl
theorem mpsV_snoc (l : List Mp) (p : Mp) : (l ++ [p]).flatMap mpV = l.flatMap mpV ++ mpV p := by rw [List.flatMap_append, List.flatMap_cons, List.flatMap_nil, List.append_nil]
def ckOf (b : List UInt8) (l : List Mp) : Ck := ⟨(rH1 b).1, (rH2 b).1, (rH3 b).1, (rH4 b).1, l⟩
theorem SlRd.nil0 {V : Nat → Obj → Prop} : SlRd V (.slice none 0 0) 0 4 [] := ⟨none, 0, rfl, Nat.le_refl _, by simp, .inl rfl⟩
theorem chk_Decode {I : Imm} {b : List UInt8} {vb : Value} (hb : SlRd (Im I) vb b.length 1 (bytesV b)) (hl : b.length ≤ 140737488355328) : Spec Tryz.prog 7 [vb] I [] (fun v J L => L = [] ∧ ∃ c vp, ∃ e : Int, v = .tuple #[.agg (kV c vp).toArray, .int .i64 e] ∧ SlRd (Im J) vp c.ps.length 4 (c.ps.flatMap mpV) ∧ KDec b c e) := by
 obtain ⟨Ab, cb, rfl, _, _, _⟩ := id hb
 refine Spec.of Tryz.func7 rfl Tryz.ntmps7 (Nat.le_of_ble_eq_true rfl) (fun F => ?_)
 try simp only [nf]
 dsimp only [argsEnv]
 refine WP.seq ?_; refine WP.region [0, 1] rfl ?_; refine WP.loud rfl rfl ?_; refine Op.alloc rfl rfl rfl ty_zr_24 (fun b2 => ?_)
 refine WP.mv rfl rfl ?_; refine WP.nil (WP.next (WP.seq ?_))
 refine WP.region [0, 1, 2, 3] rfl ?_; refine WP.mv rfl rfl ?_; refine WP.loud rfl rfl ?_; refine Op.cl (code_NewReader hb hl) rfl Tryz.func21 rfl rfl rfl rfl ?_; rintro v J1 L1 hJ1 ⟨q, rfl, hq⟩
 try simp only [nf]
 refine WP.loud rfl rfl ?_; refine Op.alloc rfl rfl rfl ty_zr_68 (fun rb => ?_)
 refine WP.loud rfl rfl ?_; refine Op.s1 rfl rfl ty_sz_68 rfl rfl rfl ?_; refine WP.nil ?_; refine WP.sub [(0, _), (2, _), (3, _), (4, _)] ?_ ⟨rfl, rfl, rfl, rfl, trivial⟩
 refine WP.next (WP.seq ?_)
 refine WP.region [0, 1] rfl ?_; refine WP.vl rfl (Yld.makeFunc rfl (vs := []) (us := [_]) rfl rfl) ?_; refine WP.mv rfl rfl ?_; refine WP.nil ?_; refine WP.sub [(0, _), (2, _), (3, _), (4, _), (5, _)] ?_ ⟨rfl, rfl, rfl, rfl, rfl, trivial⟩
 refine WP.next (WP.seq ?_)
 refine WP.region [0, 1, 2, 3, 4, 5, 6, 7, 8, 9, 10] rfl ?_; refine WP.mv rfl rfl ?_; refine WP.loud rfl rfl ?_; refine Op.callE (chk_take (most := 1099511627776) hq (by decide)) (Enters.closure rfl Tryz.func22 rfl (us := [.pointer (some ⟨rb, 0, none⟩)]) rfl (vs := [_]) rfl) rfl rfl zT ?_; rintro v J La0 - ⟨rfl, rfl, La, rfl, hq⟩
 try simp only [nf]
 refine WP.mv rfl rfl ?_; refine WP.loud rfl rfl ?_; refine Op.callE (chk_take (most := 1099511627776) hq (by decide)) (Enters.closure rfl Tryz.func22 rfl (us := [.pointer (some ⟨rb, 0, none⟩)]) rfl (vs := [_]) rfl) rfl rfl zT ?_; rintro v J Lb0 - ⟨rfl, rfl, Lb, rfl, hq⟩
 try simp only [nf]
 refine WP.mv rfl rfl ?_; refine WP.loud rfl rfl ?_; refine Op.callE (chk_take (most := 512) hq (by decide)) (Enters.closure rfl Tryz.func22 rfl (us := [.pointer (some ⟨rb, 0, none⟩)]) rfl (vs := [_]) rfl) rfl rfl zT ?_; rintro v J Lc0 - ⟨rfl, rfl, Lc, rfl, hq⟩
 try simp only [nf]
 refine WP.mv rfl rfl ?_; refine WP.loud rfl rfl ?_; refine Op.callE (chk_take (most := 513) hq (by decide)) (Enters.closure rfl Tryz.func22 rfl (us := [.pointer (some ⟨rb, 0, none⟩)]) rfl (vs := [_]) rfl) rfl rfl zT ?_; rintro v J Ld0 - ⟨rfl, rfl, Ld, rfl, hq⟩
 try simp only [nf]
 refine WP.vl rfl (Yld.buildS (pl := [(0, 0, 1), (1, 1, 1), (2, 2, 1), (3, 3, 1)]) rfl ty_zr_24 ty_zd_24 zK rfl (vs := [_, _, _, _]) rfl (segs := [(0, [_]), (1, [_]), (2, [_]), (3, [_])]) rfl rfl zS) ?_; refine WP.loud rfl rfl ?_; refine Op.alloc rfl rfl rfl ty_zr_24 (fun b6 => ?_)
 refine WP.loud rfl rfl ?_; refine Op.sA rfl rfl ty_sz_24 rfl rfl rfl rfl rfl ?_; refine WP.nil ?_; refine WP.sub [(0, _), (2, _), (3, _), (4, _), (5, _), (6, _)] ?_ ⟨rfl, rfl, rfl, rfl, rfl, rfl, trivial⟩
 refine WP.next (WP.seq (WP.seq ?_))
 refine WP.region [0, 1, 2] rfl ?_; refine WP.mv rfl rfl ?_; refine WP.loud rfl rfl ?_; refine Op.callE (chk_take (most := 512) hq (by decide)) (Enters.closure rfl Tryz.func22 rfl (us := [.pointer (some ⟨rb, 0, none⟩)]) rfl (vs := [_]) rfl) rfl rfl zT ?_; rintro v J Le0 - ⟨rfl, rfl, Le, rfl, hq⟩
 try simp only [nf]
 have hn5 : (rH5 b).1 ≤ 512 := rNum_le _ _
 refine WP.mv rfl rfl ?_; refine WP.nil ?_; refine WP.sub [(0, _), (2, _), (3, _), (4, _), (5, _), (6, _), (20, _), (21, _)] ?_ ⟨rfl, rfl, rfl, rfl, rfl, rfl, rfl, rfl, trivial⟩
 refine WP.next (WP.block ?_)
 refine WP.loop (X := DkX) (fun u : DkX => [(0, .slice Ab b.length cb), (2, .pointer (some ⟨b2, 0, none⟩)), (4, .pointer (some ⟨rb, 0, none⟩)), (5, .func (.func 22) #[] #[.pointer (some ⟨rb, 0, none⟩)]), (6, .pointer (some ⟨b6, 0, none⟩)), (20, .int .i64 ((rH5 b).1 : Int)), (21, .int .i64 (u.i : Int))]) (fun _ => J1) (fun u : DkX => (b2, row 24 [.int .i64 0, .int .i64 0, .int .i64 0, .int .i64 0, .slice none 0 0]) :: (rb, row 68 [.pointer (some ⟨q, 0, none⟩)]) :: (b6, row 24 [.int .i64 ((rH1 b).1 : Int), .int .i64 ((rH2 b).1 : Int), .int .i64 ((rH3 b).1 : Int), .int .i64 ((rH4 b).1 : Int), u.v]) :: (u.Lr ++ (u.Lo ++ F))) (fun u : DkX => u.i ≤ (rH5 b).1 ∧ u.l.length = u.i ∧ IsRd J1 q u.s u.Lr ∧ Own 65 4 u.v (u.l.flatMap mpV) u.i u.Lo ∧ rMps (rH5 b).1 (rH5 b).2 = (u.l ++ (rMps ((rH5 b).1 - u.i) u.s).1, (rMps ((rH5 b).1 - u.i) u.s).2)) (fun u => (rH5 b).1 - u.i) ⟨0, [], (rH5 b).2, .slice none 0 0, Le, []⟩ ⟨Nat.zero_le _, rfl, hq, .none0, rfl⟩ ⟨rfl, rfl, rfl, rfl, rfl, rfl, rfl, trivial⟩ rfl zA ?_; rintro ⟨i, l, s1, vo, Lr, Lo⟩ ⟨hi, hll, hq, ho, heq⟩; dsimp only at hi hll hq ho heq; obtain ⟨Ao, co, rfl, _⟩ := ho.slice
 try dsimp only
 try simp only [nf]
 refine WP.seq ?_; refine WP.region [0] rfl ?_; refine WP.split rfl rfl rfl rfl (Yld.lss rfl rfl rfl) (fun hlt => ?_) (fun hlt => ?_)
 ·refine WP.nil ?_
  refine WP.next (WP.seq ?_)
  refine WP.condT rfl ?_; refine WP.skip (WP.next (WP.seq (WP.block ?_)))
  refine WD.start Tryzmixed 14 (fun c o => c = b6 ∧ o = row 24 [.int .i64 ((rH1 b).1 : Int), .int .i64 ((rH2 b).1 : Int), .int .i64 ((rH3 b).1 : Int), .int .i64 ((rH4 b).1 : Int), .slice Ao i co]) (fun _ _ => False) (by rintro _ _ ⟨rfl, rfl⟩; exact zM) (fun _ _ h => h.elim) 15 [false, false, false, false, false, false, false, false, false, false, false, false, false, false, false] rfl rfl ?_; refine WD.vl (i := 0) rfl (Yld.fieldAddr rfl ty_fd_24_4 rfl) ?_; refine WD.val1 (i := 1) rfl rfl rfl rfl zK rfl zK (Yld.load (v := .slice Ao i co) rfl ty_sc_22 rfl (.inl ⟨rfl, rfl⟩) rfl) ?_; refine WD.vl (i := 2) rfl (Yld.move rfl rfl) ?_; refine WD.vl (i := 4) rfl (Yld.move rfl rfl) ?_; refine WD.vl (i := 6) rfl (Yld.move rfl rfl) ?_; refine WD.vl (i := 8) rfl (Yld.move rfl rfl) ?_; refine WD.loud (i := 3) zK rfl rfl rfl ?_; refine Op.callE (chk_take (most := 512) hq (by decide)) (Enters.closure rfl Tryz.func22 rfl (us := [.pointer (some ⟨rb, 0, none⟩)]) rfl (vs := [_]) rfl) rfl rfl zT ?_; rintro v J Lg0 - ⟨rfl, rfl, Lg, rfl, hq⟩
  try simp only [nf]
  refine WD.gR ?_; refine WD.loud (i := 5) zK rfl rfl rfl ?_; refine Op.callE (chk_take (most := 1099511627776) hq (by decide)) (Enters.closure rfl Tryz.func22 rfl (us := [.pointer (some ⟨rb, 0, none⟩)]) rfl (vs := [_]) rfl) rfl rfl zT ?_; rintro v J Lh0 - ⟨rfl, rfl, Lh, rfl, hq⟩
  try simp only [nf]
  refine WD.gR ?_; refine WD.loud (i := 7) zK rfl rfl rfl ?_; refine Op.callE (chk_take (most := 1099511627776) hq (by decide)) (Enters.closure rfl Tryz.func22 rfl (us := [.pointer (some ⟨rb, 0, none⟩)]) rfl (vs := [_]) rfl) rfl rfl zT ?_; rintro v J Li0 - ⟨rfl, rfl, Li, rfl, hq⟩
  try simp only [nf]
  refine WD.gR ?_; refine WD.loud (i := 9) zK rfl rfl rfl ?_; refine Op.callE (chk_take (most := 1099511627776) hq (by decide)) (Enters.closure rfl Tryz.func22 rfl (us := [.pointer (some ⟨rb, 0, none⟩)]) rfl (vs := [_]) rfl) rfl rfl zT ?_; rintro v J Lj0 - ⟨rfl, rfl, Lj, rfl, hq⟩
  try simp only [nf]
  refine WD.gR ?_; refine WD.vl (i := 10) rfl (Yld.buildS (pl := [(0, 0, 1), (1, 1, 1), (2, 2, 1), (3, 3, 1)]) rfl ty_zr_65 ty_zd_65 zK rfl (vs := [_, _, _, _]) rfl (segs := [(0, [_]), (1, [_]), (2, [_]), (3, [_])]) rfl rfl zS) ?_; refine WD.loud (i := 11) zK rfl rfl rfl ?_; refine Op.buildSlice rfl ty_sl_22 ty_el2_22 rfl rfl rfl rfl (vs := [_]) rfl (segs := [(0, [.int .i64 ((rMp s1).1.page), .int .i64 ((rMp s1).1.place), .int .i64 ((rMp s1).1.no), .int .i64 ((rMp s1).1.low)])]) (cs := [.int .i64 ((rMp s1).1.page), .int .i64 ((rMp s1).1.place), .int .i64 ((rMp s1).1.no), .int .i64 ((rMp s1).1.low)]) rfl rfl (.seg (Nat.le_refl _) rfl .nil) (fun bq => ?_)
  refine WD.gR ?_; refine WD.loud (i := 12) zK rfl rfl rfl ?_; refine Op.append (m := 1) rfl ty_sl_22 ty_el_22 rfl rfl rfl rfl rfl ho (SlRd.lit (m := 1) zM rfl (Nat.le_refl _)) zT rfl (by omega) (by omega) (fun vu Lu hu => ?_)
  try simp only [nf]
  obtain ⟨Au, cu, rfl, _⟩ := hu.slice
  refine WD.gR ?_; refine WD.vl (i := 13) rfl (Yld.fieldAddr rfl ty_fd_24_4 rfl) ?_; refine WD.loud (i := 14) zK rfl rfl rfl ?_; refine Op.s1 rfl rfl ty_sz_22 rfl rfl rfl ?_; refine WD.go (.inl rfl) (fun _ _ h => h.elim) ?_; refine WD.done zK ?_; refine WP.sub [(0, _), (2, _), (4, _), (5, _), (6, _), (20, _), (21, _), (22, _)] ?_ ⟨rfl, rfl, rfl, rfl, rfl, rfl, rfl, rfl, trivial⟩
  refine WP.leave (WP.next ?_)
  refine WP.region [0, 1] rfl ?_; refine WP.vl rfl (Yld.add64 rfl rfl rfl (by omega)) ?_; refine WP.mv rfl rfl ?_; refine WP.nil ?_; refine WP.sub [(0, _), (2, _), (4, _), (5, _), (6, _), (20, _), (21, _), (22, _)] ?_ ⟨rfl, rfl, rfl, rfl, rfl, rfl, rfl, rfl, trivial⟩
  exact WP.again ⟨i + 1, l ++ [(rMp s1).1], (rMp s1).2, .slice Au (i + 1) cu, Lj, Lu⟩ ⟨(show i + 1 ≤ (rH5 b).1 by omega), by rw [List.length_append, hll]; rfl, hq, by rw [mpsV_snoc]; exact hu, by rw [heq, show (rH5 b).1 - i = ((rH5 b).1 - (i + 1)) + 1 by omega, rMps_succ, List.append_assoc]; rfl⟩ (show (rH5 b).1 - (i + 1) < (rH5 b).1 - i by omega) ⟨rfl, rfl, rfl, rfl, rfl, rfl, rfl, trivial⟩ rfl zA
 ·have hn0 : i = (rH5 b).1 := by omega
  rw [hn0, Nat.sub_self] at heq
  have hg1 : (rCk b).1 = ckOf b l := by unfold rCk ckOf; rw [heq]; exact congrArg (Ck.mk _ _ _ _) (List.append_nil l)
  have hg2 : (rCk b).2 = s1 := by unfold rCk; rw [heq]; rfl
  clear hn0
  subst hll
  refine WP.shO ho (fun J3 hJ3 hps => ?_)
  refine WP.nil (WP.next (WP.seq ?_))
  refine WP.condF rfl ?_; refine WP.exit (WP.thenE (WP.thenE (WP.hit (WP.next (WP.seq (WP.seq ?_))))))
  refine WP.region [0, 1, 2, 3, 4, 5, 6, 7, 8, 9, 10, 11, 12] rfl ?_; refine WP.vl rfl (Yld.ld rfl ty_sc_68 rfl rfl) ?_; refine WP.loud rfl rfl ?_; refine Op.cl (code_RDone (hq.mono hJ3)) rfl Tryz.func24 rfl rfl rfl rfl ?_; rintro v J L8 - ⟨rfl, rfl, hq⟩
  try simp only [nf]
  rw [← hg2]
  refine WP.split rfl rfl rfl rfl (Yld.neq rfl rfl rfl) (fun hd => ?_) (fun hd => ?_)
  ·refine WP.mv rfl rfl ?_
   iterate 3 refine WP.passG rfl rfl rfl rfl rfl rfl rfl rfl ?_
   refine WP.vl rfl (Yld.pickT rfl rfl rfl) ?_; refine WP.mv rfl rfl ?_; iterate 3 refine WP.passG rfl rfl rfl rfl rfl rfl rfl rfl ?_
   refine WP.vl rfl (Yld.pickT rfl rfl rfl) ?_; refine WP.nil ?_; refine WP.sub [(0, _), (2, _), (4, _), (5, _), (6, _), (20, _), (21, _), (22, _), (50, _)] ?_ ⟨rfl, rfl, rfl, rfl, rfl, rfl, rfl, rfl, rfl, trivial⟩
   refine WP.next ?_; refine WP.condT rfl ?_; refine WP.seq ?_; refine WP.region [0, 1, 2] rfl ?_; refine WP.vl rfl (Yld.buildS (pl := []) rfl ty_zr_24 ty_zd_24 zK rfl (vs := []) rfl (segs := []) rfl rfl zS) ?_; refine WP.loud rfl rfl ?_; refine Op.sA rfl rfl ty_sz_24 rfl rfl rfl rfl rfl ?_; refine WP.mv rfl rfl ?_; refine WP.nil ?_; refine WP.sub [(0, _), (2, _), (3, _), (4, _), (5, _), (6, _), (20, _), (21, _), (22, _), (50, _)] ?_ ⟨rfl, rfl, rfl, rfl, rfl, rfl, rfl, rfl, rfl, rfl, trivial⟩
   refine WP.next (WP.ret ?_)
   refine WP.fn .ret (.inr rfl) (resT (rs := [.cell 2 24, .tmp 3]) (vs := [_, _]) rfl ⟨⟨_, _, _, _, rfl, zM, .inl ⟨ty_ag_24, by rfl, rfl⟩⟩, rfl, trivial⟩ rfl) [] (Imm.le_trans hJ1 hJ3) ?_; exact ⟨rfl, kZ, .slice none 0 0, 170, rfl, SlRd.nil0, .inr ⟨fun h => by have h1 := h.1; have h2 := h.2.1; have h3 := h.2.2; first | exact hd h1 | omega | (rw [hbm.2 h3] at hb1; cases hb1), rfl, rfl⟩⟩
  ·refine WP.mv rfl rfl ?_
   refine WP.valG rfl rfl rfl rfl rfl rfl rfl (Yld.move rfl rfl) ?_; refine WP.valG rfl rfl rfl rfl rfl rfl rfl (Yld.len rfl ty_sl_25 rfl) ?_; refine WP.splitG rfl rfl rfl rfl rfl rfl rfl (Yld.gtr rfl rfl rfl) (fun hlong => ?_) (fun hlong => ?_)
   ·refine WP.vl rfl (Yld.pickF rfl rfl rfl) ?_
    refine WP.mv rfl rfl ?_; iterate 3 refine WP.passG rfl rfl rfl rfl rfl rfl rfl rfl ?_
    refine WP.vl rfl (Yld.pickT rfl rfl rfl) ?_; refine WP.nil ?_; refine WP.sub [(0, _), (2, _), (4, _), (5, _), (6, _), (20, _), (21, _), (22, _), (50, _)] ?_ ⟨rfl, rfl, rfl, rfl, rfl, rfl, rfl, rfl, rfl, trivial⟩
    refine WP.next ?_; refine WP.condT rfl ?_; refine WP.seq ?_; refine WP.region [0, 1, 2] rfl ?_; refine WP.vl rfl (Yld.buildS (pl := []) rfl ty_zr_24 ty_zd_24 zK rfl (vs := []) rfl (segs := []) rfl rfl zS) ?_; refine WP.loud rfl rfl ?_; refine Op.sA rfl rfl ty_sz_24 rfl rfl rfl rfl rfl ?_; refine WP.mv rfl rfl ?_; refine WP.nil ?_; refine WP.sub [(0, _), (2, _), (3, _), (4, _), (5, _), (6, _), (20, _), (21, _), (22, _), (50, _)] ?_ ⟨rfl, rfl, rfl, rfl, rfl, rfl, rfl, rfl, rfl, rfl, trivial⟩
    refine WP.next (WP.ret ?_)
    refine WP.fn .ret (.inr rfl) (resT (rs := [.cell 2 24, .tmp 3]) (vs := [_, _]) rfl ⟨⟨_, _, _, _, rfl, zM, .inl ⟨ty_ag_24, by rfl, rfl⟩⟩, rfl, trivial⟩ rfl) [] (Imm.le_trans hJ1 hJ3) ?_; exact ⟨rfl, kZ, .slice none 0 0, 170, rfl, SlRd.nil0, .inr ⟨fun h => by have h1 := h.1; have h2 := h.2.1; have h3 := h.2.2; first | exact hd h1 | omega | (rw [hbm.2 h3] at hb1; cases hb1), rfl, rfl⟩⟩
   ·refine WP.vl rfl (Yld.pickF rfl rfl rfl) ?_
    refine WP.mv rfl rfl ?_; refine WP.valG rfl rfl rfl rfl rfl rfl rfl (Yld.ldg (vs := kV (ckOf b l) (.slice Ao l.length co)) rfl ty_ag_24 rfl rfl rfl) ?_; refine WP.loudG rfl rfl rfl rfl rfl ?_; refine Op.cl (chk_may (c := ckOf b l) hps) rfl Tryz.func14 rfl rfl rfl rfl ?_; rintro v J L1 - ⟨bm, rfl, hbm, rfl, rfl⟩
    try simp only [nf]
    rw [← hg1] at hbm
    by_cases hb1 : bm = true
    ·try rw [hb1]
     refine WP.valG rfl rfl rfl rfl rfl rfl rfl (Yld.not rfl rfl) ?_; refine WP.vl rfl (Yld.pickF rfl rfl rfl) ?_; refine WP.nil ?_; refine WP.sub [(0, _), (2, _), (4, _), (5, _), (6, _), (20, _), (21, _), (22, _), (50, _)] ?_ ⟨rfl, rfl, rfl, rfl, rfl, rfl, rfl, rfl, rfl, trivial⟩
     refine WP.next ?_; refine WP.condF rfl ?_; refine WP.skip (WP.next (WP.seq ?_))
     refine WP.region [0, 1, 2] rfl ?_; refine WP.vl rfl (Yld.ldg (vs := kV (ckOf b l) (.slice Ao l.length co)) rfl ty_ag_24 rfl rfl rfl) ?_; refine WP.loud rfl rfl ?_; refine Op.sA rfl rfl ty_sz_24 rfl rfl rfl rfl rfl ?_; refine WP.mv rfl rfl ?_; refine WP.nil ?_; refine WP.sub [(0, _), (2, _), (3, _), (4, _), (5, _), (6, _), (20, _), (21, _), (22, _), (50, _)] ?_ ⟨rfl, rfl, rfl, rfl, rfl, rfl, rfl, rfl, rfl, rfl, trivial⟩
     refine WP.next (WP.ret ?_)
     refine WP.fn .ret (.inr rfl) (resT (rs := [.cell 2 24, .tmp 3]) (vs := [_, _]) rfl ⟨⟨_, _, _, _, rfl, zM, .inl ⟨ty_ag_24, by rfl, rfl⟩⟩, rfl, trivial⟩ rfl) [] (Imm.le_trans hJ1 hJ3) ?_; exact ⟨rfl, ckOf b l, _, 0, rfl, hps, .inl ⟨⟨Decidable.not_not.1 hd, by omega, hbm.1 hb1⟩, rfl, hg1.symm⟩⟩
    ·have hb1 : bm = false := eq_false_of_ne_true hb1
     try rw [hb1]
     refine WP.valG rfl rfl rfl rfl rfl rfl rfl (Yld.not rfl rfl) ?_; refine WP.vl rfl (Yld.pickF rfl rfl rfl) ?_; refine WP.nil ?_; refine WP.sub [(0, _), (2, _), (4, _), (5, _), (6, _), (20, _), (21, _), (22, _), (50, _)] ?_ ⟨rfl, rfl, rfl, rfl, rfl, rfl, rfl, rfl, rfl, trivial⟩
     refine WP.next ?_; refine WP.condT rfl ?_; refine WP.seq ?_; refine WP.region [0, 1, 2] rfl ?_; refine WP.vl rfl (Yld.buildS (pl := []) rfl ty_zr_24 ty_zd_24 zK rfl (vs := []) rfl (segs := []) rfl rfl zS) ?_; refine WP.loud rfl rfl ?_; refine Op.sA rfl rfl ty_sz_24 rfl rfl rfl rfl rfl ?_; refine WP.mv rfl rfl ?_; refine WP.nil ?_; refine WP.sub [(0, _), (2, _), (3, _), (4, _), (5, _), (6, _), (20, _), (21, _), (22, _), (50, _)] ?_ ⟨rfl, rfl, rfl, rfl, rfl, rfl, rfl, rfl, rfl, rfl, trivial⟩
     refine WP.next (WP.ret ?_)
     refine WP.fn .ret (.inr rfl) (resT (rs := [.cell 2 24, .tmp 3]) (vs := [_, _]) rfl ⟨⟨_, _, _, _, rfl, zM, .inl ⟨ty_ag_24, by rfl, rfl⟩⟩, rfl, trivial⟩ rfl) [] (Imm.le_trans hJ1 hJ3) ?_; exact ⟨rfl, kZ, .slice none 0 0, 170, rfl, SlRd.nil0, .inr ⟨fun h => by have h1 := h.1; have h2 := h.2.1; have h3 := h.2.2; first | exact hd h1 | omega | (rw [hbm.2 h3] at hb1; cases hb1), rfl, rfl⟩⟩


end Go.Hp
