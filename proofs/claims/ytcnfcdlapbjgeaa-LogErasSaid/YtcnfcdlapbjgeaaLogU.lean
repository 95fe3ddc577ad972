import Derived.Test.YtcnfcdlapbjgeaaLogT
set_option linter.unusedVariables false
set_option linter.unusedSimpArgs false
namespace Go.Hp
open Go Go.Proofs
set_option maxHeartbeats 2000000 in
theorem log_LogEras {I : Imm} {ls ms ns : List (Value × List UInt8)} {vl vm vk vn : Value} {ks : List Int} (hls : RBs I vl ls) (hms : RBs I vm ms) (hks : SlRd (Im I) vk ks.length 1 (ks.map (Value.int .i64))) (hns : RBs I vn ns) (hln : ls.length ≤ 140737488351232) (hlm : ms.length ≤ 140737488351232) (hlk : ks.length ≤ 140737488351232) (hlns : ns.length ≤ 140737488351232) : Spec Try.prog 7 [vl, vm, vk, vn] I [] (fun v J L => v = .bool true ∧ L = []) := by
 obtain ⟨Al, cl, rfl, _, _, _⟩ := id hls.rd
 obtain ⟨Am, cm, rfl, _, _, _⟩ := id hms.rd
 obtain ⟨An, cn, rfl, _, _, _⟩ := id hns.rd
 refine Spec.of Try.func7 rfl Try.ntmps7 (Nat.le_of_ble_eq_true rfl) (fun F => ?_)
 try simp only [nf]
 dsimp only [argsEnv]
 refine WP.seq ?_
 refine WP.region [0] rfl ?_
 refine WP.mv rfl rfl ?_
 refine WP.nil ?_
 refine WP.next ?_
 refine WP.seq ?_
 refine WP.region [0, 1] rfl ?_
 refine WP.loud rfl rfl ?_
 refine Op.cl log_awake rfl Try.func8 rfl rfl rfl rfl ?_
 rintro v Ja L1 hJa ⟨rfl, rfl⟩
 try simp only [nf]
 have hls := hls.mono hJa
 have hms := hms.mono hJa
 have hns := hns.mono hJa
 have hks := hks.mono (fun b o h => hJa.2 b o h)
 refine WP.mv rfl rfl ?_
 refine WP.nil ?_
 refine WP.sub [(0, _), (1, _), (2, _), (3, _), (8, _), (9, _)] ?_ ⟨rfl, rfl, rfl, rfl, rfl, rfl, trivial⟩
 refine WP.next ?_
 refine WP.seq ?_
 refine WP.region [0, 1, 2, 3, 4, 5, 6, 7, 8] rfl ?_
 refine WP.vl rfl (Yld.buildS (pl := [(1, 1, 1)]) rfl ty_zr_29 ty_zd_29 (by kernel_rfl) rfl (vs := [_]) rfl (segs := [(1, [_])]) rfl rfl (by repeat (first | exact SetSeg.nil | apply SetSeg.one | exact SetAt.zero | apply SetAt.succ))) ?_
 refine WP.loud rfl rfl ?_
 refine Op.cl (log_begun (n := 552) (f := 1) (hn := 0) (hp := 8) (era := 1) (by decide) (by decide) (by decide) (by decide) (by decide) (by decide) (by decide)) rfl Try.func9 rfl rfl rfl rfl ?_
 rintro v J L1 - ⟨rfl, x, d, s, l, q, rt, rm, Ll, rfl, rfl, hl⟩
 try simp only [nf]
 have hl : IsLog _ l s d 552 (⟨1, ⟨17, 1, 1⟩, 0, 8, [], 0, 0, 8⟩ : Lg) (Dk.new 552) Ll := hl
 refine WP.mv rfl rfl ?_
 refine WP.vl rfl (Yld.extract rfl rfl rfl) ?_
 refine WP.vl rfl (Yld.extract rfl rfl rfl) ?_
 refine WP.vl rfl (Yld.extract rfl rfl rfl) ?_
 iterate 3 refine WP.mv rfl rfl ?_
 refine WP.nil ?_
 refine WP.sub [(0, _), (1, _), (2, _), (3, _), (8, _), (9, _), (10, _), (11, _)] ?_ ⟨rfl, rfl, rfl, rfl, rfl, rfl, rfl, rfl, trivial⟩
 refine WP.next ?_
 refine WP.seq ?_
 refine WP.seq ?_
 refine WP.region [0, 1, 2, 3, 4, 5] rfl ?_
 refine WP.mv rfl rfl ?_
 refine WP.vl rfl (Yld.not rfl rfl) ?_
 refine WP.mv rfl rfl ?_
 refine WP.valG rfl rfl rfl rfl rfl rfl rfl (Yld.move rfl rfl) ?_
 refine WP.valG rfl rfl rfl rfl rfl rfl rfl (Yld.not rfl rfl) ?_
 refine WP.vl rfl (Yld.pickF rfl rfl rfl) ?_
 refine WP.nil ?_
 refine WP.sub [(0, _), (1, _), (2, _), (3, _), (8, _), (9, _), (10, _), (11, _), (47, _)] ?_ ⟨rfl, rfl, rfl, rfl, rfl, rfl, rfl, rfl, rfl, trivial⟩
 refine WP.next ?_
 refine WP.condF rfl ?_
 refine WP.skip ?_
 refine WP.next ?_
 refine WP.seq ?_
 refine WP.seq ?_
 refine WP.region [0] rfl ?_
 refine WP.mv rfl rfl ?_
 refine WP.nil ?_
 refine WP.next ?_
 refine WP.block ?_
 refine WP.loop (X := ERX) (fun t : ERX => [(0, .slice Al ls.length cl), (1, .slice Am ms.length cm), (2, vk), (3, .slice An ns.length cn), (10, .pointer (some ⟨x, 0, none⟩)), (13, .int .i64 (t.i : Int))]) (fun t => t.J) (fun t : ERX => (x, row 43 [.pointer (some ⟨d, 0, none⟩), .pointer (some ⟨s, 0, none⟩), .pointer (some ⟨l, 0, none⟩), .pointer (some ⟨q, 0, none⟩), .pointer (some ⟨rt, 0, none⟩), .pointer (some ⟨rm, 0, none⟩), .slice none 0 0, .slice none 0 0, .slice none 0 0, .slice none 0 0]) :: (t.L ++ F)) (fun t : ERX => t.i ≤ ls.length ∧ t.z = fl0 ∧ t.ok Ja l s d) (fun t => ls.length - t.i) ⟨0, 8, tw0, Dk.new 552, fl0, Ja, Ll⟩ ⟨Nat.zero_le _, rfl, EraI.first, Imm.le_refl _, hl⟩ ⟨rfl, rfl, rfl, rfl, rfl, rfl, trivial⟩ rfl (by (try dsimp only); repeat (first | exact Rm.chunk | exact Rm.here | exact Rm.nil0 | apply Rm.skip | apply Rm.skipS | apply PX.cons | (apply PX.done; (repeat (first | exact Leave.done | apply Leave.drop | apply Leave.dropS)); done) | apply PX.app)) ?_
 rintro ⟨i, P, xx, yy, zz, J, Lx⟩ ⟨hle, hz0, hI, hJ, hl⟩; dsimp only at hle hz0 hI hJ hl; subst hz0
 try dsimp only
 try simp only [nf]
 refine WP.seq ?_
 refine WP.seq ?_
 refine WP.region [0, 1, 2, 3] rfl ?_
 iterate 2 refine WP.mv rfl rfl ?_
 refine WP.vl rfl (Yld.len rfl ty_sl_22 rfl) ?_
 refine WP.split rfl rfl rfl rfl (Yld.lss rfl rfl rfl) (fun hlt => ?_) (fun hlt => ?_)
 ·have hi : i < ls.length := by omega
  have hlse := hls.mono hJ
  obtain ⟨bl, kl, Tl, fl, arl, ea, hbl, hcl⟩ := hlse.at_ hi
  have hel := hlse.el _ (List.getElem_mem hi)
  refine WP.nil ?_
  refine WP.sub [(0, _), (1, _), (2, _), (3, _), (10, _), (13, _), (51, _)] ?_ ⟨rfl, rfl, rfl, rfl, rfl, rfl, rfl, trivial⟩
  refine WP.next ?_
  refine WP.condT rfl ?_
  refine WP.skip ?_
  refine WP.next ?_
  refine WP.cut (X := ERX) (fun t : ERX => [(0, .slice Al ls.length cl), (1, .slice Am ms.length cm), (2, vk), (3, .slice An ns.length cn), (10, .pointer (some ⟨x, 0, none⟩)), (13, .int .i64 (i : Int))]) (fun t => t.J) (fun t : ERX => (x, row 43 [.pointer (some ⟨d, 0, none⟩), .pointer (some ⟨s, 0, none⟩), .pointer (some ⟨l, 0, none⟩), .pointer (some ⟨q, 0, none⟩), .pointer (some ⟨rt, 0, none⟩), .pointer (some ⟨rm, 0, none⟩), .slice none 0 0, .slice none 0 0, .slice none 0 0, .slice none 0 0]) :: (t.L ++ F)) (fun t : ERX => t.z = fl0 ∧ t.ok Ja l s d) ?_ ?_
  ·skip
   refine WP.block ?_
   refine WD.start Trymixed 13 (fun c o => (c = x ∧ o = row 43 [.pointer (some ⟨d, 0, none⟩), .pointer (some ⟨s, 0, none⟩), .pointer (some ⟨l, 0, none⟩), .pointer (some ⟨q, 0, none⟩), .pointer (some ⟨rt, 0, none⟩), .pointer (some ⟨rm, 0, none⟩), .slice none 0 0, .slice none 0 0, .slice none 0 0, .slice none 0 0]) ∨ J.blk c = some o) (fun _ _ => False) (by rintro _ _ (⟨rfl, rfl⟩ | h); exact (by repeat (first | exact There.h | exact There.i (by assumption) | apply There.t | apply There.s)); exact There.i h) (fun _ _ h => h.elim) 14 [false, false, false, false, false, false, false, false, false, false, false, false, false, false] rfl rfl ?_
   refine WD.val (i := 0) rfl rfl rfl rfl (by kernel_rfl) rfl (Yld.move rfl rfl) ?_
   refine WD.val (i := 1) rfl rfl rfl rfl (by kernel_rfl) rfl (Yld.nilCheck rfl rfl) ?_
   refine WD.val (i := 2) rfl rfl rfl rfl (by kernel_rfl) rfl (Yld.fieldAddr rfl ty_fd_43_2 rfl) ?_
   refine WD.val1 (i := 3) rfl rfl rfl rfl (by kernel_rfl) rfl (by kernel_rfl) (Yld.load (v := .pointer (some ⟨l, 0, none⟩)) rfl ty_sc_34 rfl (.inl (.inl ⟨rfl, rfl⟩)) rfl) ?_
   refine WD.val (i := 4) rfl rfl rfl rfl (by kernel_rfl) rfl (Yld.move rfl rfl) ?_
   refine WD.val (i := 5) rfl rfl rfl rfl (by kernel_rfl) rfl (Yld.nilCheck rfl rfl) ?_
   refine WD.val (i := 6) rfl rfl rfl rfl (by kernel_rfl) rfl (Yld.fieldAddr rfl ty_fd_43_2 rfl) ?_
   refine WD.val1 (i := 7) rfl rfl rfl rfl (by kernel_rfl) rfl (by kernel_rfl) (Yld.load (v := .pointer (some ⟨l, 0, none⟩)) rfl ty_sc_34 rfl (.inl (.inl ⟨rfl, rfl⟩)) rfl) ?_
   refine WD.val (i := 9) rfl rfl rfl rfl (by kernel_rfl) rfl (Yld.move rfl rfl) ?_
   refine WD.val (i := 10) rfl rfl rfl rfl (by kernel_rfl) rfl (Yld.move rfl rfl) ?_
   refine WD.val (i := 11) rfl rfl rfl rfl (by kernel_rfl) rfl (Yld.indexAddr (i := i) rfl ty_sl_22 (congrArg (fun a => some (Value.slice a ls.length cl)) ea) rfl hi) ?_
   refine WD.val1 (i := 12) rfl rfl rfl rfl (by kernel_rfl) rfl (by kernel_rfl) (Yld.loadC rfl ty_sc_46 rfl (.inl (.inr hbl)) hcl) ?_
   refine WD.loud (i := 8) (by kernel_rfl) rfl rfl rfl ?_
   refine Op.cl (log_Head hl) rfl Try.func11 rfl rfl rfl rfl ?_
   rintro v J L1 - ⟨rfl, rfl, rfl⟩
   try simp only [nf]
   refine WD.go (.inr (by rintro _ _ (⟨rfl, rfl⟩ | h); exact (by repeat (first | exact There.h | exact There.i (by assumption) | apply There.t | apply There.s)); first | exact There.i h | exact There.i (hJ2.2 _ _ h))) (fun _ _ h => h.elim) ?_
   refine WD.loud (i := 13) (by kernel_rfl) rfl rfl rfl ?_
   refine Op.cl (log_AppendX (hn := xx.no) (hp := xx.pl) (kind := 1) hl hel) rfl Try.func10 rfl rfl rfl rfl ?_
   rintro v J2 La hJ2 ⟨e, hn, hp, x2, rfl, _, hap, hl⟩
   try simp only [nf]
   refine WD.go (.inl rfl) (fun _ _ h => h.elim) ?_
   refine WD.done (by kernel_rfl) ?_
   refine WP.sub [(0, _), (1, _), (2, _), (3, _), (10, _), (13, _), (51, _)] ?_ ⟨rfl, rfl, rfl, rfl, rfl, rfl, rfl, trivial⟩
   refine WP.leave ?_
   exact WP.mt (⟨i, P, x2, yy, fl0, J2, La⟩ : ERX) ⟨rfl, hI.ap hap hl.recs hl.ok, Imm.le_trans hJ hJ2, hl⟩ ⟨rfl, rfl, rfl, rfl, rfl, rfl, trivial⟩ rfl
  ·rintro ⟨_, P, xx, yy, zz, J, Lx⟩ ⟨hz0, hI, hJ, hl⟩; dsimp only at hz0 hI hJ hl; subst hz0
   refine WP.region [0, 1, 2] rfl ?_
   refine WP.mv rfl rfl ?_
   refine WP.vl rfl (Yld.add64 rfl rfl rfl (by omega)) ?_
   refine WP.mv rfl rfl ?_
   refine WP.nil ?_
   refine WP.sub [(0, _), (1, _), (2, _), (3, _), (10, _), (13, _)] ?_ ⟨rfl, rfl, rfl, rfl, rfl, rfl, trivial⟩
   exact WP.ag ⟨i + 1, P, xx, yy, fl0, J, Lx⟩ ⟨(show i + 1 ≤ ls.length by omega), rfl, hI, hJ, hl⟩ (show ls.length - (i + 1) < ls.length - i by omega) ⟨rfl, rfl, rfl, rfl, rfl, rfl, trivial⟩ rfl
 ·refine WP.nil ?_
  refine WP.sub [(0, _), (1, _), (2, _), (3, _), (10, _), (13, _), (51, _)] ?_ ⟨rfl, rfl, rfl, rfl, rfl, rfl, rfl, trivial⟩
  refine WP.next ?_
  refine WP.condF rfl ?_
  refine WP.exit ?_
  refine WP.thenE ?_
  refine WP.thenE ?_
  refine WP.hit ?_
  refine WP.next ?_
  refine WP.seq ?_
  refine WP.region [0, 1, 2] rfl ?_
  refine WP.mv rfl rfl ?_
  refine WP.loud rfl rfl ?_
  refine Op.cl (log_flushed hl hI.td (by decide)) rfl Try.func28 rfl rfl rfl rfl ?_
  rintro v J2 L1 hJ2 ⟨rfl, P2, x2, y2, L2, rfl, hl, hT2, nx, hP2, hwr, hse, hPP⟩
  try simp only [nf]
  have hI2 := hI.run hT2 nx
  have hpl2 := hI2.pl
  have hJ := Imm.le_trans hJ hJ2
  refine WP.mv rfl rfl ?_
  refine WP.nil ?_
  refine WP.sub [(0, _), (1, _), (2, _), (3, _), (10, _), (13, _), (14, _), (51, _)] ?_ ⟨rfl, rfl, rfl, rfl, rfl, rfl, rfl, rfl, trivial⟩
  refine WP.next ?_
  refine WP.seq ?_
  refine WP.region [0, 1, 2, 3, 4, 5, 6] rfl ?_
  refine WP.mv rfl rfl ?_
  refine WP.vl rfl (Yld.nilCheck rfl rfl) ?_
  refine WP.vl rfl (Yld.fieldAddr rfl ty_fd_43_2 rfl) ?_
  refine WP.vl rfl (Yld.ld (v := .pointer (some ⟨l, 0, none⟩)) rfl ty_sc_34 rfl rfl) ?_
  refine WP.loud rfl rfl ?_
  refine Op.cl (log_Head hl) rfl Try.func11 rfl rfl rfl rfl ?_
  rintro v J L1 - ⟨rfl, rfl, rfl⟩
  try simp only [nf]
  refine WP.loud rfl rfl ?_
  refine Op.alloc rfl rfl rfl ty_zr_29 (fun b15 => ?_)
  refine WP.loud rfl rfl ?_
  refine Op.sA rfl rfl ty_sz_29 rfl rfl rfl rfl rfl ?_
  refine WP.nil ?_
  refine WP.sub [(0, _), (1, _), (2, _), (3, _), (10, _), (13, _), (14, _), (15, _), (51, _)] ?_ ⟨rfl, rfl, rfl, rfl, rfl, rfl, rfl, rfl, rfl, trivial⟩
  refine WP.next ?_
  refine WP.seq ?_
  refine WP.seq ?_
  refine WP.region [0] rfl ?_
  refine WP.mv rfl rfl ?_
  refine WP.nil ?_
  refine WP.next ?_
  refine WP.block ?_
  refine WP.loop (X := ERX) (fun t : ERX => [(0, .slice Al ls.length cl), (1, .slice Am ms.length cm), (2, vk), (3, .slice An ns.length cn), (10, .pointer (some ⟨x, 0, none⟩)), (14, .bool true), (15, .pointer (some ⟨b15, 0, none⟩)), (16, .int .i64 (t.i : Int))]) (fun t => t.J) (fun t : ERX => (x, row 43 [.pointer (some ⟨d, 0, none⟩), .pointer (some ⟨s, 0, none⟩), .pointer (some ⟨l, 0, none⟩), .pointer (some ⟨q, 0, none⟩), .pointer (some ⟨rt, 0, none⟩), .pointer (some ⟨rm, 0, none⟩), .slice none 0 0, .slice none 0 0, .slice none 0 0, .slice none 0 0]) :: (b15, row 29 [.int .i64 (x2.no : Int), .int .i64 (x2.pl : Int)]) :: (t.L ++ F)) (fun t : ERX => t.i ≤ ms.length ∧ t.z = fl0 ∧ t.ok Ja l s d) (fun t => ms.length - t.i) ⟨0, P2, x2, y2, fl0, J2, L2⟩ ⟨Nat.zero_le _, rfl, hI2, hJ, hl⟩ ⟨rfl, rfl, rfl, rfl, rfl, rfl, rfl, rfl, trivial⟩ rfl (by (try dsimp only); repeat (first | exact Rm.chunk | exact Rm.here | exact Rm.nil0 | apply Rm.skip | apply Rm.skipS | apply PX.cons | (apply PX.done; (repeat (first | exact Leave.done | apply Leave.drop | apply Leave.dropS)); done) | apply PX.app)) ?_
  rintro ⟨i, P, xx, yy, zz, J, Lx⟩ ⟨hle, hz0, hI, hJ, hl⟩; dsimp only at hle hz0 hI hJ hl; subst hz0
  try dsimp only
  try simp only [nf]
  refine WP.seq ?_
  refine WP.seq ?_
  refine WP.region [0, 1, 2, 3] rfl ?_
  iterate 2 refine WP.mv rfl rfl ?_
  refine WP.vl rfl (Yld.len rfl ty_sl_22 rfl) ?_
  refine WP.split rfl rfl rfl rfl (Yld.lss rfl rfl rfl) (fun hlt => ?_) (fun hlt => ?_)
  ·have hi : i < ms.length := by omega
   have hmse := hms.mono hJ
   obtain ⟨bl, kl, Tl, fl, arl, ea, hbl, hcl⟩ := hmse.at_ hi
   have hel := hmse.el _ (List.getElem_mem hi)
   refine WP.nil ?_
   refine WP.sub [(0, _), (1, _), (2, _), (3, _), (10, _), (14, _), (15, _), (16, _), (78, _)] ?_ ⟨rfl, rfl, rfl, rfl, rfl, rfl, rfl, rfl, rfl, trivial⟩
   refine WP.next ?_
   refine WP.condT rfl ?_
   refine WP.skip ?_
   refine WP.next ?_
   refine WP.cut (X := ERX) (fun t : ERX => [(0, .slice Al ls.length cl), (1, .slice Am ms.length cm), (2, vk), (3, .slice An ns.length cn), (10, .pointer (some ⟨x, 0, none⟩)), (14, .bool true), (15, .pointer (some ⟨b15, 0, none⟩)), (16, .int .i64 (i : Int))]) (fun t => t.J) (fun t : ERX => (x, row 43 [.pointer (some ⟨d, 0, none⟩), .pointer (some ⟨s, 0, none⟩), .pointer (some ⟨l, 0, none⟩), .pointer (some ⟨q, 0, none⟩), .pointer (some ⟨rt, 0, none⟩), .pointer (some ⟨rm, 0, none⟩), .slice none 0 0, .slice none 0 0, .slice none 0 0, .slice none 0 0]) :: (b15, row 29 [.int .i64 (x2.no : Int), .int .i64 (x2.pl : Int)]) :: (t.L ++ F)) (fun t : ERX => t.z = fl0 ∧ t.ok Ja l s d) ?_ ?_
   ·skip
    refine WP.block ?_
    refine WD.start Trymixed 13 (fun c o => (c = x ∧ o = row 43 [.pointer (some ⟨d, 0, none⟩), .pointer (some ⟨s, 0, none⟩), .pointer (some ⟨l, 0, none⟩), .pointer (some ⟨q, 0, none⟩), .pointer (some ⟨rt, 0, none⟩), .pointer (some ⟨rm, 0, none⟩), .slice none 0 0, .slice none 0 0, .slice none 0 0, .slice none 0 0]) ∨ J.blk c = some o) (fun _ _ => False) (by rintro _ _ (⟨rfl, rfl⟩ | h); exact (by repeat (first | exact There.h | exact There.i (by assumption) | apply There.t | apply There.s)); exact There.i h) (fun _ _ h => h.elim) 14 [false, false, false, false, false, false, false, false, false, false, false, false, false, false] rfl rfl ?_
    refine WD.val (i := 0) rfl rfl rfl rfl (by kernel_rfl) rfl (Yld.move rfl rfl) ?_
    refine WD.val (i := 1) rfl rfl rfl rfl (by kernel_rfl) rfl (Yld.nilCheck rfl rfl) ?_
    refine WD.val (i := 2) rfl rfl rfl rfl (by kernel_rfl) rfl (Yld.fieldAddr rfl ty_fd_43_2 rfl) ?_
    refine WD.val1 (i := 3) rfl rfl rfl rfl (by kernel_rfl) rfl (by kernel_rfl) (Yld.load (v := .pointer (some ⟨l, 0, none⟩)) rfl ty_sc_34 rfl (.inl (.inl ⟨rfl, rfl⟩)) rfl) ?_
    refine WD.val (i := 4) rfl rfl rfl rfl (by kernel_rfl) rfl (Yld.move rfl rfl) ?_
    refine WD.val (i := 5) rfl rfl rfl rfl (by kernel_rfl) rfl (Yld.nilCheck rfl rfl) ?_
    refine WD.val (i := 6) rfl rfl rfl rfl (by kernel_rfl) rfl (Yld.fieldAddr rfl ty_fd_43_2 rfl) ?_
    refine WD.val1 (i := 7) rfl rfl rfl rfl (by kernel_rfl) rfl (by kernel_rfl) (Yld.load (v := .pointer (some ⟨l, 0, none⟩)) rfl ty_sc_34 rfl (.inl (.inl ⟨rfl, rfl⟩)) rfl) ?_
    refine WD.val (i := 9) rfl rfl rfl rfl (by kernel_rfl) rfl (Yld.move rfl rfl) ?_
    refine WD.val (i := 10) rfl rfl rfl rfl (by kernel_rfl) rfl (Yld.move rfl rfl) ?_
    refine WD.val (i := 11) rfl rfl rfl rfl (by kernel_rfl) rfl (Yld.indexAddr (i := i) rfl ty_sl_22 (congrArg (fun a => some (Value.slice a ms.length cm)) ea) rfl hi) ?_
    refine WD.val1 (i := 12) rfl rfl rfl rfl (by kernel_rfl) rfl (by kernel_rfl) (Yld.loadC rfl ty_sc_46 rfl (.inl (.inr hbl)) hcl) ?_
    refine WD.loud (i := 8) (by kernel_rfl) rfl rfl rfl ?_
    refine Op.cl (log_Head hl) rfl Try.func11 rfl rfl rfl rfl ?_
    rintro v J L1 - ⟨rfl, rfl, rfl⟩
    try simp only [nf]
    refine WD.go (.inr (by rintro _ _ (⟨rfl, rfl⟩ | h); exact (by repeat (first | exact There.h | exact There.i (by assumption) | apply There.t | apply There.s)); first | exact There.i h | exact There.i (hJ2.2 _ _ h))) (fun _ _ h => h.elim) ?_
    refine WD.loud (i := 13) (by kernel_rfl) rfl rfl rfl ?_
    refine Op.cl (log_AppendX (hn := xx.no) (hp := xx.pl) (kind := 2) hl hel) rfl Try.func10 rfl rfl rfl rfl ?_
    rintro v J2 La hJ2 ⟨e, hn, hp, x3, rfl, _, hap, hl⟩
    try simp only [nf]
    refine WD.go (.inl rfl) (fun _ _ h => h.elim) ?_
    refine WD.done (by kernel_rfl) ?_
    refine WP.sub [(0, _), (1, _), (2, _), (3, _), (10, _), (14, _), (15, _), (16, _), (78, _)] ?_ ⟨rfl, rfl, rfl, rfl, rfl, rfl, rfl, rfl, rfl, trivial⟩
    refine WP.leave ?_
    exact WP.mt (⟨i, P, x3, yy, fl0, J2, La⟩ : ERX) ⟨rfl, hI.ap hap hl.recs hl.ok, Imm.le_trans hJ hJ2, hl⟩ ⟨rfl, rfl, rfl, rfl, rfl, rfl, rfl, rfl, trivial⟩ rfl
   ·rintro ⟨_, P, xx, yy, zz, J, Lx⟩ ⟨hz0, hI, hJ, hl⟩; dsimp only at hz0 hI hJ hl; subst hz0
    refine WP.region [0, 1, 2] rfl ?_
    refine WP.mv rfl rfl ?_
    refine WP.vl rfl (Yld.add64 rfl rfl rfl (by omega)) ?_
    refine WP.mv rfl rfl ?_
    refine WP.nil ?_
    refine WP.sub [(0, _), (1, _), (2, _), (3, _), (10, _), (14, _), (15, _), (16, _)] ?_ ⟨rfl, rfl, rfl, rfl, rfl, rfl, rfl, rfl, trivial⟩
    exact WP.ag ⟨i + 1, P, xx, yy, fl0, J, Lx⟩ ⟨(show i + 1 ≤ ms.length by omega), rfl, hI, hJ, hl⟩ (show ms.length - (i + 1) < ms.length - i by omega) ⟨rfl, rfl, rfl, rfl, rfl, rfl, rfl, rfl, trivial⟩ rfl
  ·refine WP.nil ?_
   refine WP.sub [(0, _), (1, _), (2, _), (3, _), (10, _), (14, _), (15, _), (16, _), (78, _)] ?_ ⟨rfl, rfl, rfl, rfl, rfl, rfl, rfl, rfl, rfl, trivial⟩
   refine WP.next ?_
   refine WP.condF rfl ?_
   refine WP.exit ?_
   refine WP.thenE ?_
   refine WP.thenE ?_
   refine WP.hit ?_
   refine WP.next ?_
   refine WP.seq ?_
   refine WP.region [0, 1, 2, 3, 4, 5] rfl ?_
   refine WP.mv rfl rfl ?_
   refine WP.vl rfl (Yld.nilCheck rfl rfl) ?_
   refine WP.vl rfl (Yld.fieldAddr rfl ty_fd_43_2 rfl) ?_
   refine WP.vl rfl (Yld.ld (v := .pointer (some ⟨l, 0, none⟩)) rfl ty_sc_34 rfl rfl) ?_
   refine WP.loud rfl rfl ?_
   refine Op.cl (log_NewFlush (l := l)) rfl Try.func12 rfl rfl rfl rfl ?_
   rintro v J L1 - ⟨rfl, f, rfl, rfl⟩
   try simp only [nf]
   refine WP.mv rfl rfl ?_
   refine WP.nil ?_
   refine WP.sub [(0, _), (1, _), (2, _), (3, _), (10, _), (14, _), (15, _), (16, _), (17, _), (78, _)] ?_ ⟨rfl, rfl, rfl, rfl, rfl, rfl, rfl, rfl, rfl, rfl, trivial⟩
   refine WP.next ?_
   refine WP.seq ?_
   refine WP.seq ?_
   refine WP.region [0, 1, 2, 3, 4, 5] rfl ?_
   refine WP.mv rfl rfl ?_
   refine WP.vl rfl (Yld.eqlNil rfl ty_pt_47 rfl rfl) ?_
   refine WP.mv rfl rfl ?_
   refine WP.valG rfl rfl rfl rfl rfl rfl rfl (Yld.move rfl rfl) ?_
   refine WP.valG rfl rfl rfl rfl rfl rfl rfl (Yld.not rfl rfl) ?_
   refine WP.vl rfl (Yld.pickF rfl rfl rfl) ?_
   refine WP.nil ?_
   refine WP.sub [(0, _), (1, _), (2, _), (3, _), (10, _), (14, _), (15, _), (16, _), (17, _), (78, _), (105, _)] ?_ ⟨rfl, rfl, rfl, rfl, rfl, rfl, rfl, rfl, rfl, rfl, rfl, trivial⟩
   refine WP.next ?_
   refine WP.condF rfl ?_
   refine WP.skip ?_
   refine WP.next ?_
   refine WP.seq ?_
   refine WP.seq ?_
   refine WP.region [0] rfl ?_
   refine WP.mv rfl rfl ?_
   refine WP.nil ?_
   refine WP.next ?_
   refine WP.block ?_
   refine WP.loop (X := ERX) (fun t : ERX => [(2, vk), (3, .slice An ns.length cn), (10, .pointer (some ⟨x, 0, none⟩)), (15, .pointer (some ⟨b15, 0, none⟩)), (17, .pointer (some ⟨f, 0, none⟩)), (18, .int .i64 (t.i : Int))]) (fun t => t.J) (fun t : ERX => (x, row 43 [.pointer (some ⟨d, 0, none⟩), .pointer (some ⟨s, 0, none⟩), .pointer (some ⟨l, 0, none⟩), .pointer (some ⟨q, 0, none⟩), .pointer (some ⟨rt, 0, none⟩), .pointer (some ⟨rm, 0, none⟩), .slice none 0 0, .slice none 0 0, .slice none 0 0, .slice none 0 0]) :: (b15, row 29 [.int .i64 (x2.no : Int), .int .i64 (x2.pl : Int)]) :: (f, row 97 (flV l f t.z)) :: (t.L ++ F)) (fun t : ERX => t.i ≤ 200 ∧ t.ok Ja l s d) (fun t => 200 - t.i) ⟨0, P, xx, yy, fl0, J, Lx⟩ ⟨Nat.zero_le _, hI, hJ, hl⟩ ⟨rfl, rfl, rfl, rfl, rfl, rfl, trivial⟩ rfl (by (try dsimp only); repeat (first | exact Rm.chunk | exact Rm.here | exact Rm.nil0 | apply Rm.skip | apply Rm.skipS | apply PX.cons | (apply PX.done; (repeat (first | exact Leave.done | apply Leave.drop | apply Leave.dropS)); done) | apply PX.app)) ?_
   rintro ⟨i, P, xx, yy, zz, J, Lx⟩ ⟨hle, hI, hJ, hl⟩; dsimp only at hle hI hJ hl; have hplx := hI.pl
   try dsimp only
   try simp only [nf]
   refine WP.seq ?_
   refine WP.seq ?_
   refine WQ.startAll Trymixed (by kernel_rfl) _ rfl ?_
   refine WQ.val rfl rfl rfl (Yld.move rfl rfl) ?_
   refine WQ.val rfl rfl rfl (Yld.move rfl rfl) ?_
   refine WQ.val rfl rfl rfl (Yld.nilCheck rfl rfl) ?_
   refine WQ.val rfl rfl rfl (Yld.fieldAddr rfl ty_fd_43_2 rfl) ?_
   refine WQ.val rfl rfl rfl (Yld.ld (v := .pointer (some ⟨l, 0, none⟩)) rfl ty_sc_34 rfl rfl) ?_
   refine WQ.call (log_Head hl) (by rintro v' J L1 ⟨rfl, rfl, rfl⟩; exact ⟨rfl, rfl, rfl⟩) rfl Try.func11 rfl rfl rfl rfl rfl (by repeat (first | exact Take.nil | with_reducible apply Take.cons | apply Take.app | exact Rm.chunk | exact Rm.here | exact Rm.nil0 | apply Rm.skip | apply Rm.skipS | (focus (apply Take.all; (repeat (first | exact Rm.chunk | exact Rm.here | exact Rm.nil0 | apply Rm.skip | apply Rm.skipS)); done)) | apply Take.cons)) ?_
   refine WQ.val rfl rfl rfl (Yld.field (v := .int .i64 (xx.pl : Int)) rfl ty_fl_29_1 ty_sc_3 rfl rfl) ?_
   refine WQ.val rfl rfl rfl (Yld.fieldAddr rfl ty_fd_29_1 rfl) ?_
   refine WQ.val rfl rfl rfl (Yld.ld (v := .int .i64 (x2.pl : Int)) rfl ty_sc_3 rfl rfl) ?_
   refine WQ.val rfl rfl rfl (Yld.sub64 rfl rfl rfl (by omega)) ?_
   refine WQ.split rfl rfl rfl (Yld.leq rfl rfl rfl) (fun hlt => ?_) (fun hlt => ?_)
   ·obtain ⟨P3, x3, y3, z3, e3, hI3, nx3, hP3⟩ := hI.step
    refine WQ.nil ?_
    refine WP.sub [(2, _), (3, _), (10, _), (15, _), (17, _), (18, _), (116, _)] ?_ ⟨rfl, rfl, rfl, rfl, rfl, rfl, rfl, trivial⟩
    refine WP.next ?_
    refine WP.condT rfl ?_
    refine WP.skip ?_
    refine WP.next ?_
    refine WP.seq ?_
    refine WP.block ?_
    refine WP.region [0, 1] rfl ?_
    refine WP.mv rfl rfl ?_
    refine WP.loud rfl rfl ?_
    refine Op.cl (flush_Step (f := f) hl hI.z1 hI.td.wait) rfl Try.func13 rfl rfl rfl rfl ?_
    rintro v J5 L1 hJ5 ⟨rfl, L3, rfl, hl⟩
    try simp only [nf]
    rw [e3] at hl
    rw [e3]
    dsimp only at hl
    dsimp only
    refine WP.nil ?_
    refine WP.sub [(2, _), (3, _), (10, _), (15, _), (17, _), (18, _), (116, _)] ?_ ⟨rfl, rfl, rfl, rfl, rfl, rfl, rfl, trivial⟩
    refine WP.leave ?_
    refine WP.next ?_
    refine WP.region [0, 1, 2] rfl ?_
    refine WP.mv rfl rfl ?_
    refine WP.vl rfl (Yld.add64 rfl rfl rfl (by omega)) ?_
    refine WP.mv rfl rfl ?_
    refine WP.nil ?_
    refine WP.sub [(2, _), (3, _), (10, _), (15, _), (17, _), (18, _), (116, _)] ?_ ⟨rfl, rfl, rfl, rfl, rfl, rfl, rfl, trivial⟩
    exact WP.ag ⟨i + 1, P3, x3, y3, z3, J5, L3⟩ ⟨(show i + 1 ≤ 200 by omega), hI3, Imm.le_trans hJ hJ5, hl⟩ (show 200 - (i + 1) < 200 - i by omega) ⟨rfl, rfl, rfl, rfl, rfl, rfl, trivial⟩ rfl
   ·refine WQ.nil ?_
    refine WP.sub [(2, _), (3, _), (10, _), (15, _), (17, _), (18, _), (116, _)] ?_ ⟨rfl, rfl, rfl, rfl, rfl, rfl, rfl, trivial⟩
    refine WP.next ?_
    refine WP.condF rfl ?_
    refine WP.exit ?_
    refine WP.thenE ?_
    refine WP.thenE ?_
    refine WP.hit ?_
    refine WP.next ?_
    refine WP.seq ?_
    obtain ⟨Lr, Ld, rfl, hd, hback⟩ := id hl.disk
    try simp only [nf]
    have hksJ := hks.mono (fun b o h => hJ.2 b o h)
    have onU := hI.td.g.on.up ks
    refine WP.region [0, 1, 2, 3, 4, 5] rfl ?_
    refine WP.mv rfl rfl ?_
    refine WP.vl rfl (Yld.nilCheck rfl rfl) ?_
    refine WP.vl rfl (Yld.fieldAddr rfl ty_fd_43_0 rfl) ?_
    refine WP.vl rfl (Yld.ld (v := .pointer (some ⟨d, 0, none⟩)) rfl ty_sc_32 rfl rfl) ?_
    refine WP.mv rfl rfl ?_
    refine WP.loud rfl rfl ?_
    refine Op.cl (disk_Up hd hksJ (by have := hI.td.wait; omega)) rfl Try.func21 rfl rfl rfl rfl ?_
    rintro v J Ld2 - ⟨rfl, rfl, hd2⟩
    try simp only [nf]
    refine WP.nil ?_
    refine WP.sub [(2, _), (3, _), (10, _), (15, _), (17, _), (18, _), (116, _)] ?_ ⟨rfl, rfl, rfl, rfl, rfl, rfl, rfl, trivial⟩
    refine WP.next ?_
    refine WP.seq ?_
    refine WD.start Trymixed 8 (fun c o => (c = x ∧ o = row 43 [.pointer (some ⟨d, 0, none⟩), .pointer (some ⟨s, 0, none⟩), .pointer (some ⟨l, 0, none⟩), .pointer (some ⟨q, 0, none⟩), .pointer (some ⟨rt, 0, none⟩), .pointer (some ⟨rm, 0, none⟩), .slice none 0 0, .slice none 0 0, .slice none 0 0, .slice none 0 0]) ∨ (c = b15 ∧ o = row 29 [.int .i64 (x2.no : Int), .int .i64 (x2.pl : Int)])) (fun _ _ => False) (by rintro _ _ (⟨rfl, rfl⟩ | ⟨rfl, rfl⟩) <;> exact (by repeat (first | exact There.h | exact There.i (by assumption) | apply There.t | apply There.s))) (fun _ _ h => h.elim) 14 [false, false, false, false, false, false, false, false, false, false, false, false, false, false] rfl rfl ?_
    refine WD.val (i := 0) rfl rfl rfl rfl (by kernel_rfl) rfl (Yld.move rfl rfl) ?_
    refine WD.val (i := 1) rfl rfl rfl rfl (by kernel_rfl) rfl (Yld.nilCheck rfl rfl) ?_
    refine WD.val (i := 2) rfl rfl rfl rfl (by kernel_rfl) rfl (Yld.fieldAddr rfl ty_fd_43_0 rfl) ?_
    refine WD.val1 (i := 3) rfl rfl rfl rfl (by kernel_rfl) rfl (by kernel_rfl) (Yld.load (v := .pointer (some ⟨d, 0, none⟩)) rfl ty_sc_32 rfl (.inl (.inl ⟨rfl, rfl⟩)) rfl) ?_
    refine WD.val (i := 4) rfl rfl rfl rfl (by kernel_rfl) rfl (Yld.fieldAddr rfl ty_fd_29_1 rfl) ?_
    refine WD.val1 (i := 5) rfl rfl rfl rfl (by kernel_rfl) rfl (by kernel_rfl) (Yld.load (v := .int .i64 (x2.pl : Int)) rfl ty_sc_3 rfl (.inl (.inr ⟨rfl, rfl⟩)) rfl) ?_
    refine WD.val (i := 6) rfl rfl rfl rfl (by kernel_rfl) rfl (Yld.add64 rfl rfl rfl (by omega)) ?_
    refine WD.val (i := 7) rfl rfl rfl rfl (by kernel_rfl) rfl (Yld.quo64 rfl rfl rfl (by omega)) ?_
    rw [show ((x2.pl : Int) + 7) / 8 = (((x2.pl + 7) / 8 : Nat) : Int) by omega]
    refine WD.loud (i := 8) (by kernel_rfl) rfl rfl rfl ?_
    refine Op.cl (seg_New_ok (f := 1) (e := (x2.pl + 7) / 8) hd2 (by decide) (by omega) (by omega) (by omega)) rfl Try.func22 rfl rfl rfl rfl ?_
    rintro v J L1 - ⟨rfl, s2, rfl, rfl⟩
    try simp only [nf]
    refine WD.go (.inl rfl) (fun _ _ h => h.elim) ?_
    refine WD.val (i := 9) rfl rfl rfl rfl (by kernel_rfl) rfl (Yld.move rfl rfl) ?_
    refine WD.val (i := 10) rfl rfl rfl rfl (by kernel_rfl) rfl (Yld.extract rfl rfl rfl) ?_
    refine WD.val (i := 11) rfl rfl rfl rfl (by kernel_rfl) rfl (Yld.extract rfl rfl rfl) ?_
    refine WD.val (i := 12) rfl rfl rfl rfl (by kernel_rfl) rfl (Yld.assign rfl rfl) ?_
    refine WD.val (i := 13) rfl rfl rfl rfl (by kernel_rfl) rfl (Yld.assign rfl rfl) ?_
    refine WD.done (by kernel_rfl) ?_
    refine WP.sub [(2, _), (3, _), (10, _), (15, _), (17, _), (18, _), (19, _), (20, _), (116, _)] ?_ ⟨rfl, rfl, rfl, rfl, rfl, rfl, rfl, rfl, rfl, trivial⟩
    refine WP.next ?_
    refine WP.seq ?_
    refine WP.seq ?_
    refine WP.region [0, 1, 2, 3, 4, 5] rfl ?_
    refine WP.mv rfl rfl ?_
    refine WP.vl rfl (Yld.neq rfl rfl rfl false (decide_eq_false (by simp))) ?_
    refine WP.mv rfl rfl ?_
    refine WP.valG rfl rfl rfl rfl rfl rfl rfl (Yld.move rfl rfl) ?_
    refine WP.valG rfl rfl rfl rfl rfl rfl rfl (Yld.eqlNil rfl ty_pt_33 rfl rfl) ?_
    refine WP.vl rfl (Yld.pickF rfl rfl rfl) ?_
    refine WP.nil ?_
    refine WP.sub [(2, _), (3, _), (10, _), (15, _), (17, _), (18, _), (19, _), (20, _), (116, _), (144, _)] ?_ ⟨rfl, rfl, rfl, rfl, rfl, rfl, rfl, rfl, rfl, rfl, trivial⟩
    refine WP.next ?_
    refine WP.condF rfl ?_
    refine WP.skip ?_
    refine WP.next ?_
    refine WP.seq ?_
    refine WD.start Trymixed 6 (fun c o => (c = x ∧ o = row 43 [.pointer (some ⟨d, 0, none⟩), .pointer (some ⟨s, 0, none⟩), .pointer (some ⟨l, 0, none⟩), .pointer (some ⟨q, 0, none⟩), .pointer (some ⟨rt, 0, none⟩), .pointer (some ⟨rm, 0, none⟩), .slice none 0 0, .slice none 0 0, .slice none 0 0, .slice none 0 0]) ∨ (c = b15 ∧ o = row 29 [.int .i64 (x2.no : Int), .int .i64 (x2.pl : Int)])) (fun _ _ => False) (by rintro _ _ (⟨rfl, rfl⟩ | ⟨rfl, rfl⟩) <;> exact (by repeat (first | exact There.h | exact There.i (by assumption) | apply There.t | apply There.s))) (fun _ _ h => h.elim) 12 [false, false, false, false, false, false, false, false, false, false, false, false] rfl rfl ?_
    refine WD.val (i := 0) rfl rfl rfl rfl (by kernel_rfl) rfl (Yld.move rfl rfl) ?_
    refine WD.val (i := 1) rfl rfl rfl rfl (by kernel_rfl) rfl (Yld.nilCheck rfl rfl) ?_
    refine WD.val (i := 2) rfl rfl rfl rfl (by kernel_rfl) rfl (Yld.fieldAddr rfl ty_fd_43_0 rfl) ?_
    refine WD.val1 (i := 3) rfl rfl rfl rfl (by kernel_rfl) rfl (by kernel_rfl) (Yld.load (v := .pointer (some ⟨d, 0, none⟩)) rfl ty_sc_32 rfl (.inl (.inl ⟨rfl, rfl⟩)) rfl) ?_
    refine WD.val (i := 4) rfl rfl rfl rfl (by kernel_rfl) rfl (Yld.move rfl rfl) ?_
    refine WD.val1 (i := 5) rfl rfl rfl rfl (by kernel_rfl) rfl (by kernel_rfl) (Yld.loadAgg (vs := [.int .i64 (x2.no : Int), .int .i64 (x2.pl : Int)]) rfl ty_ag_29 rfl (.inl (.inr ⟨rfl, rfl⟩)) rfl rfl) ?_
    refine WD.loud (i := 6) (by kernel_rfl) rfl rfl rfl ?_
    refine Op.cl (log_Open (s := s2) (g := ⟨(552 - 8) / 32, 1, (x2.pl + 7) / 8⟩) (hn := x2.no) (hp := x2.pl) (era := 2) hd2 ⟨(by decide : 4 ≤ (552 - 8) / 32), (by decide : (552 - 8) / 32 * 32 + 8 ≤ 552), (by omega : 1 ≤ (x2.pl + 7) / 8), (by omega : (x2.pl + 7) / 8 ≤ 1099511627776)⟩ hpl2.2.2.2 (by omega : 1 * 8 ≤ x2.pl) (by omega : x2.pl ≤ (1 + (552 - 8) / 32) * 8) (by decide) (by show 1 ≤ 68719476736; decide) (by omega : (x2.pl + 7) / 8 ≤ 1 + (552 - 8) / 32)) rfl Try.func24 rfl rfl rfl rfl ?_
    rintro v J Ln - ⟨rfl, l2, rfl, hl2⟩
    try simp only [nf]
    refine WD.go (.inl rfl) (fun _ _ h => h.elim) ?_
    refine WD.val (i := 7) rfl rfl rfl rfl (by kernel_rfl) rfl (Yld.move rfl rfl) ?_
    refine WD.val (i := 8) rfl rfl rfl rfl (by kernel_rfl) rfl (Yld.extract rfl rfl rfl) ?_
    refine WD.val (i := 9) rfl rfl rfl rfl (by kernel_rfl) rfl (Yld.extract rfl rfl rfl) ?_
    refine WD.val (i := 10) rfl rfl rfl rfl (by kernel_rfl) rfl (Yld.assign rfl rfl) ?_
    refine WD.val (i := 11) rfl rfl rfl rfl (by kernel_rfl) rfl (Yld.assign rfl rfl) ?_
    refine WD.done (by kernel_rfl) ?_
    refine WP.sub [(2, _), (3, _), (10, _), (15, _), (17, _), (18, _), (19, _), (20, _), (21, _), (22, _), (116, _), (144, _)] ?_ ⟨rfl, rfl, rfl, rfl, rfl, rfl, rfl, rfl, rfl, rfl, rfl, rfl, trivial⟩
    refine WP.next ?_
    refine WP.seq ?_
    refine WP.seq ?_
    refine WP.region [0, 1, 2, 3, 4, 5] rfl ?_
    refine WP.mv rfl rfl ?_
    refine WP.vl rfl (Yld.neq rfl rfl rfl false (decide_eq_false (by simp))) ?_
    refine WP.mv rfl rfl ?_
    refine WP.valG rfl rfl rfl rfl rfl rfl rfl (Yld.move rfl rfl) ?_
    refine WP.valG rfl rfl rfl rfl rfl rfl rfl (Yld.eqlNil rfl ty_pt_34 rfl rfl) ?_
    refine WP.vl rfl (Yld.pickF rfl rfl rfl) ?_
    refine WP.nil ?_
    refine WP.sub [(2, _), (3, _), (10, _), (15, _), (17, _), (18, _), (19, _), (20, _), (21, _), (22, _), (116, _), (144, _), (160, _)] ?_ ⟨rfl, rfl, rfl, rfl, rfl, rfl, rfl, rfl, rfl, rfl, rfl, rfl, rfl, trivial⟩
    refine WP.next ?_
    refine WP.condF rfl ?_
    refine WP.skip ?_
    refine WP.next ?_
    refine WP.seq ?_
    refine WP.region [0, 1, 2, 3, 4] rfl ?_
    iterate 2 refine WP.mv rfl rfl ?_
    refine WP.vl rfl (Yld.nilCheck rfl rfl) ?_
    refine WP.vl rfl (Yld.fieldAddr rfl ty_fd_43_2 rfl) ?_
    refine WP.loud rfl rfl ?_
    refine Op.s1 rfl rfl ty_sz_34 rfl rfl rfl ?_
    refine WP.nil ?_
    refine WP.sub [(2, _), (3, _), (10, _), (15, _), (17, _), (18, _), (19, _), (20, _), (21, _), (22, _), (116, _), (144, _), (160, _)] ?_ ⟨rfl, rfl, rfl, rfl, rfl, rfl, rfl, rfl, rfl, rfl, rfl, rfl, rfl, trivial⟩
    refine WP.next ?_
    refine WP.seq ?_
    refine WP.region [0, 1, 2, 3, 4] rfl ?_
    iterate 2 refine WP.mv rfl rfl ?_
    refine WP.vl rfl (Yld.nilCheck rfl rfl) ?_
    refine WP.vl rfl (Yld.fieldAddr rfl ty_fd_43_1 rfl) ?_
    refine WP.loud rfl rfl ?_
    refine Op.s1 rfl rfl ty_sz_33 rfl rfl rfl ?_
    refine WP.nil ?_
    refine WP.sub [(2, _), (3, _), (10, _), (15, _), (17, _), (18, _), (19, _), (20, _), (21, _), (22, _), (116, _), (144, _), (160, _)] ?_ ⟨rfl, rfl, rfl, rfl, rfl, rfl, rfl, rfl, rfl, rfl, rfl, rfl, rfl, trivial⟩
    refine WP.next ?_
    refine WP.seq ?_
    have hTn : Tidy 552 x2.pl (⟨2, ⟨(552 - 8) / 32, 1, (x2.pl + 7) / 8⟩, x2.no, x2.pl, [], x2.no, x2.no, x2.pl⟩ : Lg) (yy.up ks) := Tidy.new hl2.ok (by decide) onU rfl (by show 1 * 8 ≤ x2.pl; omega) rfl (by show x2.pl ≤ (x2.pl + 7) / 8 * 8; omega) rfl
    have hIn := EraI.new hTn ⟨rfl, rfl⟩
    refine WP.region [0] rfl ?_
    refine WP.mv rfl rfl ?_
    refine WP.nil ?_
    refine WP.next ?_
    refine WP.cut (X := NXX) (fun t : NXX => [(3, .slice An ns.length cn), (10, .pointer (some ⟨x, 0, none⟩)), (15, .pointer (some ⟨b15, 0, none⟩)), (21, .pointer (some ⟨l2, 0, none⟩)), (23, t.vp)]) (fun t => t.J) (fun t : NXX => (x, row 43 [.pointer (some ⟨d, 0, none⟩), .pointer (some ⟨s2, 0, none⟩), .pointer (some ⟨l2, 0, none⟩), .pointer (some ⟨q, 0, none⟩), .pointer (some ⟨rt, 0, none⟩), .pointer (some ⟨rm, 0, none⟩), .slice none 0 0, .slice none 0 0, .slice none 0 0, .slice none 0 0]) :: (b15, row 29 [.int .i64 (x2.no : Int), .int .i64 (x2.pl : Int)]) :: (t.Lp ++ (t.L ++ F))) (fun t : NXX => t.i ≤ ns.length ∧ t.ok x2.pl (yy.up ks) J l2 s2 d x2.no (kf ns)) ?_ ?_
    ·skip
     refine WP.seq ?_
     refine WP.region [0] rfl ?_
     refine WP.mv rfl rfl ?_
     refine WP.nil ?_
     refine WP.next ?_
     refine WP.block ?_
     refine WP.loop (X := NXX) (fun t : NXX => [(3, .slice An ns.length cn), (10, .pointer (some ⟨x, 0, none⟩)), (15, .pointer (some ⟨b15, 0, none⟩)), (21, .pointer (some ⟨l2, 0, none⟩)), (23, t.vp), (24, .int .i64 (t.i : Int))]) (fun t => t.J) (fun t : NXX => (x, row 43 [.pointer (some ⟨d, 0, none⟩), .pointer (some ⟨s2, 0, none⟩), .pointer (some ⟨l2, 0, none⟩), .pointer (some ⟨q, 0, none⟩), .pointer (some ⟨rt, 0, none⟩), .pointer (some ⟨rm, 0, none⟩), .slice none 0 0, .slice none 0 0, .slice none 0 0, .slice none 0 0]) :: (b15, row 29 [.int .i64 (x2.no : Int), .int .i64 (x2.pl : Int)]) :: (t.Lp ++ (t.L ++ F))) (fun t : NXX => t.i ≤ ns.length ∧ t.ok x2.pl (yy.up ks) J l2 s2 d x2.no (kf ns)) (fun t => ns.length - t.i) ⟨0, (⟨2, ⟨(552 - 8) / 32, 1, (x2.pl + 7) / 8⟩, x2.no, x2.pl, [], x2.no, x2.no, x2.pl⟩ : Lg), J, Ln, .slice none 0 0, []⟩ ⟨Nat.zero_le _, hIn, Imm.le_refl _, hl2, rfl, ⟨Nat.zero_le _, fun k hk => absurd hk (Nat.not_lt_zero _)⟩, fun k hk => absurd hk (Nat.not_lt_zero _), rfl, .none0⟩ ⟨rfl, rfl, rfl, rfl, rfl, rfl, trivial⟩ rfl (by (try dsimp only); repeat (first | exact Rm.chunk | exact Rm.here | exact Rm.nil0 | apply Rm.skip | apply Rm.skipS | apply PX.cons | (apply PX.done; (repeat (first | exact Leave.done | apply Leave.drop | apply Leave.dropS)); done) | apply PX.app)) ?_
     have hJb := hJ; rintro ⟨i, xx, J, Lx, vp, Lp⟩ ⟨hle, hI, hJ, hl, hln, hpi, hkd, hbs, how⟩; dsimp only at hle hI hJ hl hln hpi hkd hbs how; obtain ⟨Ao, co, rfl, _⟩ := how.slice
     try dsimp only
     try simp only [nf]
     refine WP.seq ?_
     refine WP.seq ?_
     refine WP.region [0, 1, 2, 3] rfl ?_
     iterate 2 refine WP.mv rfl rfl ?_
     refine WP.vl rfl (Yld.len rfl ty_sl_22 rfl) ?_
     refine WP.split rfl rfl rfl rfl (Yld.lss rfl rfl rfl) (fun hlt => ?_) (fun hlt => ?_)
     ·have hi : i < ns.length := by omega
      have hnse := hns.mono (Imm.le_trans hJb hJ)
      obtain ⟨bl, kl, Tl, fl, arl, ea, hbl, hcl⟩ := hnse.at_ hi
      have hel := hnse.el _ (List.getElem_mem hi)
      refine WP.nil ?_
      refine WP.sub [(3, _), (10, _), (15, _), (21, _), (23, _), (24, _), (172, _)] ?_ ⟨rfl, rfl, rfl, rfl, rfl, rfl, rfl, trivial⟩
      refine WP.next ?_
      refine WP.condT rfl ?_
      refine WP.skip ?_
      refine WP.next ?_
      refine WP.seq ?_
      refine WP.block ?_
      refine WP.seq ?_
      refine WP.region [0, 1, 2, 3] rfl ?_
      refine WP.mv rfl rfl ?_
      refine WP.loud rfl rfl ?_
      refine Op.cl (log_Head hl) rfl Try.func11 rfl rfl rfl rfl ?_
      rintro v J L1 - ⟨rfl, rfl, rfl⟩
      try simp only [nf]
      refine WP.loud rfl rfl ?_
      refine Op.alloc rfl rfl rfl ty_zr_29 (fun b25 => ?_)
      refine WP.loud rfl rfl ?_
      refine Op.sA rfl rfl ty_sz_29 rfl rfl rfl rfl rfl ?_
      refine WP.nil ?_
      refine WP.sub [(3, _), (10, _), (15, _), (21, _), (23, _), (24, _), (25, _), (172, _)] ?_ ⟨rfl, rfl, rfl, rfl, rfl, rfl, rfl, rfl, trivial⟩
      refine WP.next ?_
      refine WP.cut (X := APX) (fun t : APX => [(3, .slice An ns.length cn), (10, .pointer (some ⟨x, 0, none⟩)), (15, .pointer (some ⟨b15, 0, none⟩)), (21, .pointer (some ⟨l2, 0, none⟩)), (23, .slice Ao i co), (24, .int .i64 (i : Int)), (25, .pointer (some ⟨b25, 0, none⟩)), (27, .int .i64 t.e)]) (fun t => t.J) (fun t : APX => (x, row 43 [.pointer (some ⟨d, 0, none⟩), .pointer (some ⟨s2, 0, none⟩), .pointer (some ⟨l2, 0, none⟩), .pointer (some ⟨q, 0, none⟩), .pointer (some ⟨rt, 0, none⟩), .pointer (some ⟨rm, 0, none⟩), .slice none 0 0, .slice none 0 0, .slice none 0 0, .slice none 0 0]) :: (b15, row 29 [.int .i64 (x2.no : Int), .int .i64 (x2.pl : Int)]) :: (b25, row 29 [.int .i64 (xx.no : Int), .int .i64 (xx.pl : Int)]) :: (Lp ++ (t.L ++ F))) (fun t : APX => J.le t.J ∧ ApK xx 3 ns[i].2 t.e t.hn t.hp t.x ∧ IsLog t.J l2 s2 d 552 t.x (yy.up ks) t.L) ?_ ?_
      ·skip
       refine WD.start Trymixed 11 (fun c o => (c = b25 ∧ o = row 29 [.int .i64 (xx.no : Int), .int .i64 (xx.pl : Int)]) ∨ J.blk c = some o) (fun _ _ => False) (by rintro _ _ (⟨rfl, rfl⟩ | h); exact (by repeat (first | exact There.h | exact There.i (by assumption) | apply There.t | apply There.s)); exact There.i h) (fun _ _ h => h.elim) 13 [false, false, false, false, false, false, false, false, false, false, false, false, false] rfl rfl ?_
       refine WD.val (i := 0) rfl rfl rfl rfl (by kernel_rfl) rfl (Yld.move rfl rfl) ?_
       refine WD.val1 (i := 1) rfl rfl rfl rfl (by kernel_rfl) rfl (by kernel_rfl) (Yld.loadAgg (vs := [.int .i64 (xx.no : Int), .int .i64 (xx.pl : Int)]) rfl ty_ag_29 rfl (.inl (.inl ⟨rfl, rfl⟩)) rfl rfl) ?_
       refine WD.val (i := 2) rfl rfl rfl rfl (by kernel_rfl) rfl (Yld.move rfl rfl) ?_
       refine WD.val (i := 3) rfl rfl rfl rfl (by kernel_rfl) rfl (Yld.move rfl rfl) ?_
       refine WD.val (i := 4) rfl rfl rfl rfl (by kernel_rfl) rfl (Yld.indexAddr (i := i) rfl ty_sl_22 (congrArg (fun a => some (Value.slice a ns.length cn)) ea) rfl hi) ?_
       refine WD.val1 (i := 5) rfl rfl rfl rfl (by kernel_rfl) rfl (by kernel_rfl) (Yld.loadC rfl ty_sc_46 rfl (.inl (.inr hbl)) hcl) ?_
       refine WD.both (i := 6) (j := 10) (by kernel_rfl) rfl rfl ?_ ?_
       ·refine WP.oper rfl rfl ?_
        refine Op.cl (log_AppendK (hn := xx.no) (hp := xx.pl) (kind := 3) hl hel) rfl Try.func10 rfl rfl rfl rfl ?_
        rintro v J2 La hJ2 ⟨e, hn, hp, x3, rfl, hap, hl⟩
        try simp only [nf]
        refine WD.go (.inr (by rintro _ _ (⟨rfl, rfl⟩ | h); exact (by repeat (first | exact There.h | exact There.i (by assumption) | apply There.t | apply There.s)); first | exact There.i h | exact There.i (hJ2.2 _ _ h))) (fun _ _ h => h.elim) ?_
        refine WD.val (i := 7) rfl rfl rfl rfl (by kernel_rfl) rfl (Yld.move rfl rfl) ?_
        refine WD.val (i := 8) rfl rfl rfl rfl (by kernel_rfl) rfl (Yld.extract rfl rfl rfl) ?_
        refine WD.val (i := 9) rfl rfl rfl rfl (by kernel_rfl) rfl (Yld.extract rfl rfl rfl) ?_
        refine WD.loud (i := 10) (by kernel_rfl) rfl rfl rfl ?_
        refine Op.alloc rfl rfl rfl ty_zr_29 (fun b26 => ?_)
        refine WD.go (.inr (by rintro _ _ (⟨rfl, rfl⟩ | h); exact (by repeat (first | exact There.h | exact There.i (by assumption) | apply There.t | apply There.s)); first | exact There.i h | exact There.i (hJ2.2 _ _ h))) (fun _ _ h => h.elim) ?_
        refine WD.loud (i := 11) (by kernel_rfl) rfl rfl rfl ?_
        refine Op.sA rfl rfl ty_sz_29 rfl rfl rfl rfl rfl ?_
        refine WD.go (.inl rfl) (fun _ _ h => h.elim) ?_
        refine WD.val (i := 12) rfl rfl rfl rfl (by kernel_rfl) rfl (Yld.assign rfl rfl) ?_
        refine WD.done (by kernel_rfl) ?_
        refine WP.sub [(3, _), (10, _), (15, _), (21, _), (23, _), (24, _), (25, _), (27, _), (172, _)] ?_ ⟨rfl, rfl, rfl, rfl, rfl, rfl, rfl, rfl, rfl, trivial⟩
        exact WP.mt (⟨e, hn, hp, x3, J2, La, 0⟩ : APX) ⟨hJ2, hap, hl⟩ ⟨rfl, rfl, rfl, rfl, rfl, rfl, rfl, rfl, trivial⟩ rfl
       ·refine WP.oper rfl rfl ?_
        refine Op.alloc rfl rfl rfl ty_zr_29 (fun b26 => ?_)
        refine WD.go (.inr (by rintro _ _ (⟨rfl, rfl⟩ | h); exact (by repeat (first | exact There.h | exact There.i (by assumption) | apply There.t | apply There.s)); first | exact There.i h | exact There.i (hJ2.2 _ _ h))) (fun _ _ h => h.elim) ?_
        refine WD.loud (i := 6) (by kernel_rfl) rfl rfl rfl ?_
        refine Op.cl (log_AppendK (hn := xx.no) (hp := xx.pl) (kind := 3) hl hel) rfl Try.func10 rfl rfl rfl rfl ?_
        rintro v J2 La hJ2 ⟨e, hn, hp, x3, rfl, hap, hl⟩
        try simp only [nf]
        refine WD.go (.inr (by rintro _ _ (⟨rfl, rfl⟩ | h); exact (by repeat (first | exact There.h | exact There.i (by assumption) | apply There.t | apply There.s)); first | exact There.i h | exact There.i (hJ2.2 _ _ h))) (fun _ _ h => h.elim) ?_
        refine WD.val (i := 7) rfl rfl rfl rfl (by kernel_rfl) rfl (Yld.move rfl rfl) ?_
        refine WD.val (i := 8) rfl rfl rfl rfl (by kernel_rfl) rfl (Yld.extract rfl rfl rfl) ?_
        refine WD.val (i := 9) rfl rfl rfl rfl (by kernel_rfl) rfl (Yld.extract rfl rfl rfl) ?_
        refine WD.loud (i := 11) (by kernel_rfl) rfl rfl rfl ?_
        refine Op.sA rfl rfl ty_sz_29 rfl rfl rfl rfl rfl ?_
        refine WD.go (.inl rfl) (fun _ _ h => h.elim) ?_
        refine WD.val (i := 12) rfl rfl rfl rfl (by kernel_rfl) rfl (Yld.assign rfl rfl) ?_
        refine WD.done (by kernel_rfl) ?_
        refine WP.sub [(3, _), (10, _), (15, _), (21, _), (23, _), (24, _), (25, _), (27, _), (172, _)] ?_ ⟨rfl, rfl, rfl, rfl, rfl, rfl, rfl, rfl, rfl, trivial⟩
        exact WP.mt (⟨e, hn, hp, x3, J2, La, 0⟩ : APX) ⟨hJ2, hap, hl⟩ ⟨rfl, rfl, rfl, rfl, rfl, rfl, rfl, rfl, trivial⟩ rfl
      ·rintro ⟨e, hn, hp, x3, J3, La, _⟩ ⟨hJ3, hap, hl3⟩; dsimp only at hJ3 hap hl3
       refine WP.seq ?_
       refine WP.seq ?_
       refine WP.region [0, 1] rfl ?_
       refine WP.mv rfl rfl ?_
       refine WP.split rfl rfl rfl rfl (Yld.neq rfl rfl rfl) (fun he => ?_) (fun he => ?_)
       ·obtain ⟨_, hxe, _, _⟩ := hap.resolve_right (fun h => he h.1)
        rw [hxe] at hl3
        refine WP.nil ?_
        refine WP.sub [(3, _), (10, _), (15, _), (21, _), (23, _), (24, _), (25, _), (27, _), (188, _)] ?_ ⟨rfl, rfl, rfl, rfl, rfl, rfl, rfl, rfl, rfl, trivial⟩
        refine WP.next ?_
        refine WP.condT rfl ?_
        refine WP.exit ?_
        refine WP.thenE ?_
        refine WP.miss rfl ?_
        refine WP.thenE ?_
        refine WP.thenE ?_
        refine WP.hit ?_
        exact WP.mt (⟨i, xx, J3, La, .slice Ao i co, Lp⟩ : NXX) ⟨hle, hI, Imm.le_trans hJ hJ3, hl3, hln, hpi, hkd, hbs, how⟩ ⟨rfl, rfl, rfl, rfl, rfl, trivial⟩ rfl
       ·obtain ⟨_, r, hrk, hrb, rfl, _, _⟩ := hap.resolve_left (fun h => by first | exact he h.1 | exact h.1 he)
        have hlb : xx.rs.length ≤ 1099511627776 := by have := hl.ok.nb; unfold Lg.no at this; omega
        refine WP.nil ?_
        refine WP.sub [(3, _), (10, _), (15, _), (21, _), (23, _), (24, _), (25, _), (27, _), (188, _)] ?_ ⟨rfl, rfl, rfl, rfl, rfl, rfl, rfl, rfl, rfl, trivial⟩
        refine WP.next ?_
        refine WP.condF rfl ?_
        refine WP.skip ?_
        refine WP.next ?_
        refine WP.region [0, 1, 2, 3, 4, 5] rfl ?_
        refine WP.mv rfl rfl ?_
        refine WP.vl rfl (Yld.fieldAddr rfl ty_fd_29_1 rfl) ?_
        refine WP.vl rfl (Yld.ld (v := .int .i64 (xx.pl : Int)) rfl ty_sc_3 rfl rfl) ?_
        refine WP.loud rfl rfl ?_
        refine Op.buildSlice rfl ty_sl_23 ty_el2_23 rfl rfl rfl rfl (vs := [_]) rfl (segs := [(0, [_])]) (cs := natV [xx.pl]) rfl rfl (by repeat (first | exact SetSeg.nil | apply SetSeg.one | exact SetAt.zero | apply SetAt.succ)) (fun bq => ?_)
        refine WP.loud rfl rfl ?_
        refine Op.append (m := 1) rfl ty_sl_23 ty_el_23 rfl rfl rfl rfl rfl how (SlRd.lit (m := 1) (by repeat (first | exact There.h | exact There.i (by assumption) | apply There.t | apply There.s)) rfl (Nat.le_refl _)) (by repeat (first | exact Take.nil | with_reducible apply Take.cons | apply Take.app | exact Rm.chunk | exact Rm.here | exact Rm.nil0 | apply Rm.skip | apply Rm.skipS | (focus (apply Take.all; (repeat (first | exact Rm.chunk | exact Rm.here | exact Rm.nil0 | apply Rm.skip | apply Rm.skipS)); done)) | apply Take.cons)) rfl (by omega) (by omega) (fun vn Lq hn2 => ?_)
        try simp only [nf]
        have hnew : Own 3 1 vn (natV ((List.range (i + 1)).map (xx.push r).endP)) (i + 1) Lq := by rw [natV_new xx r hln]; exact hn2
        refine WP.mv rfl rfl ?_
        refine WP.nil ?_
        refine WP.sub [(3, _), (10, _), (15, _), (21, _), (23, _), (24, _), (25, _), (27, _), (188, _)] ?_ ⟨rfl, rfl, rfl, rfl, rfl, rfl, rfl, rfl, rfl, trivial⟩
        refine WP.leave ?_
        refine WP.next ?_
        refine WP.region [0, 1, 2] rfl ?_
        refine WP.mv rfl rfl ?_
        refine WP.vl rfl (Yld.add64 rfl rfl rfl (by omega)) ?_
        refine WP.mv rfl rfl ?_
        refine WP.nil ?_
        refine WP.sub [(3, _), (10, _), (15, _), (21, _), (23, _), (24, _), (25, _), (27, _), (188, _)] ?_ ⟨rfl, rfl, rfl, rfl, rfl, rfl, rfl, rfl, rfl, trivial⟩
        exact WP.ag ⟨i + 1, xx.push r, J3, La, vn, Lq⟩ ⟨(show i + 1 ≤ ns.length by omega), hI.push hl3.recs hl3.ok, Imm.le_trans hJ hJ3, hl3, (by show (xx.push r).rs.length = i + 1; rw [push_len]; omega), hpi.new hln (by rw [kf_at hi]; exact hrb) (fun _ _ => rfl), (fun k hk => by
    by_cases e : k < xx.rs.length
    ·rw [push_get xx r e]; exact hkd k e
    ·have e2 : k = xx.rs.length := (by rw [push_len] at hk; omega)
     subst e2; rw [push_end]; exact hrk), hbs, hnew⟩ (show ns.length - (i + 1) < ns.length - i by omega) ⟨rfl, rfl, rfl, rfl, rfl, rfl, trivial⟩ rfl
     ·refine WP.nil ?_
      refine WP.sub [(3, _), (10, _), (15, _), (21, _), (23, _), (24, _), (172, _)] ?_ ⟨rfl, rfl, rfl, rfl, rfl, rfl, rfl, trivial⟩
      refine WP.next ?_
      refine WP.condF rfl ?_
      refine WP.exit ?_
      refine WP.thenE ?_
      refine WP.thenE ?_
      refine WP.hit ?_
      exact WP.mt (⟨i, xx, J, Lx, .slice Ao i co, Lp⟩ : NXX) ⟨hle, hI, hJ, hl, hln, hpi, hkd, hbs, how⟩ ⟨rfl, rfl, rfl, rfl, rfl, trivial⟩ rfl
    ·have hJb := hJ; rintro ⟨m, xx, J, Lx, vp, Lp⟩ ⟨hle, hI, hJ, hl, hln, hpi, hkd, hbs, how⟩; dsimp only at hle hI hJ hl hln hpi hkd hbs how; obtain ⟨Ao, co, rfl, _⟩ := how.slice
     refine WP.seq ?_
     refine WP.region [0, 1, 2] rfl ?_
     refine WP.mv rfl rfl ?_
     refine WP.loud rfl rfl ?_
     refine Op.cl (log_flushed hl hI.td (by decide)) rfl Try.func28 rfl rfl rfl rfl ?_
     rintro v J4 L1 hJ4 ⟨rfl, P4, x4, y4, L4, rfl, hl, hT4, nx, hP4, hwr, hse, hPP⟩
     try simp only [nf]
     have hI4 := hI.run hT4 nx
     have hJ := Imm.le_trans hJb (Imm.le_trans hJ hJ4)
     refine WP.mv rfl rfl ?_
     refine WP.nil ?_
     refine WP.sub [(3, _), (10, _), (15, _), (21, _), (23, _), (28, _)] ?_ ⟨rfl, rfl, rfl, rfl, rfl, rfl, trivial⟩
     refine WP.next ?_
     refine WP.seq ?_
     refine WP.region [0, 1] rfl ?_
     refine WP.mv rfl rfl ?_
     refine WP.loud rfl rfl ?_
     refine Op.cl (log_Advance (to := 1099511627776) hl) rfl Try.func29 rfl rfl rfl rfl ?_
     rintro v J L5 - ⟨rfl, rfl, hl⟩
     try simp only [nf]
     obtain ⟨a1, a2, a3, a4, a5, a6, a7, a8⟩ := adv_far hT4.g.ok
     have hT5 := hT4.adv hl.ok
     generalize x4.adv 1099511627776 = x5 at *
     have hrs5 : x5.rs = xx.rs := a1.trans nx.rs
     have hpi5 := hpi.nx hrs5
     have hln5 : x5.rs.length = m := by rw [hrs5]; exact hln
     have hkd5 : ∀ k (h : k < x5.rs.length), x5.rs[k].kind = 3 := by rw [hrs5]; exact hkd
     have hb5 : x5.base = x2.no := a2.trans (nx.base.trans hbs)
     have hep : ∀ k, xx.endP k = x5.endP k := fun k => by unfold Lg.endP; rw [hrs5, a3, nx.p0]
     have hpl5 : x5.sent = x5.pl := by rw [a7, hse]; unfold Lg.pl; rw [a1, a3]
     have hno5 : x4.no = x5.base + x5.rs.length := by unfold Lg.no; rw [a1, a2]
     have hlo5 : x5.endP (x5.lo - x5.base) = x5.pl := by rw [x5.endP_ge]; show _ ≤ min x5.mno x5.wr - x5.base; omega
     refine WP.nil ?_
     refine WP.sub [(3, _), (10, _), (15, _), (21, _), (23, _), (28, _)] ?_ ⟨rfl, rfl, rfl, rfl, rfl, rfl, trivial⟩
     refine WP.next ?_
     refine WP.seq ?_
     refine WP.seq ?_
     refine WP.region [0, 1] rfl ?_
     refine WP.mv rfl rfl ?_
     refine WP.vl rfl (Yld.not rfl rfl) ?_
     refine WP.nil ?_
     refine WP.sub [(3, _), (10, _), (15, _), (21, _), (23, _), (28, _), (199, _)] ?_ ⟨rfl, rfl, rfl, rfl, rfl, rfl, rfl, trivial⟩
     refine WP.next ?_
     refine WP.condF rfl ?_
     refine WP.skip ?_
     refine WP.next ?_
     refine WP.seq ?_
     refine WP.seq ?_
     refine WP.region [0] rfl ?_
     refine WP.mv rfl rfl ?_
     refine WP.nil ?_
     refine WP.next ?_
     refine WP.block ?_
     refine WP.loop (X := ERX) (fun t : ERX => [(3, .slice An ns.length cn), (15, .pointer (some ⟨b15, 0, none⟩)), (21, .pointer (some ⟨l2, 0, none⟩)), (23, .slice Ao m co), (29, .int .i64 (t.i : Int))]) (fun t => t.J) (fun t : ERX => (b15, row 29 [.int .i64 (x2.no : Int), .int .i64 (x2.pl : Int)]) :: (Lp ++ (t.L ++ F))) (fun t : ERX => t.i ≤ m ∧ Ja.le t.J ∧ IsLog t.J l2 s2 d 552 x5 y4 t.L) (fun t => m - t.i) ⟨0, 0, x5, y4, fl0, J4, L5⟩ ⟨Nat.zero_le _, hJ, hl⟩ ⟨rfl, rfl, rfl, rfl, rfl, trivial⟩ rfl (by (try dsimp only); repeat (first | exact Rm.chunk | exact Rm.here | exact Rm.nil0 | apply Rm.skip | apply Rm.skipS | apply PX.cons | (apply PX.done; (repeat (first | exact Leave.done | apply Leave.drop | apply Leave.dropS)); done) | apply PX.app)) ?_
     rintro ⟨i, _, _, _, _, J, Lx⟩ ⟨him, hJ, hl⟩; dsimp only at him hJ hl
     try dsimp only
     try simp only [nf]
     refine WP.seq ?_
     refine WP.seq ?_
     refine WP.region [0, 1, 2, 3] rfl ?_
     iterate 2 refine WP.mv rfl rfl ?_
     refine WP.vl rfl (Yld.len rfl ty_sl_23 rfl) ?_
     refine WP.split rfl rfl rfl rfl (Yld.lss rfl rfl rfl) (fun hlt => ?_) (fun hlt => ?_)
     ·have him2 : i < x5.rs.length := by omega
      have hi : i < ns.length := by omega
      have hnse := hns.mono hJ
      obtain ⟨bl, kl, Tl, fl, arl, ea, hbl, hcl⟩ := hnse.at_ hi
      have hel := hnse.el _ (List.getElem_mem hi)
      obtain ⟨bo, cpo, spo, ev, rfl, _, _⟩ := how.get (by omega)
      obtain ⟨rfl, rfl⟩ : Ao = some ⟨bo, 0, none⟩ ∧ co = cpo := by injection ev with e1 _ e2; exact ⟨e1, e2⟩
      try simp only [nf]
      have hri := hl.recs i him2
      have hrb : x5.rs[i].b = ns[i].2 := by rw [hpi5.b i him2 (by omega)]; exact kf_at hi
      have hfd := hT5.fd hpl5 him2
      have hcut := hri.ok
      have hn1 := x5.endP_lt (show i < i + 1 by omega) him2
      have hn2 := x5.endP_pl (i + 1)
      have hn3 := x5.rs[i].pos
      have hbp5 := hT5.g.ok.pb; have hfb5 := hT5.g.ok.fb; have hsn5 := hT5.g.ok.g.sn
      have hlenb : x5.rs[i].b.length ≤ 12671 := by have := hcut.len; simp only [kbody, List.length_cons] at this; omega
      refine WP.nil ?_
      refine WP.sub [(3, _), (15, _), (21, _), (23, _), (29, _), (203, _)] ?_ ⟨rfl, rfl, rfl, rfl, rfl, rfl, trivial⟩
      refine WP.next ?_
      refine WP.condT rfl ?_
      refine WP.skip ?_
      refine WP.next ?_
      refine WP.seq ?_
      refine WP.block ?_
      refine WP.seq ?_
      refine WP.region [0, 1, 2, 3, 4, 5, 6] rfl ?_
      iterate 3 refine WP.mv rfl rfl ?_
      refine WP.vl rfl (Yld.indexAddr (i := i) rfl ty_sl_23 rfl rfl (by omega)) ?_
      refine WP.vl rfl (Yld.ld (v := .int .i64 (x5.endP i : Int)) rfl ty_sc_3 rfl (by have h := natV_app (l := (List.range m).map xx.endP) (k := i) (by rw [List.length_map, List.length_range]; omega) spo; simp only [List.getElem_map, List.getElem_range] at h; rw [hep i] at h; exact h)) ?_
      refine WP.loud rfl rfl ?_
      refine Op.cl (log_NewRead (l := l2) (p := x5.endP i)) rfl Try.func25 rfl rfl rfl rfl ?_
      rintro v J Lr4 - ⟨rfl, rd, rfl, hrd⟩
      try simp only [nf]
      refine WP.mv rfl rfl ?_
      refine WP.nil ?_
      refine WP.sub [(3, _), (15, _), (21, _), (23, _), (29, _), (30, _), (203, _)] ?_ ⟨rfl, rfl, rfl, rfl, rfl, rfl, rfl, trivial⟩
      refine WP.next ?_
      refine WP.seq ?_
      refine WP.seq ?_
      refine WP.region [0, 1] rfl ?_
      refine WP.mv rfl rfl ?_
      refine WP.vl rfl (Yld.eqlNil rfl ty_pt_69 rfl rfl) ?_
      refine WP.nil ?_
      refine WP.sub [(3, _), (15, _), (21, _), (23, _), (29, _), (30, _), (203, _), (213, _)] ?_ ⟨rfl, rfl, rfl, rfl, rfl, rfl, rfl, rfl, trivial⟩
      refine WP.next ?_
      refine WP.condF rfl ?_
      refine WP.skip ?_
      refine WP.next ?_
      refine WP.seq ?_
      refine WP.region [0, 1] rfl ?_
      refine WP.mv rfl rfl ?_
      refine WP.loud rfl rfl ?_
      refine Op.cl (log_runRead hl hrd hcut hri.kd hfd (by omega) (.inl (by omega))) rfl Try.func26 rfl rfl rfl rfl ?_
      rintro v J7 Lq7 hJ7 ⟨qs, Lr6, L7, rfl, hrd, hl⟩
      try simp only [nf]
      refine WP.nil ?_
      refine WP.sub [(3, _), (15, _), (21, _), (23, _), (29, _), (30, _), (203, _), (213, _)] ?_ ⟨rfl, rfl, rfl, rfl, rfl, rfl, rfl, rfl, trivial⟩
      refine WP.next ?_
      refine WP.seq ?_
      refine WP.region [0, 1, 2, 3, 4, 5, 6, 7, 8, 9, 10] rfl ?_
      refine WP.mv rfl rfl ?_
      refine WP.loud rfl rfl ?_
      refine Op.cl (read_GotF hrd (by omega)) rfl Try.func27 rfl rfl rfl rfl ?_
      rintro v J L9 - ⟨rfl, vc, Lc, rfl, hvc, rfl⟩
      try simp only [nf]
      rw [hrb] at hvc
      have hbl7 := hJ7.2 _ _ hbl
      refine WP.mv rfl rfl ?_
      refine WP.vl rfl (Yld.extract rfl rfl rfl) ?_
      refine WP.vl rfl (Yld.extract rfl rfl rfl) ?_
      refine WP.vl rfl (Yld.extract rfl rfl rfl) ?_
      refine WP.vl rfl (Yld.extract rfl rfl rfl) ?_
      iterate 4 refine WP.mv rfl rfl ?_
      refine WP.nil ?_
      refine WP.sub [(3, _), (15, _), (21, _), (23, _), (29, _), (30, _), (31, _), (32, _), (33, _), (34, _), (203, _), (213, _)] ?_ ⟨rfl, rfl, rfl, rfl, rfl, rfl, rfl, rfl, rfl, rfl, rfl, rfl, trivial⟩
      refine WP.next ?_
      refine WP.seq ?_
      refine WQ.startAll Trymixed (by kernel_rfl) _ rfl ?_
      refine WQ.val rfl rfl rfl (Yld.move rfl rfl) ?_
      refine WQ.val rfl rfl rfl (Yld.neq rfl rfl rfl false (decide_eq_false (by simp))) ?_
      refine WQ.val rfl rfl rfl (Yld.move rfl rfl) ?_
      refine WQ.valG rfl rfl rfl rfl rfl rfl (Yld.move rfl rfl) ?_
      refine WQ.valG rfl rfl rfl rfl rfl rfl (Yld.fieldAddr rfl ty_fd_29_0 rfl) ?_
      refine WQ.valG rfl rfl rfl rfl rfl rfl (Yld.ld (v := .int .i64 (x2.no : Int)) rfl ty_sc_3 rfl rfl) ?_
      refine WQ.valG rfl rfl rfl rfl rfl rfl (Yld.move rfl rfl) ?_
      refine WQ.valG rfl rfl rfl rfl rfl rfl (Yld.add64 rfl rfl rfl (by omega)) ?_
      refine WQ.valG rfl rfl rfl rfl rfl rfl (Yld.add64 rfl rfl rfl (by omega)) ?_
      refine WQ.valG rfl rfl rfl rfl rfl rfl (Yld.neq rfl rfl rfl false (decide_eq_false (by omega))) ?_
      refine WQ.val rfl rfl rfl (Yld.pickF rfl rfl rfl) ?_
      refine WQ.val rfl rfl rfl (Yld.move rfl rfl) ?_
      refine WQ.valG rfl rfl rfl rfl rfl rfl (Yld.move rfl rfl) ?_
      refine WQ.valG rfl rfl rfl rfl rfl rfl (Yld.neq rfl rfl rfl false (decide_eq_false (by rw [hkd5 i him2]; simp))) ?_
      refine WQ.val rfl rfl rfl (Yld.pickF rfl rfl rfl) ?_
      refine WQ.val rfl rfl rfl (Yld.move rfl rfl) ?_
      refine WQ.valG rfl rfl rfl rfl rfl rfl (Yld.move rfl rfl) ?_
      refine WQ.valG rfl rfl rfl rfl rfl rfl (Yld.str (e := 5) rfl (by kernel_rfl) (by kernel_rfl) (by kernel_rfl) rfl (hvc.rd (by intro p hp; simp [hp]))) ?_
      refine WQ.valG rfl rfl rfl rfl rfl rfl (Yld.move rfl rfl) ?_
      refine WQ.valG rfl rfl rfl rfl rfl rfl (Yld.move rfl rfl) ?_
      refine WQ.valG rfl rfl rfl rfl rfl rfl (Yld.indexAddr (i := i) rfl ty_sl_22 (congrArg (fun a => some (Value.slice a ns.length cn)) ea) rfl hi) ?_
      refine WQ.valG rfl rfl rfl rfl rfl rfl (Yld.loadC rfl ty_sc_46 rfl (There.i hbl7) hcl) ?_
      refine WQ.valG rfl rfl rfl rfl rfl rfl (Yld.str (e := 5) rfl (by kernel_rfl) (by kernel_rfl) (by kernel_rfl) rfl ((hel.mono (fun b o h => hJ7.2 b o h)).mono (fun b o h => .inr h))) ?_
      refine WQ.valG rfl rfl rfl rfl rfl rfl (Yld.neqStr rfl rfl rfl false (by simp)) ?_
      refine WQ.val rfl rfl rfl (Yld.pickF rfl rfl rfl) ?_
      refine WQ.nil ?_
      refine WP.sub [(3, _), (15, _), (21, _), (23, _), (29, _), (30, _), (31, _), (32, _), (33, _), (34, _), (203, _), (213, _), (247, _)] ?_ ⟨rfl, rfl, rfl, rfl, rfl, rfl, rfl, rfl, rfl, rfl, rfl, rfl, rfl, trivial⟩
      refine WP.next ?_
      refine WP.condF rfl ?_
      refine WP.skip ?_
      refine WP.leave ?_
      refine WP.next ?_
      refine WP.region [0, 1, 2] rfl ?_
      refine WP.mv rfl rfl ?_
      refine WP.vl rfl (Yld.add64 rfl rfl rfl (by omega)) ?_
      refine WP.mv rfl rfl ?_
      refine WP.nil ?_
      refine WP.sub [(3, _), (15, _), (21, _), (23, _), (29, _), (30, _), (31, _), (32, _), (33, _), (34, _), (203, _), (213, _), (247, _)] ?_ ⟨rfl, rfl, rfl, rfl, rfl, rfl, rfl, rfl, rfl, rfl, rfl, rfl, rfl, trivial⟩
      exact WP.ag ⟨i + 1, 0, x5, y4, fl0, J7, L7⟩ ⟨(show i + 1 ≤ m by omega), Imm.le_trans hJ hJ7, hl⟩ (show m - (i + 1) < m - i by omega) ⟨rfl, rfl, rfl, rfl, rfl, trivial⟩ rfl
     ·refine WP.nil ?_
      refine WP.sub [(3, _), (15, _), (21, _), (23, _), (29, _), (203, _)] ?_ ⟨rfl, rfl, rfl, rfl, rfl, rfl, trivial⟩
      refine WP.next ?_
      refine WP.condF rfl ?_
      refine WP.exit ?_
      refine WP.thenE ?_
      refine WP.thenE ?_
      refine WP.hit ?_
      refine WP.next ?_
      refine WP.seq ?_
      refine WP.region [0] rfl ?_
      refine WP.mv rfl rfl ?_
      refine WP.nil ?_
      refine WP.next ?_
      refine WP.ret ?_
      refine WP.fn .ret (.inr rfl) (res1 rfl rfl) [] (Imm.le_trans hJa hJ) ?_
      exact ⟨rfl, rfl⟩


end Go.Hp
