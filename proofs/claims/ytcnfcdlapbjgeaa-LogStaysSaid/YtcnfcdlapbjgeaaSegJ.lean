import Derived.Test.YtcnfcdlapbjgeaaSegI
set_option linter.unusedVariables false
set_option linter.unusedSimpArgs false
namespace Go.Hp
open Go Go.Proofs
theorem seg_Write_ok {I : Imm} {s d n : Nat} {g : Sg} {x : Dk} {L : Chunks} (hd : IsDisk d n x L) (hg : g.ok n) {p : Pt} {v : Value} (hv : SlRd (Im I) v p.data.length 1 (bytesV p.data)) (hwb : x.waits.length + 8192 ≤ 1954687338000) (hm : p.may) : Spec Try.prog 60 [.pointer (some ⟨s, 0, none⟩), .agg (ptV p v).toArray] I ((s, row 108 (sgV d g)) :: L) (fun v' J L' => v' = .int .i64 (pwrt x n g p).2 ∧ ∃ Ld, L' = (s, row 108 (sgV d g)) :: Ld ∧ IsDisk d n (pwrt x n g p).1 Ld) := by
 obtain ⟨Av, cv, rfl, _, _, _⟩ := id hv
 refine Spec.of Try.func60 rfl Try.ntmps60 (Nat.le_of_ble_eq_true rfl) (fun F => ?_)
 try simp only [nf]
 dsimp only [argsEnv]
 refine WP.seq ?_
 refine WP.region [0, 1] rfl ?_
 refine WP.loud rfl rfl ?_
 refine Op.box rfl rfl rfl rfl rfl (fun b3 => ?_)
 refine WP.mv rfl rfl ?_
 refine WP.nil ?_
 refine WP.next ?_
 refine WP.seq ?_
 refine WP.region [0, 1, 2, 3, 4, 5, 6] rfl ?_
 refine WP.vl rfl (Yld.lda rfl ty_ag_52 rfl rfl) ?_
 refine WP.loud rfl rfl ?_
 refine Op.cl (seg_Encode_ok hv hm) rfl Try.func64 rfl rfl rfl rfl ?_
 rintro v J2 Lo hJ2 ⟨vb, rfl, ho⟩
 try simp only [nf]
 refine WP.mv rfl rfl ?_
 refine WP.vl rfl (Yld.extract rfl rfl rfl) ?_
 refine WP.vl rfl (Yld.extract rfl rfl rfl) ?_
 iterate 2 refine WP.mv rfl rfl ?_
 refine WP.nil ?_
 refine WP.sub [(0, _), (1, _), (3, _), (4, _), (5, _), (6, _)] ?_ ⟨rfl, rfl, rfl, rfl, rfl, rfl, trivial⟩
 refine WP.next ?_
 refine WP.seq ?_
 refine WP.block ?_
 refine WP.seq ?_
 refine WP.region [0, 1, 2] rfl ?_
 refine WP.mv rfl rfl ?_
 refine WP.vl rfl (Yld.neq rfl rfl rfl false (decide_eq_false (by omega))) ?_
 refine WP.mv rfl rfl ?_
 refine WP.nil ?_
 refine WP.sub [(0, _), (1, _), (3, _), (4, _), (5, _), (6, _), (12, _)] ?_ ⟨rfl, rfl, rfl, rfl, rfl, rfl, rfl, trivial⟩
 refine WP.next ?_
 refine WP.condF rfl ?_
 refine WP.seq ?_
 refine WP.region [0, 1, 2, 3, 4, 5] rfl ?_
 refine WP.mv rfl rfl ?_
 refine WP.vl rfl (Yld.fieldAddr rfl ty_fd_52_0 rfl) ?_
 refine WP.vl rfl (Yld.ld (v := .int .i64 p.place) rfl ty_sc_3 rfl rfl) ?_
 refine WP.loud rfl rfl ?_
 refine Op.cl (seg_has (d := d) (p := p.place) hg) rfl Try.func41 rfl rfl rfl rfl ?_
 rintro v J L1 - ⟨rfl, rfl, rfl⟩
 try simp only [nf]
 by_cases hh : (decide (phas g p.place)) = true
 ·rw [hh]
  refine WP.vl rfl (Yld.not rfl rfl) ?_
  refine WP.mv rfl rfl ?_
  refine WP.nil ?_
  refine WP.sub [(0, _), (1, _), (3, _), (4, _), (5, _), (6, _), (12, _), (16, _)] ?_ ⟨rfl, rfl, rfl, rfl, rfl, rfl, rfl, rfl, trivial⟩
  refine WP.next ?_
  refine WP.condF rfl ?_
  refine WP.skip ?_
  refine WP.leave ?_
  refine WP.next ?_
  refine WP.seq ?_
  refine WP.shO ho (fun J3 hJ3 hbs => ?_)
  have hpl : p.place = (p.place.toNat : Int) := by have := hm.place; omega
  have hn8 := (disk_ok hd).n2
  refine WQ.start Trymixed 9 (by kernel_rfl) _ rfl [9, 10] rfl ?_
  refine WQ.val rfl rfl rfl (Yld.move rfl rfl) ?_
  refine WQ.val rfl rfl rfl (Yld.nilCheck rfl rfl) ?_
  refine WQ.val rfl rfl rfl (Yld.fieldAddr rfl ty_fd_108_0 rfl) ?_
  refine WQ.val rfl rfl rfl (Yld.ld (v := .pointer (some ⟨d, 0, none⟩)) rfl ty_sc_32 rfl rfl) ?_
  refine WQ.val rfl rfl rfl (Yld.move rfl rfl) ?_
  refine WQ.val rfl rfl rfl (Yld.fieldAddr rfl ty_fd_52_0 rfl) ?_
  refine WQ.val rfl rfl rfl (Yld.ld (v := .int .i64 (p.place.toNat : Int)) rfl ty_sc_3 rfl (congrArg (fun z : Int => some (Value.int .i64 z)) hpl)) ?_
  refine WQ.call (seg_sector (d := d) (p := p.place.toNat) hg hn8 (by have := hm.place; omega)) (by rintro v' J L1 ⟨rfl, rfl, rfl⟩; exact ⟨rfl, rfl, rfl⟩) rfl Try.func54 rfl rfl rfl rfl rfl (by repeat (first | exact Take.nil | with_reducible apply Take.cons | apply Take.app | exact Rm.chunk | exact Rm.here | exact Rm.nil0 | apply Rm.skip | apply Rm.skipS | (focus (apply Take.all; (repeat (first | exact Rm.chunk | exact Rm.here | exact Rm.nil0 | apply Rm.skip | apply Rm.skipS)); done)) | apply Take.cons)) ?_
  refine WQ.val rfl rfl rfl (Yld.move rfl rfl) ?_
  refine WQ.nil ?_
  refine WP.loud rfl rfl ?_
  refine Op.cl (disk_Write (at_0 := (psec g p.place.toNat : Int)) hd hbs hwb (by rw [penc_len hm.len.2]; decide)) rfl Try.func67 rfl rfl rfl rfl ?_
  rintro v J Ld - ⟨rfl, rfl, hd2⟩
  try simp only [nf]
  refine WP.mv rfl rfl ?_
  refine WP.nil ?_
  refine WP.sub [(0, _), (1, _), (3, _), (4, _), (5, _), (6, _), (12, _), (16, _)] ?_ ⟨rfl, rfl, rfl, rfl, rfl, rfl, rfl, rfl, trivial⟩
  refine WP.next ?_
  refine WP.ret ?_
  refine WP.fn .ret (.inr rfl) (res1 rfl rfl) ((s, row 108 (sgV d g)) :: Ld) (Imm.le_trans hJ2 hJ3) ?_
  have e : pwrt x n g p = x.write n (psec g p.place.toNat : Int) (penc p) := by unfold pwrt; rw [if_pos hm, if_pos (of_decide_eq_true hh)]
  rw [e]; exact ⟨rfl, _, rfl, hd2⟩
 ·have hh : (decide (phas g p.place)) = false := eq_false_of_ne_true hh
  rw [hh]
  refine WP.vl rfl (Yld.not rfl rfl) ?_
  refine WP.mv rfl rfl ?_
  refine WP.nil ?_
  refine WP.sub [(0, _), (1, _), (3, _), (4, _), (5, _), (6, _), (12, _), (16, _)] ?_ ⟨rfl, rfl, rfl, rfl, rfl, rfl, rfl, rfl, trivial⟩
  refine WP.next ?_
  refine WP.condT rfl ?_
  refine WP.seq ?_
  refine WP.region [0] rfl ?_
  refine WP.mv rfl rfl ?_
  refine WP.nil ?_
  refine WP.next ?_
  refine WP.ret ?_
  refine WP.fn .ret (.inr rfl) (res1 rfl rfl) ((s, row 108 (sgV d g)) :: L) hJ2 ?_
  have e : pwrt x n g p = (x, 1) := by unfold pwrt; rw [if_pos hm, if_neg (of_decide_eq_false hh)]
  rw [e]; exact ⟨rfl, _, rfl, hd⟩

theorem seg_Write_bad {I : Imm} {s d n : Nat} {g : Sg} {x : Dk} {L : Chunks} (hd : IsDisk d n x L) (hg : g.ok n) {p : Pt} {v : Value} (hv : SlRd (Im I) v p.data.length 1 (bytesV p.data)) (hwb : x.waits.length + 8192 ≤ 1954687338000) (hm : ¬ p.may) : Spec Try.prog 60 [.pointer (some ⟨s, 0, none⟩), .agg (ptV p v).toArray] I ((s, row 108 (sgV d g)) :: L) (fun v' J L' => v' = .int .i64 (pwrt x n g p).2 ∧ ∃ Ld, L' = (s, row 108 (sgV d g)) :: Ld ∧ IsDisk d n (pwrt x n g p).1 Ld) := by
 obtain ⟨Av, cv, rfl, _, _, _⟩ := id hv
 refine Spec.of Try.func60 rfl Try.ntmps60 (Nat.le_of_ble_eq_true rfl) (fun F => ?_)
 try simp only [nf]
 dsimp only [argsEnv]
 refine WP.seq ?_
 refine WP.region [0, 1] rfl ?_
 refine WP.loud rfl rfl ?_
 refine Op.box rfl rfl rfl rfl rfl (fun b3 => ?_)
 refine WP.mv rfl rfl ?_
 refine WP.nil ?_
 refine WP.next ?_
 refine WP.seq ?_
 refine WP.region [0, 1, 2, 3, 4, 5, 6] rfl ?_
 refine WP.vl rfl (Yld.lda rfl ty_ag_52 rfl rfl) ?_
 refine WP.loud rfl rfl ?_
 refine Op.cl (seg_Encode_bad hv hm) rfl Try.func64 rfl rfl rfl rfl ?_
 rintro v J L1 - ⟨rfl, rfl, rfl⟩
 try simp only [nf]
 refine WP.mv rfl rfl ?_
 refine WP.vl rfl (Yld.extract rfl rfl rfl) ?_
 refine WP.vl rfl (Yld.extract rfl rfl rfl) ?_
 iterate 2 refine WP.mv rfl rfl ?_
 refine WP.nil ?_
 refine WP.sub [(0, _), (1, _), (3, _), (4, _), (5, _), (6, _)] ?_ ⟨rfl, rfl, rfl, rfl, rfl, rfl, trivial⟩
 refine WP.next ?_
 refine WP.seq ?_
 refine WP.block ?_
 refine WP.seq ?_
 refine WP.region [0, 1, 2] rfl ?_
 refine WP.mv rfl rfl ?_
 refine WP.vl rfl (Yld.neq rfl rfl rfl true (decide_eq_true (by omega))) ?_
 refine WP.mv rfl rfl ?_
 refine WP.nil ?_
 refine WP.sub [(0, _), (1, _), (3, _), (4, _), (5, _), (6, _), (12, _)] ?_ ⟨rfl, rfl, rfl, rfl, rfl, rfl, rfl, trivial⟩
 refine WP.next ?_
 refine WP.condT rfl ?_
 refine WP.seq ?_
 refine WP.region [0, 1] rfl ?_
 iterate 2 refine WP.mv rfl rfl ?_
 refine WP.nil ?_
 refine WP.sub [(0, _), (1, _), (3, _), (4, _), (5, _), (6, _), (12, _)] ?_ ⟨rfl, rfl, rfl, rfl, rfl, rfl, rfl, trivial⟩
 refine WP.next ?_
 refine WP.ret ?_
 refine WP.fn .ret (.inr rfl) (res1 rfl rfl) ((s, row 108 (sgV d g)) :: L) (Imm.le_refl _) ?_
 have e : pwrt x n g p = (x, 70) := by unfold pwrt; rw [if_neg hm]
 rw [e]; exact ⟨rfl, _, rfl, hd⟩


theorem seg_Write {I : Imm} {s d n : Nat} {g : Sg} {x : Dk} {L : Chunks} (hd : IsDisk d n x L) (hg : g.ok n) {p : Pt} {v : Value} (hv : SlRd (Im I) v p.data.length 1 (bytesV p.data)) (hwb : x.waits.length + 8192 ≤ 1954687338000) : Spec Try.prog 60 [.pointer (some ⟨s, 0, none⟩), .agg (ptV p v).toArray] I ((s, row 108 (sgV d g)) :: L) (fun v' J L' => v' = .int .i64 (pwrt x n g p).2 ∧ ∃ Ld, L' = (s, row 108 (sgV d g)) :: Ld ∧ IsDisk d n (pwrt x n g p).1 Ld) := by
 by_cases hm : p.may
 ·exact seg_Write_ok hd hg hv hwb hm
 ·exact seg_Write_bad hd hg hv hwb hm
theorem seg_stands {I : Imm} {s d n : Nat} {g : Sg} {x : Dk} {L : Chunks} (hd : IsDisk d n x L) (hg : g.ok n) {p : Nat} (hp8 : p ≤ 1152921504606846976) : Spec Try.prog 42 [.pointer (some ⟨s, 0, none⟩), .int .i64 (p : Int)] I ((s, row 108 (sgV d g)) :: L) (fun v J L' => ∃ cs, v = .tuple #[.agg cs.toArray, .int .i64 (pstand x n g p).2] ∧ RPt J (pstand x n g p).1 cs ∧ L' = (s, row 108 (sgV d g)) :: L) := by
 have hn8 := (disk_ok hd).n2
 refine Spec.of Try.func42 rfl Try.ntmps42 (Nat.le_of_ble_eq_true rfl) (fun F => ?_)
 try simp only [nf]
 dsimp only [argsEnv]
 refine WP.seq ?_
 refine WP.region [0, 1] rfl ?_
 refine WP.loud rfl rfl ?_
 refine Op.alloc rfl rfl rfl ty_zr_52 (fun b4 => ?_)
 refine WP.mv rfl rfl ?_
 refine WP.nil ?_
 refine WP.next ?_
 refine WP.seq ?_
 refine WD.start Trymixed 7 (fun b o => b = s ∧ o = row 108 (sgV d g)) (fun _ _ => False) (by rintro _ _ ⟨rfl, rfl⟩; exact (by repeat (first | exact There.h | exact There.i (by assumption) | apply There.t | apply There.s))) (fun _ _ h => h.elim) 13 [false, false, false, false, false, false, false, false, false, false, false, false, false] rfl rfl ?_
 refine WD.val (i := 0) rfl rfl rfl rfl (by kernel_rfl) rfl (Yld.move rfl rfl) ?_
 refine WD.val (i := 1) rfl rfl rfl rfl (by kernel_rfl) rfl (Yld.nilCheck rfl rfl) ?_
 refine WD.val (i := 2) rfl rfl rfl rfl (by kernel_rfl) rfl (Yld.fieldAddr rfl ty_fd_108_0 rfl) ?_
 refine WD.val1 (i := 3) rfl rfl rfl rfl (by kernel_rfl) rfl (by kernel_rfl) (Yld.load (v := .pointer (some ⟨d, 0, none⟩)) rfl ty_sc_32 rfl (.inl ⟨rfl, rfl⟩) rfl) ?_
 refine WD.val (i := 4) rfl rfl rfl rfl (by kernel_rfl) rfl (Yld.move rfl rfl) ?_
 refine WD.val (i := 5) rfl rfl rfl rfl (by kernel_rfl) rfl (Yld.move rfl rfl) ?_
 refine WD.loud (i := 6) (by kernel_rfl) rfl rfl rfl ?_
 refine Op.cl (seg_sector (d := d) (p := p) hg hn8 hp8) rfl Try.func54 rfl rfl rfl rfl ?_
 rintro v J L1 - ⟨rfl, rfl, rfl⟩
 try simp only [nf]
 refine WD.gR ?_
 refine WD.loud (i := 7) (by kernel_rfl) rfl rfl rfl ?_
 refine Op.cl (disk_Read (at_ := (psec g p : Int)) (many := 4) hd) rfl Try.func53 rfl rfl rfl rfl ?_
 rintro v J Lq - ⟨rfl, v7, Lo, rfl, ho, rfl⟩
 try simp only [nf]
 refine WD.go (.inl rfl) (fun _ _ h => h.elim) ?_
 refine WD.val (i := 8) rfl rfl rfl rfl (by kernel_rfl) rfl (Yld.move rfl rfl) ?_
 refine WD.val (i := 9) rfl rfl rfl rfl (by kernel_rfl) rfl (Yld.extract rfl rfl rfl) ?_
 refine WD.val (i := 10) rfl rfl rfl rfl (by kernel_rfl) rfl (Yld.extract rfl rfl rfl) ?_
 refine WD.val (i := 11) rfl rfl rfl rfl (by kernel_rfl) rfl (Yld.assign rfl rfl) ?_
 refine WD.val (i := 12) rfl rfl rfl rfl (by kernel_rfl) rfl (Yld.assign rfl rfl) ?_
 refine WD.done (by kernel_rfl) ?_
 refine WP.sub [(0, _), (1, _), (4, _), (5, _), (6, _), (7, _)] ?_ ⟨rfl, rfl, rfl, rfl, rfl, rfl, trivial⟩
 refine WP.next ?_
 refine WP.seq ?_
 refine WP.seq ?_
 refine WP.region [0, 1] rfl ?_
 refine WP.mv rfl rfl ?_
 refine WP.split rfl rfl rfl rfl (Yld.neq rfl rfl rfl) (fun he => ?_) (fun he => ?_)
 ·refine WP.nil ?_
  refine WP.sub [(0, _), (1, _), (4, _), (5, _), (6, _), (7, _), (21, _)] ?_ ⟨rfl, rfl, rfl, rfl, rfl, rfl, rfl, trivial⟩
  refine WP.next ?_
  refine WP.condT rfl ?_
  refine WP.seq ?_
  refine WP.region [0, 1, 2, 3] rfl ?_
  refine WP.vl rfl (Yld.buildS (pl := []) rfl ty_zr_52 ty_zd_52 (by kernel_rfl) rfl (vs := []) rfl (segs := []) rfl rfl (by repeat (first | exact SetSeg.nil | apply SetSeg.one | exact SetAt.zero | apply SetAt.succ))) ?_
  refine WP.mv rfl rfl ?_
  refine WP.loud rfl rfl ?_
  refine Op.sA rfl rfl ty_sz_52 rfl rfl rfl rfl rfl ?_
  refine WP.mv rfl rfl ?_
  refine WP.nil ?_
  refine WP.sub [(0, _), (1, _), (4, _), (5, _), (6, _), (7, _), (21, _)] ?_ ⟨rfl, rfl, rfl, rfl, rfl, rfl, rfl, trivial⟩
  refine WP.next ?_
  refine WP.ret ?_
  refine WP.fn .ret (.inr rfl) (resT (rs := [.cell 4 52, .tmp 5]) (vs := [_, _]) rfl ⟨⟨_, _, _, _, rfl, (by repeat (first | exact There.h | exact There.i (by assumption) | apply There.t | apply There.s)), .inl ⟨ty_ag_52, by rfl, rfl⟩⟩, rfl, trivial⟩ rfl) ((s, row 108 (sgV d g)) :: L) (Imm.le_refl _) ?_
  have e : pstand x n g p = (ptZ, (x.read n (psec g p : Int) 4).2) := if_pos (by omega)
  rw [e]; exact ⟨_, rfl, RPt.zero _, rfl⟩
 ·have he0 : (x.read n (psec g p : Int) 4).2 = 0 := by omega
  have h256 := read_256 (disk_ok hd) he0
  refine WP.shO ho (fun J2 hJ2 hb => ?_)
  refine WP.nil ?_
  refine WP.sub [(0, _), (1, _), (4, _), (5, _), (6, _), (7, _), (21, _)] ?_ ⟨rfl, rfl, rfl, rfl, rfl, rfl, rfl, trivial⟩
  refine WP.next ?_
  refine WP.condF rfl ?_
  refine WP.skip ?_
  refine WP.next ?_
  refine WP.seq ?_
  refine WP.region [0, 1, 2, 3, 4, 5, 6, 7] rfl ?_
  refine WP.mv rfl rfl ?_
  refine WP.loud rfl rfl ?_
  refine Op.cl (seg_Decode hb (by omega)) rfl Try.func55 rfl rfl rfl rfl ?_
  rintro v J3 L1 hJ3 ⟨cs, rfl, hcs, rfl⟩
  try simp only [nf]
  obtain ⟨va, rfl, hva⟩ := hcs
  refine WP.mv rfl rfl ?_
  refine WP.vl rfl (Yld.extract rfl rfl rfl) ?_
  refine WP.vl rfl (Yld.extract rfl rfl rfl) ?_
  refine WP.loud rfl rfl ?_
  refine Op.alloc rfl rfl rfl ty_zr_52 (fun b8 => ?_)
  refine WP.loud rfl rfl ?_
  refine Op.sA rfl rfl ty_sz_52 rfl rfl rfl (ptV_one (by obtain ⟨A', c', e, _⟩ := hva; exact ⟨_, _, _, e⟩)) rfl ?_
  refine WP.mv rfl rfl ?_
  refine WP.nil ?_
  refine WP.sub [(0, _), (1, _), (4, _), (5, _), (6, _), (7, _), (8, _), (21, _)] ?_ ⟨rfl, rfl, rfl, rfl, rfl, rfl, rfl, rfl, trivial⟩
  refine WP.next ?_
  refine WP.seq ?_
  refine WP.seq ?_
  refine WP.region [0, 1, 2, 3, 4, 5, 6, 7] rfl ?_
  refine WP.mv rfl rfl ?_
  refine WP.split rfl rfl rfl rfl (Yld.neq rfl rfl rfl) (fun hp => ?_) (fun hp => ?_)
  ·refine WP.mv rfl rfl ?_
   refine WP.passG rfl rfl rfl rfl rfl rfl rfl rfl ?_
   refine WP.passG rfl rfl rfl rfl rfl rfl rfl rfl ?_
   refine WP.passG rfl rfl rfl rfl rfl rfl rfl rfl ?_
   refine WP.passG rfl rfl rfl rfl rfl rfl rfl rfl ?_
   refine WP.vl rfl (Yld.pickT rfl rfl rfl) ?_
   refine WP.nil ?_
   refine WP.sub [(0, _), (1, _), (4, _), (5, _), (6, _), (7, _), (8, _), (21, _), (36, _)] ?_ ⟨rfl, rfl, rfl, rfl, rfl, rfl, rfl, rfl, rfl, trivial⟩
   refine WP.next ?_
   refine WP.condT rfl ?_
   refine WP.seq ?_
   refine WP.region [0, 1, 2] rfl ?_
   refine WP.vl rfl (Yld.buildS (pl := []) rfl ty_zr_52 ty_zd_52 (by kernel_rfl) rfl (vs := []) rfl (segs := []) rfl rfl (by repeat (first | exact SetSeg.nil | apply SetSeg.one | exact SetAt.zero | apply SetAt.succ))) ?_
   refine WP.loud rfl rfl ?_
   refine Op.sA rfl rfl ty_sz_52 rfl rfl rfl rfl rfl ?_
   refine WP.mv rfl rfl ?_
   refine WP.nil ?_
   refine WP.sub [(0, _), (1, _), (4, _), (5, _), (6, _), (7, _), (8, _), (21, _), (36, _)] ?_ ⟨rfl, rfl, rfl, rfl, rfl, rfl, rfl, rfl, rfl, trivial⟩
   refine WP.next ?_
   refine WP.ret ?_
   refine WP.fn .ret (.inr rfl) (resT (rs := [.cell 4 52, .tmp 5]) (vs := [_, _]) rfl ⟨⟨_, _, _, _, rfl, (by repeat (first | exact There.h | exact There.i (by assumption) | apply There.t | apply There.s)), .inl ⟨ty_ag_52, by rfl, rfl⟩⟩, rfl, trivial⟩ rfl) ((s, row 108 (sgV d g)) :: L) (Imm.le_trans hJ2 hJ3) ?_
   have e : pstand x n g p = _ := if_neg (by omega)
   cases hpd : pdec (x.read n (psec g p : Int) 4).1 with
   | some r => rw [hpd] at hp; exact absurd rfl hp
   | none =>
    rw [hpd] at e; rw [e]; exact ⟨_, rfl, RPt.zero _, rfl⟩
  ·refine WP.mv rfl rfl ?_
   refine WP.valG rfl rfl rfl rfl rfl rfl rfl (Yld.fieldAddr rfl ty_fd_52_0 rfl) ?_
   refine WP.valG rfl rfl rfl rfl rfl rfl rfl (Yld.ld (v := .int .i64 ((pdec (x.read n (psec g p : Int) 4).1).getD ptZ).place) rfl ty_sc_3 rfl rfl) ?_
   refine WP.valG rfl rfl rfl rfl rfl rfl rfl (Yld.move rfl rfl) ?_
   refine WP.splitG rfl rfl rfl rfl rfl rfl rfl (Yld.neq rfl rfl rfl) (fun hq => ?_) (fun hq => ?_)
   ·refine WP.vl rfl (Yld.pickF rfl rfl rfl) ?_
    refine WP.nil ?_
    refine WP.sub [(0, _), (1, _), (4, _), (5, _), (6, _), (7, _), (8, _), (21, _), (36, _)] ?_ ⟨rfl, rfl, rfl, rfl, rfl, rfl, rfl, rfl, rfl, trivial⟩
    refine WP.next ?_
    refine WP.condT rfl ?_
    refine WP.seq ?_
    refine WP.region [0, 1, 2] rfl ?_
    refine WP.vl rfl (Yld.buildS (pl := []) rfl ty_zr_52 ty_zd_52 (by kernel_rfl) rfl (vs := []) rfl (segs := []) rfl rfl (by repeat (first | exact SetSeg.nil | apply SetSeg.one | exact SetAt.zero | apply SetAt.succ))) ?_
    refine WP.loud rfl rfl ?_
    refine Op.sA rfl rfl ty_sz_52 rfl rfl rfl rfl rfl ?_
    refine WP.mv rfl rfl ?_
    refine WP.nil ?_
    refine WP.sub [(0, _), (1, _), (4, _), (5, _), (6, _), (7, _), (8, _), (21, _), (36, _)] ?_ ⟨rfl, rfl, rfl, rfl, rfl, rfl, rfl, rfl, rfl, trivial⟩
    refine WP.next ?_
    refine WP.ret ?_
    refine WP.fn .ret (.inr rfl) (resT (rs := [.cell 4 52, .tmp 5]) (vs := [_, _]) rfl ⟨⟨_, _, _, _, rfl, (by repeat (first | exact There.h | exact There.i (by assumption) | apply There.t | apply There.s)), .inl ⟨ty_ag_52, by rfl, rfl⟩⟩, rfl, trivial⟩ rfl) ((s, row 108 (sgV d g)) :: L) (Imm.le_trans hJ2 hJ3) ?_
    have e : pstand x n g p = _ := if_neg (by omega)
    cases hpd : pdec (x.read n (psec g p : Int) 4).1 with
    | none => rw [hpd] at hp; exact absurd hp (by decide)
    | some r =>
     rw [hpd] at e hq; simp only [Option.getD_some] at hq
     have e2 : pstand x n g p = (ptZ, 70) := e.trans (if_neg (by omega))
     rw [e2]; exact ⟨_, rfl, RPt.zero _, rfl⟩
   ·refine WP.vl rfl (Yld.pickF rfl rfl rfl) ?_
    refine WP.nil ?_
    refine WP.sub [(0, _), (1, _), (4, _), (5, _), (6, _), (7, _), (8, _), (21, _), (36, _)] ?_ ⟨rfl, rfl, rfl, rfl, rfl, rfl, rfl, rfl, rfl, trivial⟩
    refine WP.next ?_
    refine WP.condF rfl ?_
    refine WP.skip ?_
    refine WP.next ?_
    refine WP.seq ?_
    refine WP.region [0, 1, 2] rfl ?_
    refine WP.vl rfl (Yld.lda rfl ty_ag_52 rfl rfl) ?_
    refine WP.loud rfl rfl ?_
    refine Op.sA rfl rfl ty_sz_52 rfl rfl rfl (ptV_one (by obtain ⟨A', c', e, _⟩ := hva; exact ⟨_, _, _, e⟩)) rfl ?_
    refine WP.mv rfl rfl ?_
    refine WP.nil ?_
    refine WP.sub [(0, _), (1, _), (4, _), (5, _), (6, _), (7, _), (8, _), (21, _), (36, _)] ?_ ⟨rfl, rfl, rfl, rfl, rfl, rfl, rfl, rfl, rfl, trivial⟩
    refine WP.next ?_
    refine WP.ret ?_
    refine WP.fn .ret (.inr rfl) (resT (rs := [.cell 4 52, .tmp 5]) (vs := [_, _]) rfl ⟨⟨_, _, _, _, rfl, (by repeat (first | exact There.h | exact There.i (by assumption) | apply There.t | apply There.s)), .inl ⟨ty_ag_52, by rfl, rfl⟩⟩, rfl, trivial⟩ rfl) ((s, row 108 (sgV d g)) :: L) (Imm.le_trans hJ2 hJ3) ?_
    have e : pstand x n g p = _ := if_neg (by omega)
    cases hpd : pdec (x.read n (psec g p : Int) 4).1 with
    | none => rw [hpd] at hp; exact absurd hp (by decide)
    | some r =>
     rw [hpd] at e hq; simp only [Option.getD_some] at hq
     have e2 : pstand x n g p = (r, 0) := e.trans (if_pos (by omega))
     rw [e2]; rw [hpd] at hva; exact ⟨_, rfl, ⟨_, rfl, hva⟩, rfl⟩

theorem seg_Read {I : Imm} {s d n : Nat} {g : Sg} {x : Dk} {L : Chunks} (hd : IsDisk d n x L) (hg : g.ok n) {p : Nat} (hp8 : p ≤ 1152921504606846976) : Spec Try.prog 15 [.pointer (some ⟨s, 0, none⟩), .int .i64 (p : Int)] I ((s, row 108 (sgV d g)) :: L) (fun v J L' => ∃ cs, v = .tuple #[.agg cs.toArray, .int .i64 (pread x n g p).2] ∧ RPt J (pread x n g p).1 cs ∧ L' = (s, row 108 (sgV d g)) :: L) := by
 refine Spec.of Try.func15 rfl Try.ntmps15 (Nat.le_of_ble_eq_true rfl) (fun F => ?_)
 try simp only [nf]
 dsimp only [argsEnv]
 refine WP.seq ?_
 refine WP.region [0, 1] rfl ?_
 refine WP.loud rfl rfl ?_
 refine Op.alloc rfl rfl rfl ty_zr_52 (fun b4 => ?_)
 refine WP.mv rfl rfl ?_
 refine WP.nil ?_
 refine WP.next ?_
 refine WP.seq ?_
 refine WP.seq ?_
 refine WP.region [0, 1, 2, 3] rfl ?_
 iterate 2 refine WP.mv rfl rfl ?_
 refine WP.loud rfl rfl ?_
 refine Op.cl (seg_has (d := d) (p := (p : Int)) hg) rfl Try.func41 rfl rfl rfl rfl ?_
 rintro v J L1 - ⟨rfl, rfl, rfl⟩
 try simp only [nf]
 by_cases hh : (decide (phas g (p : Int))) = true
 ·rw [hh]
  refine WP.vl rfl (Yld.not rfl rfl) ?_
  refine WP.nil ?_
  refine WP.sub [(0, _), (1, _), (4, _), (5, _), (9, _)] ?_ ⟨rfl, rfl, rfl, rfl, rfl, trivial⟩
  refine WP.next ?_
  refine WP.condF rfl ?_
  refine WP.skip ?_
  refine WP.next ?_
  refine WP.seq ?_
  refine WP.region [0, 1, 2, 3, 4, 5, 6] rfl ?_
  iterate 2 refine WP.mv rfl rfl ?_
  refine WP.loud rfl rfl ?_
  refine Op.cl (seg_stands hd hg hp8) rfl Try.func42 rfl rfl rfl rfl ?_
  rintro v J3 L1 hJ3 ⟨cs, rfl, hcs, rfl⟩
  try simp only [nf]
  obtain ⟨va, rfl, hva⟩ := hcs
  refine WP.vl rfl (Yld.extract rfl rfl rfl) ?_
  refine WP.vl rfl (Yld.extract rfl rfl rfl) ?_
  refine WP.loud rfl rfl ?_
  refine Op.sA rfl rfl ty_sz_52 rfl rfl rfl (ptV_one (by obtain ⟨A', c', e, _⟩ := hva; exact ⟨_, _, _, e⟩)) rfl ?_
  refine WP.mv rfl rfl ?_
  refine WP.nil ?_
  refine WP.sub [(0, _), (1, _), (4, _), (5, _), (9, _)] ?_ ⟨rfl, rfl, rfl, rfl, rfl, trivial⟩
  refine WP.next ?_
  refine WP.ret ?_
  refine WP.fn .ret (.inr rfl) (resT (rs := [.cell 4 52, .tmp 5]) (vs := [_, _]) rfl ⟨⟨_, _, _, _, rfl, (by repeat (first | exact There.h | exact There.i (by assumption) | apply There.t | apply There.s)), .inl ⟨ty_ag_52, by rfl, rfl⟩⟩, rfl, trivial⟩ rfl) ((s, row 108 (sgV d g)) :: L) hJ3 ?_
  have e : pread x n g p = pstand x n g p := if_pos (of_decide_eq_true hh)
  rw [e]; exact ⟨_, rfl, ⟨_, rfl, hva⟩, rfl⟩
 ·have hh : (decide (phas g (p : Int))) = false := eq_false_of_ne_true hh
  rw [hh]
  refine WP.vl rfl (Yld.not rfl rfl) ?_
  refine WP.nil ?_
  refine WP.sub [(0, _), (1, _), (4, _), (5, _), (9, _)] ?_ ⟨rfl, rfl, rfl, rfl, rfl, trivial⟩
  refine WP.next ?_
  refine WP.condT rfl ?_
  refine WP.seq ?_
  refine WP.region [0, 1, 2] rfl ?_
  refine WP.vl rfl (Yld.buildS (pl := []) rfl ty_zr_52 ty_zd_52 (by kernel_rfl) rfl (vs := []) rfl (segs := []) rfl rfl (by repeat (first | exact SetSeg.nil | apply SetSeg.one | exact SetAt.zero | apply SetAt.succ))) ?_
  refine WP.loud rfl rfl ?_
  refine Op.sA rfl rfl ty_sz_52 rfl rfl rfl rfl rfl ?_
  refine WP.mv rfl rfl ?_
  refine WP.nil ?_
  refine WP.sub [(0, _), (1, _), (4, _), (5, _), (9, _)] ?_ ⟨rfl, rfl, rfl, rfl, rfl, trivial⟩
  refine WP.next ?_
  refine WP.ret ?_
  refine WP.fn .ret (.inr rfl) (resT (rs := [.cell 4 52, .tmp 5]) (vs := [_, _]) rfl ⟨⟨_, _, _, _, rfl, (by repeat (first | exact There.h | exact There.i (by assumption) | apply There.t | apply There.s)), .inl ⟨ty_ag_52, by rfl, rfl⟩⟩, rfl, trivial⟩ rfl) ((s, row 108 (sgV d g)) :: L) (Imm.le_refl _) ?_
  have e : pread x n g p = (ptZ, 1) := if_neg (of_decide_eq_false hh)
  rw [e]; exact ⟨_, rfl, RPt.zero _, rfl⟩


end Go.Hp
