import Derived.Test.YtcnfcdlapbjgeaaSegC
set_option linter.unusedVariables false
set_option linter.unusedSimpArgs false
namespace Go.Hp
open Go Go.Proofs
set_option maxHeartbeats 4000000 in
theorem seg_Encode {I : Imm} {p : Pt} {v : Value} (hv : SlRd (Im I) v p.data.length 1 (bytesV p.data)) : Spec Try.prog 64 [.agg (ptV p v).toArray] I [] (fun v J L => (p.may ∧ ∃ vb, v = .tuple #[vb, .int .i64 0] ∧ Own 5 1 vb (bytesV (penc p)) (penc p).length L) ∨ (¬ p.may ∧ v = .tuple #[.slice none 0 0, .int .i64 70] ∧ I = J ∧ L = [])) := by
 obtain ⟨Av, cv, rfl, _, _, _⟩ := id hv
 have hle : I.le I := Imm.le_refl _
 refine Spec.of Try.func64 rfl Try.ntmps64 (Nat.le_of_ble_eq_true rfl) (fun F => ?_)
 try simp only [nf]
 dsimp only [argsEnv]
 refine WP.seq ?_
 refine WP.region [0, 1, 2] rfl ?_
 refine WP.loud rfl rfl ?_
 refine Op.box rfl rfl rfl rfl rfl (fun b1 => ?_)
 iterate 2 refine WP.mv rfl rfl ?_
 refine WP.nil ?_
 refine WP.next ?_
 refine WP.seq ?_
 refine WP.seq ?_
 refine WP.region [0, 1, 2] rfl ?_
 refine WP.vl rfl (Yld.lda rfl ty_ag_52 rfl rfl) ?_
 refine WP.loud rfl rfl ?_
 refine Op.cl (seg_may hv) rfl Try.func50 rfl rfl rfl rfl ?_
 rintro v J L1 - ⟨bm, rfl, hbm, rfl, rfl⟩
 try simp only [nf]
 by_cases hbt : bm = true
 ·rw [hbt]
  refine WP.vl rfl (Yld.not rfl rfl) ?_
  refine WP.nil ?_
  refine WP.sub [(0, _), (1, _), (2, _), (3, _), (11, _)] ?_ ⟨rfl, rfl, rfl, rfl, rfl, trivial⟩
  refine WP.next ?_
  refine WP.condF rfl ?_
  refine WP.skip ?_
  refine WP.next ?_
  refine WP.seq ?_
  have hm := hbm.1 hbt
  have hl := hm.len
  refine WP.region [0, 1] rfl ?_
  refine WP.loud rfl rfl ?_
  refine Op.make (l := 220) (c := 220) rfl ty_sl_46 ty_el_46 rfl rfl rfl rfl rfl (Nat.le_refl _) (by decide) (by decide) (fun b4 => ?_)
  rw [bytes0']
  refine WP.mv rfl rfl ?_
  refine WP.nil ?_
  refine WP.sub [(0, _), (1, _), (2, _), (3, _), (4, _), (11, _)] ?_ ⟨rfl, rfl, rfl, rfl, rfl, rfl, trivial⟩
  refine WP.next ?_
  refine WP.cut (X := Imm) (fun _ : Imm => [(1, .pointer (some ⟨b1, 0, none⟩)), (4, .slice (some ⟨b4, 0, none⟩) 220 220)]) (fun J => J) (fun _ : Imm => (b1, row 52 (ptV p (.slice Av p.data.length cv))) :: ((b4, row 5 (bytesV (pin p))) :: F)) (fun J => I.le J) ?_ ?_
  ·skip
   refine WD.start Trymixed 26 (fun b o => b = b1 ∧ o = row 52 (ptV p (.slice Av p.data.length cv))) (fun _ _ => False) (by rintro _ _ ⟨rfl, rfl⟩; exact (by repeat (first | exact There.h | exact There.i (by assumption) | apply There.t | apply There.s))) (fun _ _ h => h.elim) 27 [false, false, false, false, false, false, false, false, false, false, false, false, false, false, false, false, false, false, false, false, false, false, false, false, false, false, false] rfl rfl ?_
   refine WD.val (i := 0) rfl rfl rfl rfl (by kernel_rfl) rfl (Yld.move rfl rfl) ?_
   refine WD.val (i := 3) rfl rfl rfl rfl (by kernel_rfl) rfl (Yld.fieldAddr rfl ty_fd_52_4 rfl) ?_
   refine WD.val1 (i := 4) rfl rfl rfl rfl (by kernel_rfl) rfl (by kernel_rfl) (Yld.load rfl ty_sc_3 rfl (.inl ⟨rfl, rfl⟩) rfl) ?_
   refine WD.val (i := 6) rfl rfl rfl rfl (by kernel_rfl) rfl (Yld.fieldAddr rfl ty_fd_52_2 rfl) ?_
   refine WD.val1 (i := 7) rfl rfl rfl rfl (by kernel_rfl) rfl (by kernel_rfl) (Yld.load rfl ty_sc_3 rfl (.inl ⟨rfl, rfl⟩) rfl) ?_
   refine WD.val (i := 9) rfl rfl rfl rfl (by kernel_rfl) rfl (Yld.fieldAddr rfl ty_fd_52_5 rfl) ?_
   refine WD.val1 (i := 10) rfl rfl rfl rfl (by kernel_rfl) rfl (by kernel_rfl) (Yld.load (v := .slice Av p.data.length cv) rfl ty_sc_46 rfl (.inl ⟨rfl, rfl⟩) rfl) ?_
   refine WD.val (i := 11) rfl rfl rfl rfl (by kernel_rfl) rfl (Yld.len rfl ty_sl_46 rfl) ?_
   refine WD.val (i := 13) rfl rfl rfl rfl (by kernel_rfl) rfl (Yld.fieldAddr rfl ty_fd_52_1 rfl) ?_
   refine WD.val1 (i := 14) rfl rfl rfl rfl (by kernel_rfl) rfl (by kernel_rfl) (Yld.load rfl ty_sc_3 rfl (.inl ⟨rfl, rfl⟩) rfl) ?_
   refine WD.val (i := 16) rfl rfl rfl rfl (by kernel_rfl) rfl (Yld.fieldAddr rfl ty_fd_52_0 rfl) ?_
   refine WD.val1 (i := 17) rfl rfl rfl rfl (by kernel_rfl) rfl (by kernel_rfl) (Yld.load rfl ty_sc_3 rfl (.inl ⟨rfl, rfl⟩) rfl) ?_
   refine WD.val (i := 19) rfl rfl rfl rfl (by kernel_rfl) rfl (Yld.fieldAddr rfl ty_fd_52_3 rfl) ?_
   refine WD.val1 (i := 20) rfl rfl rfl rfl (by kernel_rfl) rfl (by kernel_rfl) (Yld.load rfl ty_sc_3 rfl (.inl ⟨rfl, rfl⟩) rfl) ?_
   refine WD.val (i := 22) rfl rfl rfl rfl (by kernel_rfl) rfl (Yld.fieldAddr rfl ty_fd_52_5 rfl) ?_
   refine WD.val1 (i := 23) rfl rfl rfl rfl (by kernel_rfl) rfl (by kernel_rfl) (Yld.load (v := .slice Av p.data.length cv) rfl ty_sc_46 rfl (.inl ⟨rfl, rfl⟩) rfl) ?_
   refine WD.both (i := 1) (j := 5) (by kernel_rfl) rfl rfl ?_ ?_
   ·refine WP.oper rfl rfl ?_
    refine Op.buildSlice rfl ty_sl_46 ty_el2_46 rfl rfl rfl rfl (vs := [_, _]) rfl (segs := [(0, [_]), (1, [_])]) (cs := bytesV [80, 66]) rfl rfl (by repeat (first | exact SetSeg.nil | apply SetSeg.one | exact SetAt.zero | apply SetAt.succ)) (fun bz => ?_)
    refine WD.gR ?_
    refine WD.both (i := 2) (j := 5) (by kernel_rfl) rfl rfl ?_ ?_
    ·refine WP.oper rfl rfl ?_
     refine Op.mark (cs := bytesV [80, 66]) rfl Try.underlying46 (by kernel_rfl) rfl rfl rfl (by repeat (first | exact Rm.chunk | exact Rm.here | exact Rm.nil0 | apply Rm.skip | apply Rm.skipS)) (fun Jn hJn hmz => ?_)
     replace hle := Imm.le_trans hle hJn
     replace hv := hv.mono (fun b o h => hJn.2 b o h)
     try replace hb5 := hJn.2 _ _ hb5
     try replace hb8 := hJn.2 _ _ hb8
     try replace hb12 := hJn.2 _ _ hb12
     try replace hb15 := hJn.2 _ _ hb15
     try replace hb18 := hJn.2 _ _ hb18
     try replace hb21 := hJn.2 _ _ hb21
     refine WD.gR ?_
     refine WD.loud (i := 5) (by kernel_rfl) rfl rfl rfl ?_
     refine Op.cl (super_putI (k := 1) ⟨by decide, by decide⟩ ⟨by have := hm.parts; omega, by have := hm.parts; omega⟩) rfl Try.func69 rfl rfl rfl rfl ?_
     rintro v J L1 - ⟨b5, rfl, rfl, rfl⟩
     try simp only [nf]
     refine WP.share (fun Jn hJn hb5 => ?_)
     replace hle := Imm.le_trans hle hJn
     replace hv := hv.mono (fun b o h => hJn.2 b o h)
     try replace hb8 := hJn.2 _ _ hb8
     try replace hb12 := hJn.2 _ _ hb12
     try replace hb15 := hJn.2 _ _ hb15
     try replace hb18 := hJn.2 _ _ hb18
     try replace hb21 := hJn.2 _ _ hb21
     try replace hmz := mark_mono hJn hmz
     refine WD.gR ?_
     refine WD.loud (i := 8) (by kernel_rfl) rfl rfl rfl ?_
     refine Op.cl (super_putI (k := 1) ⟨by decide, by decide⟩ ⟨hm.index.1, by have := hm.index; have := hm.parts; omega⟩) rfl Try.func69 rfl rfl rfl rfl ?_
     rintro v J L1 - ⟨b8, rfl, rfl, rfl⟩
     try simp only [nf]
     refine WP.share (fun Jn hJn hb8 => ?_)
     replace hle := Imm.le_trans hle hJn
     replace hv := hv.mono (fun b o h => hJn.2 b o h)
     try replace hb5 := hJn.2 _ _ hb5
     try replace hb12 := hJn.2 _ _ hb12
     try replace hb15 := hJn.2 _ _ hb15
     try replace hb18 := hJn.2 _ _ hb18
     try replace hb21 := hJn.2 _ _ hb21
     try replace hmz := mark_mono hJn hmz
     refine WD.gR ?_
     refine WD.loud (i := 12) (by kernel_rfl) rfl rfl rfl ?_
     refine Op.cl (super_put (m := p.data.length) (k := 2) ⟨by decide, by decide⟩ (by omega)) rfl Try.func69 rfl rfl rfl rfl ?_
     rintro v J L1 - ⟨b12, rfl, rfl, rfl⟩
     try simp only [nf]
     refine WP.share (fun Jn hJn hb12 => ?_)
     replace hle := Imm.le_trans hle hJn
     replace hv := hv.mono (fun b o h => hJn.2 b o h)
     try replace hb5 := hJn.2 _ _ hb5
     try replace hb8 := hJn.2 _ _ hb8
     try replace hb15 := hJn.2 _ _ hb15
     try replace hb18 := hJn.2 _ _ hb18
     try replace hb21 := hJn.2 _ _ hb21
     try replace hmz := mark_mono hJn hmz
     refine WD.gR ?_
     refine WD.loud (i := 15) (by kernel_rfl) rfl rfl rfl ?_
     refine Op.cl (super_putI (k := 6) ⟨by decide, by decide⟩ ⟨by have := hm.no; omega, by have := hm.no; omega⟩) rfl Try.func69 rfl rfl rfl rfl ?_
     rintro v J L1 - ⟨b15, rfl, rfl, rfl⟩
     try simp only [nf]
     refine WP.share (fun Jn hJn hb15 => ?_)
     replace hle := Imm.le_trans hle hJn
     replace hv := hv.mono (fun b o h => hJn.2 b o h)
     try replace hb5 := hJn.2 _ _ hb5
     try replace hb8 := hJn.2 _ _ hb8
     try replace hb12 := hJn.2 _ _ hb12
     try replace hb18 := hJn.2 _ _ hb18
     try replace hb21 := hJn.2 _ _ hb21
     try replace hmz := mark_mono hJn hmz
     refine WD.gR ?_
     refine WD.loud (i := 18) (by kernel_rfl) rfl rfl rfl ?_
     refine Op.cl (super_putI (k := 6) ⟨by decide, by decide⟩ ⟨by have := hm.place; omega, by have := hm.place; omega⟩) rfl Try.func69 rfl rfl rfl rfl ?_
     rintro v J L1 - ⟨b18, rfl, rfl, rfl⟩
     try simp only [nf]
     refine WP.share (fun Jn hJn hb18 => ?_)
     replace hle := Imm.le_trans hle hJn
     replace hv := hv.mono (fun b o h => hJn.2 b o h)
     try replace hb5 := hJn.2 _ _ hb5
     try replace hb8 := hJn.2 _ _ hb8
     try replace hb12 := hJn.2 _ _ hb12
     try replace hb15 := hJn.2 _ _ hb15
     try replace hb21 := hJn.2 _ _ hb21
     try replace hmz := mark_mono hJn hmz
     refine WD.gR ?_
     refine WD.loud (i := 21) (by kernel_rfl) rfl rfl rfl ?_
     refine Op.cl (super_putI (k := 4) ⟨by decide, by decide⟩ ⟨by have := hm.era; omega, by have := hm.era; omega⟩) rfl Try.func69 rfl rfl rfl rfl ?_
     rintro v J L1 - ⟨b21, rfl, rfl, rfl⟩
     try simp only [nf]
     refine WP.share (fun Jn hJn hb21 => ?_)
     replace hle := Imm.le_trans hle hJn
     replace hv := hv.mono (fun b o h => hJn.2 b o h)
     try replace hb5 := hJn.2 _ _ hb5
     try replace hb8 := hJn.2 _ _ hb8
     try replace hb12 := hJn.2 _ _ hb12
     try replace hb15 := hJn.2 _ _ hb15
     try replace hb18 := hJn.2 _ _ hb18
     try replace hmz := mark_mono hJn hmz
     refine WD.gR ?_
     refine WD.loud (i := 24) (by kernel_rfl) rfl rfl rfl ?_
     refine Op.buildSlice rfl ty_sl_22 ty_el2_22 rfl rfl rfl rfl (vs := [_, _, _, _, _, _, _, _]) rfl (segs := [(0, [_]), (1, [_]), (2, [_]), (3, [_]), (4, [_]), (5, [_]), (6, [_]), (7, [_])]) (cs := ([(.slice (some ⟨bz, 0, none⟩) 2 2, [80, 66]), (.slice (some ⟨b5, 0, none⟩) 1 1, leB p.parts.toNat 1), (.slice (some ⟨b8, 0, none⟩) 1 1, leB p.index.toNat 1), (.slice (some ⟨b12, 0, none⟩) 2 2, leB p.data.length 2), (.slice (some ⟨b15, 0, none⟩) 6 6, leB p.no.toNat 6), (.slice (some ⟨b18, 0, none⟩) 6 6, leB p.place.toNat 6), (.slice (some ⟨b21, 0, none⟩) 4 4, leB p.era.toNat 4), (.slice Av p.data.length cv, p.data)] : List (Value × List UInt8)).map (·.1)) rfl rfl (by repeat (first | exact SetSeg.nil | apply SetSeg.one | exact SetAt.zero | apply SetAt.succ)) (fun bx => ?_)
     refine WD.gR ?_
     refine WD.loud (i := 25) (by kernel_rfl) rfl rfl rfl ?_
     refine Op.cl (seg_cat hmz hb5 hb8 hb12 hb15 hb18 hb21 hv hl.2) rfl Try.func68 rfl rfl rfl rfl ?_
     rintro v J Lo - ⟨rfl, hown⟩
     try simp only [nf]
     refine WD.gR ?_
     refine WD.loud (i := 26) (by kernel_rfl) rfl rfl rfl ?_
     refine Op.copyB (k := 0) (m := 220) (m2 := 22 + p.data.length) (q := 22 + p.data.length) (old := List.replicate 220 0) (new := pin p) (s := phead p ++ p.data) rfl ty_sl_46 rfl rfl rfl rfl (SlAt.blk (Nat.le_refl _)) (hown.rd (by intro p hp; simp [hp])) (Nat.min_eq_left (by omega)) (by rw [List.length_replicate]; omega) (pin_lay hl.2) (by repeat (first | exact Upd.head | apply Upd.tail | apply Upd.tailS)) ?_
     refine WD.go (.inl rfl) (fun _ _ h => h.elim) ?_
     refine WD.done (by kernel_rfl) ?_
     refine WP.sub [(0, _), (1, _), (2, _), (3, _), (4, _), (11, _)] ?_ ⟨rfl, rfl, rfl, rfl, rfl, rfl, trivial⟩
     exact WP.mt Jn hle ⟨rfl, rfl, trivial⟩ rfl
    ·refine WP.oper rfl rfl ?_
     refine Op.cl (super_putI (k := 1) ⟨by decide, by decide⟩ ⟨by have := hm.parts; omega, by have := hm.parts; omega⟩) rfl Try.func69 rfl rfl rfl rfl ?_
     rintro v J L1 - ⟨b5, rfl, rfl, rfl⟩
     try simp only [nf]
     refine WP.share (fun Jn hJn hb5 => ?_)
     replace hle := Imm.le_trans hle hJn
     replace hv := hv.mono (fun b o h => hJn.2 b o h)
     try replace hb8 := hJn.2 _ _ hb8
     try replace hb12 := hJn.2 _ _ hb12
     try replace hb15 := hJn.2 _ _ hb15
     try replace hb18 := hJn.2 _ _ hb18
     try replace hb21 := hJn.2 _ _ hb21
     try replace hmz := mark_mono hJn hmz
     refine WD.gR ?_
     refine WD.both (i := 2) (j := 8) (by kernel_rfl) rfl rfl ?_ ?_
     ·refine WP.oper rfl rfl ?_
      refine Op.mark (cs := bytesV [80, 66]) rfl Try.underlying46 (by kernel_rfl) rfl rfl rfl (by repeat (first | exact Rm.chunk | exact Rm.here | exact Rm.nil0 | apply Rm.skip | apply Rm.skipS)) (fun Jn hJn hmz => ?_)
      replace hle := Imm.le_trans hle hJn
      replace hv := hv.mono (fun b o h => hJn.2 b o h)
      try replace hb5 := hJn.2 _ _ hb5
      try replace hb8 := hJn.2 _ _ hb8
      try replace hb12 := hJn.2 _ _ hb12
      try replace hb15 := hJn.2 _ _ hb15
      try replace hb18 := hJn.2 _ _ hb18
      try replace hb21 := hJn.2 _ _ hb21
      refine WD.gR ?_
      refine WD.loud (i := 8) (by kernel_rfl) rfl rfl rfl ?_
      refine Op.cl (super_putI (k := 1) ⟨by decide, by decide⟩ ⟨hm.index.1, by have := hm.index; have := hm.parts; omega⟩) rfl Try.func69 rfl rfl rfl rfl ?_
      rintro v J L1 - ⟨b8, rfl, rfl, rfl⟩
      try simp only [nf]
      refine WP.share (fun Jn hJn hb8 => ?_)
      replace hle := Imm.le_trans hle hJn
      replace hv := hv.mono (fun b o h => hJn.2 b o h)
      try replace hb5 := hJn.2 _ _ hb5
      try replace hb12 := hJn.2 _ _ hb12
      try replace hb15 := hJn.2 _ _ hb15
      try replace hb18 := hJn.2 _ _ hb18
      try replace hb21 := hJn.2 _ _ hb21
      try replace hmz := mark_mono hJn hmz
      refine WD.gR ?_
      refine WD.loud (i := 12) (by kernel_rfl) rfl rfl rfl ?_
      refine Op.cl (super_put (m := p.data.length) (k := 2) ⟨by decide, by decide⟩ (by omega)) rfl Try.func69 rfl rfl rfl rfl ?_
      rintro v J L1 - ⟨b12, rfl, rfl, rfl⟩
      try simp only [nf]
      refine WP.share (fun Jn hJn hb12 => ?_)
      replace hle := Imm.le_trans hle hJn
      replace hv := hv.mono (fun b o h => hJn.2 b o h)
      try replace hb5 := hJn.2 _ _ hb5
      try replace hb8 := hJn.2 _ _ hb8
      try replace hb15 := hJn.2 _ _ hb15
      try replace hb18 := hJn.2 _ _ hb18
      try replace hb21 := hJn.2 _ _ hb21
      try replace hmz := mark_mono hJn hmz
      refine WD.gR ?_
      refine WD.loud (i := 15) (by kernel_rfl) rfl rfl rfl ?_
      refine Op.cl (super_putI (k := 6) ⟨by decide, by decide⟩ ⟨by have := hm.no; omega, by have := hm.no; omega⟩) rfl Try.func69 rfl rfl rfl rfl ?_
      rintro v J L1 - ⟨b15, rfl, rfl, rfl⟩
      try simp only [nf]
      refine WP.share (fun Jn hJn hb15 => ?_)
      replace hle := Imm.le_trans hle hJn
      replace hv := hv.mono (fun b o h => hJn.2 b o h)
      try replace hb5 := hJn.2 _ _ hb5
      try replace hb8 := hJn.2 _ _ hb8
      try replace hb12 := hJn.2 _ _ hb12
      try replace hb18 := hJn.2 _ _ hb18
      try replace hb21 := hJn.2 _ _ hb21
      try replace hmz := mark_mono hJn hmz
      refine WD.gR ?_
      refine WD.loud (i := 18) (by kernel_rfl) rfl rfl rfl ?_
      refine Op.cl (super_putI (k := 6) ⟨by decide, by decide⟩ ⟨by have := hm.place; omega, by have := hm.place; omega⟩) rfl Try.func69 rfl rfl rfl rfl ?_
      rintro v J L1 - ⟨b18, rfl, rfl, rfl⟩
      try simp only [nf]
      refine WP.share (fun Jn hJn hb18 => ?_)
      replace hle := Imm.le_trans hle hJn
      replace hv := hv.mono (fun b o h => hJn.2 b o h)
      try replace hb5 := hJn.2 _ _ hb5
      try replace hb8 := hJn.2 _ _ hb8
      try replace hb12 := hJn.2 _ _ hb12
      try replace hb15 := hJn.2 _ _ hb15
      try replace hb21 := hJn.2 _ _ hb21
      try replace hmz := mark_mono hJn hmz
      refine WD.gR ?_
      refine WD.loud (i := 21) (by kernel_rfl) rfl rfl rfl ?_
      refine Op.cl (super_putI (k := 4) ⟨by decide, by decide⟩ ⟨by have := hm.era; omega, by have := hm.era; omega⟩) rfl Try.func69 rfl rfl rfl rfl ?_
      rintro v J L1 - ⟨b21, rfl, rfl, rfl⟩
      try simp only [nf]
      refine WP.share (fun Jn hJn hb21 => ?_)
      replace hle := Imm.le_trans hle hJn
      replace hv := hv.mono (fun b o h => hJn.2 b o h)
      try replace hb5 := hJn.2 _ _ hb5
      try replace hb8 := hJn.2 _ _ hb8
      try replace hb12 := hJn.2 _ _ hb12
      try replace hb15 := hJn.2 _ _ hb15
      try replace hb18 := hJn.2 _ _ hb18
      try replace hmz := mark_mono hJn hmz
      refine WD.gR ?_
      refine WD.loud (i := 24) (by kernel_rfl) rfl rfl rfl ?_
      refine Op.buildSlice rfl ty_sl_22 ty_el2_22 rfl rfl rfl rfl (vs := [_, _, _, _, _, _, _, _]) rfl (segs := [(0, [_]), (1, [_]), (2, [_]), (3, [_]), (4, [_]), (5, [_]), (6, [_]), (7, [_])]) (cs := ([(.slice (some ⟨bz, 0, none⟩) 2 2, [80, 66]), (.slice (some ⟨b5, 0, none⟩) 1 1, leB p.parts.toNat 1), (.slice (some ⟨b8, 0, none⟩) 1 1, leB p.index.toNat 1), (.slice (some ⟨b12, 0, none⟩) 2 2, leB p.data.length 2), (.slice (some ⟨b15, 0, none⟩) 6 6, leB p.no.toNat 6), (.slice (some ⟨b18, 0, none⟩) 6 6, leB p.place.toNat 6), (.slice (some ⟨b21, 0, none⟩) 4 4, leB p.era.toNat 4), (.slice Av p.data.length cv, p.data)] : List (Value × List UInt8)).map (·.1)) rfl rfl (by repeat (first | exact SetSeg.nil | apply SetSeg.one | exact SetAt.zero | apply SetAt.succ)) (fun bx => ?_)
      refine WD.gR ?_
      refine WD.loud (i := 25) (by kernel_rfl) rfl rfl rfl ?_
      refine Op.cl (seg_cat hmz hb5 hb8 hb12 hb15 hb18 hb21 hv hl.2) rfl Try.func68 rfl rfl rfl rfl ?_
      rintro v J Lo - ⟨rfl, hown⟩
      try simp only [nf]
      refine WD.gR ?_
      refine WD.loud (i := 26) (by kernel_rfl) rfl rfl rfl ?_
      refine Op.copyB (k := 0) (m := 220) (m2 := 22 + p.data.length) (q := 22 + p.data.length) (old := List.replicate 220 0) (new := pin p) (s := phead p ++ p.data) rfl ty_sl_46 rfl rfl rfl rfl (SlAt.blk (Nat.le_refl _)) (hown.rd (by intro p hp; simp [hp])) (Nat.min_eq_left (by omega)) (by rw [List.length_replicate]; omega) (pin_lay hl.2) (by repeat (first | exact Upd.head | apply Upd.tail | apply Upd.tailS)) ?_
      refine WD.go (.inl rfl) (fun _ _ h => h.elim) ?_
      refine WD.done (by kernel_rfl) ?_
      refine WP.sub [(0, _), (1, _), (2, _), (3, _), (4, _), (11, _)] ?_ ⟨rfl, rfl, rfl, rfl, rfl, rfl, trivial⟩
      exact WP.mt Jn hle ⟨rfl, rfl, trivial⟩ rfl
     ·refine WP.oper rfl rfl ?_
      refine Op.cl (super_putI (k := 1) ⟨by decide, by decide⟩ ⟨hm.index.1, by have := hm.index; have := hm.parts; omega⟩) rfl Try.func69 rfl rfl rfl rfl ?_
      rintro v J L1 - ⟨b8, rfl, rfl, rfl⟩
      try simp only [nf]
      refine WP.share (fun Jn hJn hb8 => ?_)
      replace hle := Imm.le_trans hle hJn
      replace hv := hv.mono (fun b o h => hJn.2 b o h)
      try replace hb5 := hJn.2 _ _ hb5
      try replace hb12 := hJn.2 _ _ hb12
      try replace hb15 := hJn.2 _ _ hb15
      try replace hb18 := hJn.2 _ _ hb18
      try replace hb21 := hJn.2 _ _ hb21
      try replace hmz := mark_mono hJn hmz
      refine WD.gR ?_
      refine WD.both (i := 2) (j := 12) (by kernel_rfl) rfl rfl ?_ ?_
      ·refine WP.oper rfl rfl ?_
       refine Op.mark (cs := bytesV [80, 66]) rfl Try.underlying46 (by kernel_rfl) rfl rfl rfl (by repeat (first | exact Rm.chunk | exact Rm.here | exact Rm.nil0 | apply Rm.skip | apply Rm.skipS)) (fun Jn hJn hmz => ?_)
       replace hle := Imm.le_trans hle hJn
       replace hv := hv.mono (fun b o h => hJn.2 b o h)
       try replace hb5 := hJn.2 _ _ hb5
       try replace hb8 := hJn.2 _ _ hb8
       try replace hb12 := hJn.2 _ _ hb12
       try replace hb15 := hJn.2 _ _ hb15
       try replace hb18 := hJn.2 _ _ hb18
       try replace hb21 := hJn.2 _ _ hb21
       refine WD.gR ?_
       refine WD.loud (i := 12) (by kernel_rfl) rfl rfl rfl ?_
       refine Op.cl (super_put (m := p.data.length) (k := 2) ⟨by decide, by decide⟩ (by omega)) rfl Try.func69 rfl rfl rfl rfl ?_
       rintro v J L1 - ⟨b12, rfl, rfl, rfl⟩
       try simp only [nf]
       refine WP.share (fun Jn hJn hb12 => ?_)
       replace hle := Imm.le_trans hle hJn
       replace hv := hv.mono (fun b o h => hJn.2 b o h)
       try replace hb5 := hJn.2 _ _ hb5
       try replace hb8 := hJn.2 _ _ hb8
       try replace hb15 := hJn.2 _ _ hb15
       try replace hb18 := hJn.2 _ _ hb18
       try replace hb21 := hJn.2 _ _ hb21
       try replace hmz := mark_mono hJn hmz
       refine WD.gR ?_
       refine WD.loud (i := 15) (by kernel_rfl) rfl rfl rfl ?_
       refine Op.cl (super_putI (k := 6) ⟨by decide, by decide⟩ ⟨by have := hm.no; omega, by have := hm.no; omega⟩) rfl Try.func69 rfl rfl rfl rfl ?_
       rintro v J L1 - ⟨b15, rfl, rfl, rfl⟩
       try simp only [nf]
       refine WP.share (fun Jn hJn hb15 => ?_)
       replace hle := Imm.le_trans hle hJn
       replace hv := hv.mono (fun b o h => hJn.2 b o h)
       try replace hb5 := hJn.2 _ _ hb5
       try replace hb8 := hJn.2 _ _ hb8
       try replace hb12 := hJn.2 _ _ hb12
       try replace hb18 := hJn.2 _ _ hb18
       try replace hb21 := hJn.2 _ _ hb21
       try replace hmz := mark_mono hJn hmz
       refine WD.gR ?_
       refine WD.loud (i := 18) (by kernel_rfl) rfl rfl rfl ?_
       refine Op.cl (super_putI (k := 6) ⟨by decide, by decide⟩ ⟨by have := hm.place; omega, by have := hm.place; omega⟩) rfl Try.func69 rfl rfl rfl rfl ?_
       rintro v J L1 - ⟨b18, rfl, rfl, rfl⟩
       try simp only [nf]
       refine WP.share (fun Jn hJn hb18 => ?_)
       replace hle := Imm.le_trans hle hJn
       replace hv := hv.mono (fun b o h => hJn.2 b o h)
       try replace hb5 := hJn.2 _ _ hb5
       try replace hb8 := hJn.2 _ _ hb8
       try replace hb12 := hJn.2 _ _ hb12
       try replace hb15 := hJn.2 _ _ hb15
       try replace hb21 := hJn.2 _ _ hb21
       try replace hmz := mark_mono hJn hmz
       refine WD.gR ?_
       refine WD.loud (i := 21) (by kernel_rfl) rfl rfl rfl ?_
       refine Op.cl (super_putI (k := 4) ⟨by decide, by decide⟩ ⟨by have := hm.era; omega, by have := hm.era; omega⟩) rfl Try.func69 rfl rfl rfl rfl ?_
       rintro v J L1 - ⟨b21, rfl, rfl, rfl⟩
       try simp only [nf]
       refine WP.share (fun Jn hJn hb21 => ?_)
       replace hle := Imm.le_trans hle hJn
       replace hv := hv.mono (fun b o h => hJn.2 b o h)
       try replace hb5 := hJn.2 _ _ hb5
       try replace hb8 := hJn.2 _ _ hb8
       try replace hb12 := hJn.2 _ _ hb12
       try replace hb15 := hJn.2 _ _ hb15
       try replace hb18 := hJn.2 _ _ hb18
       try replace hmz := mark_mono hJn hmz
       refine WD.gR ?_
       refine WD.loud (i := 24) (by kernel_rfl) rfl rfl rfl ?_
       refine Op.buildSlice rfl ty_sl_22 ty_el2_22 rfl rfl rfl rfl (vs := [_, _, _, _, _, _, _, _]) rfl (segs := [(0, [_]), (1, [_]), (2, [_]), (3, [_]), (4, [_]), (5, [_]), (6, [_]), (7, [_])]) (cs := ([(.slice (some ⟨bz, 0, none⟩) 2 2, [80, 66]), (.slice (some ⟨b5, 0, none⟩) 1 1, leB p.parts.toNat 1), (.slice (some ⟨b8, 0, none⟩) 1 1, leB p.index.toNat 1), (.slice (some ⟨b12, 0, none⟩) 2 2, leB p.data.length 2), (.slice (some ⟨b15, 0, none⟩) 6 6, leB p.no.toNat 6), (.slice (some ⟨b18, 0, none⟩) 6 6, leB p.place.toNat 6), (.slice (some ⟨b21, 0, none⟩) 4 4, leB p.era.toNat 4), (.slice Av p.data.length cv, p.data)] : List (Value × List UInt8)).map (·.1)) rfl rfl (by repeat (first | exact SetSeg.nil | apply SetSeg.one | exact SetAt.zero | apply SetAt.succ)) (fun bx => ?_)
       refine WD.gR ?_
       refine WD.loud (i := 25) (by kernel_rfl) rfl rfl rfl ?_
       refine Op.cl (seg_cat hmz hb5 hb8 hb12 hb15 hb18 hb21 hv hl.2) rfl Try.func68 rfl rfl rfl rfl ?_
       rintro v J Lo - ⟨rfl, hown⟩
       try simp only [nf]
       refine WD.gR ?_
       refine WD.loud (i := 26) (by kernel_rfl) rfl rfl rfl ?_
       refine Op.copyB (k := 0) (m := 220) (m2 := 22 + p.data.length) (q := 22 + p.data.length) (old := List.replicate 220 0) (new := pin p) (s := phead p ++ p.data) rfl ty_sl_46 rfl rfl rfl rfl (SlAt.blk (Nat.le_refl _)) (hown.rd (by intro p hp; simp [hp])) (Nat.min_eq_left (by omega)) (by rw [List.length_replicate]; omega) (pin_lay hl.2) (by repeat (first | exact Upd.head | apply Upd.tail | apply Upd.tailS)) ?_
       refine WD.go (.inl rfl) (fun _ _ h => h.elim) ?_
       refine WD.done (by kernel_rfl) ?_
       refine WP.sub [(0, _), (1, _), (2, _), (3, _), (4, _), (11, _)] ?_ ⟨rfl, rfl, rfl, rfl, rfl, rfl, trivial⟩
       exact WP.mt Jn hle ⟨rfl, rfl, trivial⟩ rfl
      ·refine WP.oper rfl rfl ?_
       refine Op.cl (super_put (m := p.data.length) (k := 2) ⟨by decide, by decide⟩ (by omega)) rfl Try.func69 rfl rfl rfl rfl ?_
       rintro v J L1 - ⟨b12, rfl, rfl, rfl⟩
       try simp only [nf]
       refine WP.share (fun Jn hJn hb12 => ?_)
       replace hle := Imm.le_trans hle hJn
       replace hv := hv.mono (fun b o h => hJn.2 b o h)
       try replace hb5 := hJn.2 _ _ hb5
       try replace hb8 := hJn.2 _ _ hb8
       try replace hb15 := hJn.2 _ _ hb15
       try replace hb18 := hJn.2 _ _ hb18
       try replace hb21 := hJn.2 _ _ hb21
       try replace hmz := mark_mono hJn hmz
       refine WD.gR ?_
       refine WD.both (i := 2) (j := 15) (by kernel_rfl) rfl rfl ?_ ?_
       ·refine WP.oper rfl rfl ?_
        refine Op.mark (cs := bytesV [80, 66]) rfl Try.underlying46 (by kernel_rfl) rfl rfl rfl (by repeat (first | exact Rm.chunk | exact Rm.here | exact Rm.nil0 | apply Rm.skip | apply Rm.skipS)) (fun Jn hJn hmz => ?_)
        replace hle := Imm.le_trans hle hJn
        replace hv := hv.mono (fun b o h => hJn.2 b o h)
        try replace hb5 := hJn.2 _ _ hb5
        try replace hb8 := hJn.2 _ _ hb8
        try replace hb12 := hJn.2 _ _ hb12
        try replace hb15 := hJn.2 _ _ hb15
        try replace hb18 := hJn.2 _ _ hb18
        try replace hb21 := hJn.2 _ _ hb21
        refine WD.gR ?_
        refine WD.loud (i := 15) (by kernel_rfl) rfl rfl rfl ?_
        refine Op.cl (super_putI (k := 6) ⟨by decide, by decide⟩ ⟨by have := hm.no; omega, by have := hm.no; omega⟩) rfl Try.func69 rfl rfl rfl rfl ?_
        rintro v J L1 - ⟨b15, rfl, rfl, rfl⟩
        try simp only [nf]
        refine WP.share (fun Jn hJn hb15 => ?_)
        replace hle := Imm.le_trans hle hJn
        replace hv := hv.mono (fun b o h => hJn.2 b o h)
        try replace hb5 := hJn.2 _ _ hb5
        try replace hb8 := hJn.2 _ _ hb8
        try replace hb12 := hJn.2 _ _ hb12
        try replace hb18 := hJn.2 _ _ hb18
        try replace hb21 := hJn.2 _ _ hb21
        try replace hmz := mark_mono hJn hmz
        refine WD.gR ?_
        refine WD.loud (i := 18) (by kernel_rfl) rfl rfl rfl ?_
        refine Op.cl (super_putI (k := 6) ⟨by decide, by decide⟩ ⟨by have := hm.place; omega, by have := hm.place; omega⟩) rfl Try.func69 rfl rfl rfl rfl ?_
        rintro v J L1 - ⟨b18, rfl, rfl, rfl⟩
        try simp only [nf]
        refine WP.share (fun Jn hJn hb18 => ?_)
        replace hle := Imm.le_trans hle hJn
        replace hv := hv.mono (fun b o h => hJn.2 b o h)
        try replace hb5 := hJn.2 _ _ hb5
        try replace hb8 := hJn.2 _ _ hb8
        try replace hb12 := hJn.2 _ _ hb12
        try replace hb15 := hJn.2 _ _ hb15
        try replace hb21 := hJn.2 _ _ hb21
        try replace hmz := mark_mono hJn hmz
        refine WD.gR ?_
        refine WD.loud (i := 21) (by kernel_rfl) rfl rfl rfl ?_
        refine Op.cl (super_putI (k := 4) ⟨by decide, by decide⟩ ⟨by have := hm.era; omega, by have := hm.era; omega⟩) rfl Try.func69 rfl rfl rfl rfl ?_
        rintro v J L1 - ⟨b21, rfl, rfl, rfl⟩
        try simp only [nf]
        refine WP.share (fun Jn hJn hb21 => ?_)
        replace hle := Imm.le_trans hle hJn
        replace hv := hv.mono (fun b o h => hJn.2 b o h)
        try replace hb5 := hJn.2 _ _ hb5
        try replace hb8 := hJn.2 _ _ hb8
        try replace hb12 := hJn.2 _ _ hb12
        try replace hb15 := hJn.2 _ _ hb15
        try replace hb18 := hJn.2 _ _ hb18
        try replace hmz := mark_mono hJn hmz
        refine WD.gR ?_
        refine WD.loud (i := 24) (by kernel_rfl) rfl rfl rfl ?_
        refine Op.buildSlice rfl ty_sl_22 ty_el2_22 rfl rfl rfl rfl (vs := [_, _, _, _, _, _, _, _]) rfl (segs := [(0, [_]), (1, [_]), (2, [_]), (3, [_]), (4, [_]), (5, [_]), (6, [_]), (7, [_])]) (cs := ([(.slice (some ⟨bz, 0, none⟩) 2 2, [80, 66]), (.slice (some ⟨b5, 0, none⟩) 1 1, leB p.parts.toNat 1), (.slice (some ⟨b8, 0, none⟩) 1 1, leB p.index.toNat 1), (.slice (some ⟨b12, 0, none⟩) 2 2, leB p.data.length 2), (.slice (some ⟨b15, 0, none⟩) 6 6, leB p.no.toNat 6), (.slice (some ⟨b18, 0, none⟩) 6 6, leB p.place.toNat 6), (.slice (some ⟨b21, 0, none⟩) 4 4, leB p.era.toNat 4), (.slice Av p.data.length cv, p.data)] : List (Value × List UInt8)).map (·.1)) rfl rfl (by repeat (first | exact SetSeg.nil | apply SetSeg.one | exact SetAt.zero | apply SetAt.succ)) (fun bx => ?_)
        refine WD.gR ?_
        refine WD.loud (i := 25) (by kernel_rfl) rfl rfl rfl ?_
        refine Op.cl (seg_cat hmz hb5 hb8 hb12 hb15 hb18 hb21 hv hl.2) rfl Try.func68 rfl rfl rfl rfl ?_
        rintro v J Lo - ⟨rfl, hown⟩
        try simp only [nf]
        refine WD.gR ?_
        refine WD.loud (i := 26) (by kernel_rfl) rfl rfl rfl ?_
        refine Op.copyB (k := 0) (m := 220) (m2 := 22 + p.data.length) (q := 22 + p.data.length) (old := List.replicate 220 0) (new := pin p) (s := phead p ++ p.data) rfl ty_sl_46 rfl rfl rfl rfl (SlAt.blk (Nat.le_refl _)) (hown.rd (by intro p hp; simp [hp])) (Nat.min_eq_left (by omega)) (by rw [List.length_replicate]; omega) (pin_lay hl.2) (by repeat (first | exact Upd.head | apply Upd.tail | apply Upd.tailS)) ?_
        refine WD.go (.inl rfl) (fun _ _ h => h.elim) ?_
        refine WD.done (by kernel_rfl) ?_
        refine WP.sub [(0, _), (1, _), (2, _), (3, _), (4, _), (11, _)] ?_ ⟨rfl, rfl, rfl, rfl, rfl, rfl, trivial⟩
        exact WP.mt Jn hle ⟨rfl, rfl, trivial⟩ rfl
       ·refine WP.oper rfl rfl ?_
        refine Op.cl (super_putI (k := 6) ⟨by decide, by decide⟩ ⟨by have := hm.no; omega, by have := hm.no; omega⟩) rfl Try.func69 rfl rfl rfl rfl ?_
        rintro v J L1 - ⟨b15, rfl, rfl, rfl⟩
        try simp only [nf]
        refine WP.share (fun Jn hJn hb15 => ?_)
        replace hle := Imm.le_trans hle hJn
        replace hv := hv.mono (fun b o h => hJn.2 b o h)
        try replace hb5 := hJn.2 _ _ hb5
        try replace hb8 := hJn.2 _ _ hb8
        try replace hb12 := hJn.2 _ _ hb12
        try replace hb18 := hJn.2 _ _ hb18
        try replace hb21 := hJn.2 _ _ hb21
        try replace hmz := mark_mono hJn hmz
        refine WD.gR ?_
        refine WD.both (i := 2) (j := 18) (by kernel_rfl) rfl rfl ?_ ?_
        ·refine WP.oper rfl rfl ?_
         refine Op.mark (cs := bytesV [80, 66]) rfl Try.underlying46 (by kernel_rfl) rfl rfl rfl (by repeat (first | exact Rm.chunk | exact Rm.here | exact Rm.nil0 | apply Rm.skip | apply Rm.skipS)) (fun Jn hJn hmz => ?_)
         replace hle := Imm.le_trans hle hJn
         replace hv := hv.mono (fun b o h => hJn.2 b o h)
         try replace hb5 := hJn.2 _ _ hb5
         try replace hb8 := hJn.2 _ _ hb8
         try replace hb12 := hJn.2 _ _ hb12
         try replace hb15 := hJn.2 _ _ hb15
         try replace hb18 := hJn.2 _ _ hb18
         try replace hb21 := hJn.2 _ _ hb21
         refine WD.gR ?_
         refine WD.loud (i := 18) (by kernel_rfl) rfl rfl rfl ?_
         refine Op.cl (super_putI (k := 6) ⟨by decide, by decide⟩ ⟨by have := hm.place; omega, by have := hm.place; omega⟩) rfl Try.func69 rfl rfl rfl rfl ?_
         rintro v J L1 - ⟨b18, rfl, rfl, rfl⟩
         try simp only [nf]
         refine WP.share (fun Jn hJn hb18 => ?_)
         replace hle := Imm.le_trans hle hJn
         replace hv := hv.mono (fun b o h => hJn.2 b o h)
         try replace hb5 := hJn.2 _ _ hb5
         try replace hb8 := hJn.2 _ _ hb8
         try replace hb12 := hJn.2 _ _ hb12
         try replace hb15 := hJn.2 _ _ hb15
         try replace hb21 := hJn.2 _ _ hb21
         try replace hmz := mark_mono hJn hmz
         refine WD.gR ?_
         refine WD.loud (i := 21) (by kernel_rfl) rfl rfl rfl ?_
         refine Op.cl (super_putI (k := 4) ⟨by decide, by decide⟩ ⟨by have := hm.era; omega, by have := hm.era; omega⟩) rfl Try.func69 rfl rfl rfl rfl ?_
         rintro v J L1 - ⟨b21, rfl, rfl, rfl⟩
         try simp only [nf]
         refine WP.share (fun Jn hJn hb21 => ?_)
         replace hle := Imm.le_trans hle hJn
         replace hv := hv.mono (fun b o h => hJn.2 b o h)
         try replace hb5 := hJn.2 _ _ hb5
         try replace hb8 := hJn.2 _ _ hb8
         try replace hb12 := hJn.2 _ _ hb12
         try replace hb15 := hJn.2 _ _ hb15
         try replace hb18 := hJn.2 _ _ hb18
         try replace hmz := mark_mono hJn hmz
         refine WD.gR ?_
         refine WD.loud (i := 24) (by kernel_rfl) rfl rfl rfl ?_
         refine Op.buildSlice rfl ty_sl_22 ty_el2_22 rfl rfl rfl rfl (vs := [_, _, _, _, _, _, _, _]) rfl (segs := [(0, [_]), (1, [_]), (2, [_]), (3, [_]), (4, [_]), (5, [_]), (6, [_]), (7, [_])]) (cs := ([(.slice (some ⟨bz, 0, none⟩) 2 2, [80, 66]), (.slice (some ⟨b5, 0, none⟩) 1 1, leB p.parts.toNat 1), (.slice (some ⟨b8, 0, none⟩) 1 1, leB p.index.toNat 1), (.slice (some ⟨b12, 0, none⟩) 2 2, leB p.data.length 2), (.slice (some ⟨b15, 0, none⟩) 6 6, leB p.no.toNat 6), (.slice (some ⟨b18, 0, none⟩) 6 6, leB p.place.toNat 6), (.slice (some ⟨b21, 0, none⟩) 4 4, leB p.era.toNat 4), (.slice Av p.data.length cv, p.data)] : List (Value × List UInt8)).map (·.1)) rfl rfl (by repeat (first | exact SetSeg.nil | apply SetSeg.one | exact SetAt.zero | apply SetAt.succ)) (fun bx => ?_)
         refine WD.gR ?_
         refine WD.loud (i := 25) (by kernel_rfl) rfl rfl rfl ?_
         refine Op.cl (seg_cat hmz hb5 hb8 hb12 hb15 hb18 hb21 hv hl.2) rfl Try.func68 rfl rfl rfl rfl ?_
         rintro v J Lo - ⟨rfl, hown⟩
         try simp only [nf]
         refine WD.gR ?_
         refine WD.loud (i := 26) (by kernel_rfl) rfl rfl rfl ?_
         refine Op.copyB (k := 0) (m := 220) (m2 := 22 + p.data.length) (q := 22 + p.data.length) (old := List.replicate 220 0) (new := pin p) (s := phead p ++ p.data) rfl ty_sl_46 rfl rfl rfl rfl (SlAt.blk (Nat.le_refl _)) (hown.rd (by intro p hp; simp [hp])) (Nat.min_eq_left (by omega)) (by rw [List.length_replicate]; omega) (pin_lay hl.2) (by repeat (first | exact Upd.head | apply Upd.tail | apply Upd.tailS)) ?_
         refine WD.go (.inl rfl) (fun _ _ h => h.elim) ?_
         refine WD.done (by kernel_rfl) ?_
         refine WP.sub [(0, _), (1, _), (2, _), (3, _), (4, _), (11, _)] ?_ ⟨rfl, rfl, rfl, rfl, rfl, rfl, trivial⟩
         exact WP.mt Jn hle ⟨rfl, rfl, trivial⟩ rfl
        ·refine WP.oper rfl rfl ?_
         refine Op.cl (super_putI (k := 6) ⟨by decide, by decide⟩ ⟨by have := hm.place; omega, by have := hm.place; omega⟩) rfl Try.func69 rfl rfl rfl rfl ?_
         rintro v J L1 - ⟨b18, rfl, rfl, rfl⟩
         try simp only [nf]
         refine WP.share (fun Jn hJn hb18 => ?_)
         replace hle := Imm.le_trans hle hJn
         replace hv := hv.mono (fun b o h => hJn.2 b o h)
         try replace hb5 := hJn.2 _ _ hb5
         try replace hb8 := hJn.2 _ _ hb8
         try replace hb12 := hJn.2 _ _ hb12
         try replace hb15 := hJn.2 _ _ hb15
         try replace hb21 := hJn.2 _ _ hb21
         try replace hmz := mark_mono hJn hmz
         refine WD.gR ?_
         refine WD.both (i := 2) (j := 21) (by kernel_rfl) rfl rfl ?_ ?_
         ·refine WP.oper rfl rfl ?_
          refine Op.mark (cs := bytesV [80, 66]) rfl Try.underlying46 (by kernel_rfl) rfl rfl rfl (by repeat (first | exact Rm.chunk | exact Rm.here | exact Rm.nil0 | apply Rm.skip | apply Rm.skipS)) (fun Jn hJn hmz => ?_)
          replace hle := Imm.le_trans hle hJn
          replace hv := hv.mono (fun b o h => hJn.2 b o h)
          try replace hb5 := hJn.2 _ _ hb5
          try replace hb8 := hJn.2 _ _ hb8
          try replace hb12 := hJn.2 _ _ hb12
          try replace hb15 := hJn.2 _ _ hb15
          try replace hb18 := hJn.2 _ _ hb18
          try replace hb21 := hJn.2 _ _ hb21
          refine WD.gR ?_
          refine WD.loud (i := 21) (by kernel_rfl) rfl rfl rfl ?_
          refine Op.cl (super_putI (k := 4) ⟨by decide, by decide⟩ ⟨by have := hm.era; omega, by have := hm.era; omega⟩) rfl Try.func69 rfl rfl rfl rfl ?_
          rintro v J L1 - ⟨b21, rfl, rfl, rfl⟩
          try simp only [nf]
          refine WP.share (fun Jn hJn hb21 => ?_)
          replace hle := Imm.le_trans hle hJn
          replace hv := hv.mono (fun b o h => hJn.2 b o h)
          try replace hb5 := hJn.2 _ _ hb5
          try replace hb8 := hJn.2 _ _ hb8
          try replace hb12 := hJn.2 _ _ hb12
          try replace hb15 := hJn.2 _ _ hb15
          try replace hb18 := hJn.2 _ _ hb18
          try replace hmz := mark_mono hJn hmz
          refine WD.gR ?_
          refine WD.loud (i := 24) (by kernel_rfl) rfl rfl rfl ?_
          refine Op.buildSlice rfl ty_sl_22 ty_el2_22 rfl rfl rfl rfl (vs := [_, _, _, _, _, _, _, _]) rfl (segs := [(0, [_]), (1, [_]), (2, [_]), (3, [_]), (4, [_]), (5, [_]), (6, [_]), (7, [_])]) (cs := ([(.slice (some ⟨bz, 0, none⟩) 2 2, [80, 66]), (.slice (some ⟨b5, 0, none⟩) 1 1, leB p.parts.toNat 1), (.slice (some ⟨b8, 0, none⟩) 1 1, leB p.index.toNat 1), (.slice (some ⟨b12, 0, none⟩) 2 2, leB p.data.length 2), (.slice (some ⟨b15, 0, none⟩) 6 6, leB p.no.toNat 6), (.slice (some ⟨b18, 0, none⟩) 6 6, leB p.place.toNat 6), (.slice (some ⟨b21, 0, none⟩) 4 4, leB p.era.toNat 4), (.slice Av p.data.length cv, p.data)] : List (Value × List UInt8)).map (·.1)) rfl rfl (by repeat (first | exact SetSeg.nil | apply SetSeg.one | exact SetAt.zero | apply SetAt.succ)) (fun bx => ?_)
          refine WD.gR ?_
          refine WD.loud (i := 25) (by kernel_rfl) rfl rfl rfl ?_
          refine Op.cl (seg_cat hmz hb5 hb8 hb12 hb15 hb18 hb21 hv hl.2) rfl Try.func68 rfl rfl rfl rfl ?_
          rintro v J Lo - ⟨rfl, hown⟩
          try simp only [nf]
          refine WD.gR ?_
          refine WD.loud (i := 26) (by kernel_rfl) rfl rfl rfl ?_
          refine Op.copyB (k := 0) (m := 220) (m2 := 22 + p.data.length) (q := 22 + p.data.length) (old := List.replicate 220 0) (new := pin p) (s := phead p ++ p.data) rfl ty_sl_46 rfl rfl rfl rfl (SlAt.blk (Nat.le_refl _)) (hown.rd (by intro p hp; simp [hp])) (Nat.min_eq_left (by omega)) (by rw [List.length_replicate]; omega) (pin_lay hl.2) (by repeat (first | exact Upd.head | apply Upd.tail | apply Upd.tailS)) ?_
          refine WD.go (.inl rfl) (fun _ _ h => h.elim) ?_
          refine WD.done (by kernel_rfl) ?_
          refine WP.sub [(0, _), (1, _), (2, _), (3, _), (4, _), (11, _)] ?_ ⟨rfl, rfl, rfl, rfl, rfl, rfl, trivial⟩
          exact WP.mt Jn hle ⟨rfl, rfl, trivial⟩ rfl
         ·refine WP.oper rfl rfl ?_
          refine Op.cl (super_putI (k := 4) ⟨by decide, by decide⟩ ⟨by have := hm.era; omega, by have := hm.era; omega⟩) rfl Try.func69 rfl rfl rfl rfl ?_
          rintro v J L1 - ⟨b21, rfl, rfl, rfl⟩
          try simp only [nf]
          refine WP.share (fun Jn hJn hb21 => ?_)
          replace hle := Imm.le_trans hle hJn
          replace hv := hv.mono (fun b o h => hJn.2 b o h)
          try replace hb5 := hJn.2 _ _ hb5
          try replace hb8 := hJn.2 _ _ hb8
          try replace hb12 := hJn.2 _ _ hb12
          try replace hb15 := hJn.2 _ _ hb15
          try replace hb18 := hJn.2 _ _ hb18
          try replace hmz := mark_mono hJn hmz
          refine WD.gR ?_
          refine WD.loud (i := 2) (by kernel_rfl) rfl rfl rfl ?_
          refine Op.mark (cs := bytesV [80, 66]) rfl Try.underlying46 (by kernel_rfl) rfl rfl rfl (by repeat (first | exact Rm.chunk | exact Rm.here | exact Rm.nil0 | apply Rm.skip | apply Rm.skipS)) (fun Jn hJn hmz => ?_)
          replace hle := Imm.le_trans hle hJn
          replace hv := hv.mono (fun b o h => hJn.2 b o h)
          try replace hb5 := hJn.2 _ _ hb5
          try replace hb8 := hJn.2 _ _ hb8
          try replace hb12 := hJn.2 _ _ hb12
          try replace hb15 := hJn.2 _ _ hb15
          try replace hb18 := hJn.2 _ _ hb18
          try replace hb21 := hJn.2 _ _ hb21
          refine WD.gR ?_
          refine WD.loud (i := 24) (by kernel_rfl) rfl rfl rfl ?_
          refine Op.buildSlice rfl ty_sl_22 ty_el2_22 rfl rfl rfl rfl (vs := [_, _, _, _, _, _, _, _]) rfl (segs := [(0, [_]), (1, [_]), (2, [_]), (3, [_]), (4, [_]), (5, [_]), (6, [_]), (7, [_])]) (cs := ([(.slice (some ⟨bz, 0, none⟩) 2 2, [80, 66]), (.slice (some ⟨b5, 0, none⟩) 1 1, leB p.parts.toNat 1), (.slice (some ⟨b8, 0, none⟩) 1 1, leB p.index.toNat 1), (.slice (some ⟨b12, 0, none⟩) 2 2, leB p.data.length 2), (.slice (some ⟨b15, 0, none⟩) 6 6, leB p.no.toNat 6), (.slice (some ⟨b18, 0, none⟩) 6 6, leB p.place.toNat 6), (.slice (some ⟨b21, 0, none⟩) 4 4, leB p.era.toNat 4), (.slice Av p.data.length cv, p.data)] : List (Value × List UInt8)).map (·.1)) rfl rfl (by repeat (first | exact SetSeg.nil | apply SetSeg.one | exact SetAt.zero | apply SetAt.succ)) (fun bx => ?_)
          refine WD.gR ?_
          refine WD.loud (i := 25) (by kernel_rfl) rfl rfl rfl ?_
          refine Op.cl (seg_cat hmz hb5 hb8 hb12 hb15 hb18 hb21 hv hl.2) rfl Try.func68 rfl rfl rfl rfl ?_
          rintro v J Lo - ⟨rfl, hown⟩
          try simp only [nf]
          refine WD.gR ?_
          refine WD.loud (i := 26) (by kernel_rfl) rfl rfl rfl ?_
          refine Op.copyB (k := 0) (m := 220) (m2 := 22 + p.data.length) (q := 22 + p.data.length) (old := List.replicate 220 0) (new := pin p) (s := phead p ++ p.data) rfl ty_sl_46 rfl rfl rfl rfl (SlAt.blk (Nat.le_refl _)) (hown.rd (by intro p hp; simp [hp])) (Nat.min_eq_left (by omega)) (by rw [List.length_replicate]; omega) (pin_lay hl.2) (by repeat (first | exact Upd.head | apply Upd.tail | apply Upd.tailS)) ?_
          refine WD.go (.inl rfl) (fun _ _ h => h.elim) ?_
          refine WD.done (by kernel_rfl) ?_
          refine WP.sub [(0, _), (1, _), (2, _), (3, _), (4, _), (11, _)] ?_ ⟨rfl, rfl, rfl, rfl, rfl, rfl, trivial⟩
          exact WP.mt Jn hle ⟨rfl, rfl, trivial⟩ rfl
   ·refine WP.oper rfl rfl ?_
    refine Op.cl (super_putI (k := 1) ⟨by decide, by decide⟩ ⟨by have := hm.parts; omega, by have := hm.parts; omega⟩) rfl Try.func69 rfl rfl rfl rfl ?_
    rintro v J L1 - ⟨b5, rfl, rfl, rfl⟩
    try simp only [nf]
    refine WP.share (fun Jn hJn hb5 => ?_)
    replace hle := Imm.le_trans hle hJn
    replace hv := hv.mono (fun b o h => hJn.2 b o h)
    try replace hb8 := hJn.2 _ _ hb8
    try replace hb12 := hJn.2 _ _ hb12
    try replace hb15 := hJn.2 _ _ hb15
    try replace hb18 := hJn.2 _ _ hb18
    try replace hb21 := hJn.2 _ _ hb21
    try replace hmz := mark_mono hJn hmz
    refine WD.gR ?_
    refine WD.both (i := 1) (j := 8) (by kernel_rfl) rfl rfl ?_ ?_
    ·refine WP.oper rfl rfl ?_
     refine Op.buildSlice rfl ty_sl_46 ty_el2_46 rfl rfl rfl rfl (vs := [_, _]) rfl (segs := [(0, [_]), (1, [_])]) (cs := bytesV [80, 66]) rfl rfl (by repeat (first | exact SetSeg.nil | apply SetSeg.one | exact SetAt.zero | apply SetAt.succ)) (fun bz => ?_)
     refine WD.gR ?_
     refine WD.both (i := 2) (j := 8) (by kernel_rfl) rfl rfl ?_ ?_
     ·refine WP.oper rfl rfl ?_
      refine Op.mark (cs := bytesV [80, 66]) rfl Try.underlying46 (by kernel_rfl) rfl rfl rfl (by repeat (first | exact Rm.chunk | exact Rm.here | exact Rm.nil0 | apply Rm.skip | apply Rm.skipS)) (fun Jn hJn hmz => ?_)
      replace hle := Imm.le_trans hle hJn
      replace hv := hv.mono (fun b o h => hJn.2 b o h)
      try replace hb5 := hJn.2 _ _ hb5
      try replace hb8 := hJn.2 _ _ hb8
      try replace hb12 := hJn.2 _ _ hb12
      try replace hb15 := hJn.2 _ _ hb15
      try replace hb18 := hJn.2 _ _ hb18
      try replace hb21 := hJn.2 _ _ hb21
      refine WD.gR ?_
      refine WD.loud (i := 8) (by kernel_rfl) rfl rfl rfl ?_
      refine Op.cl (super_putI (k := 1) ⟨by decide, by decide⟩ ⟨hm.index.1, by have := hm.index; have := hm.parts; omega⟩) rfl Try.func69 rfl rfl rfl rfl ?_
      rintro v J L1 - ⟨b8, rfl, rfl, rfl⟩
      try simp only [nf]
      refine WP.share (fun Jn hJn hb8 => ?_)
      replace hle := Imm.le_trans hle hJn
      replace hv := hv.mono (fun b o h => hJn.2 b o h)
      try replace hb5 := hJn.2 _ _ hb5
      try replace hb12 := hJn.2 _ _ hb12
      try replace hb15 := hJn.2 _ _ hb15
      try replace hb18 := hJn.2 _ _ hb18
      try replace hb21 := hJn.2 _ _ hb21
      try replace hmz := mark_mono hJn hmz
      refine WD.gR ?_
      refine WD.loud (i := 12) (by kernel_rfl) rfl rfl rfl ?_
      refine Op.cl (super_put (m := p.data.length) (k := 2) ⟨by decide, by decide⟩ (by omega)) rfl Try.func69 rfl rfl rfl rfl ?_
      rintro v J L1 - ⟨b12, rfl, rfl, rfl⟩
      try simp only [nf]
      refine WP.share (fun Jn hJn hb12 => ?_)
      replace hle := Imm.le_trans hle hJn
      replace hv := hv.mono (fun b o h => hJn.2 b o h)
      try replace hb5 := hJn.2 _ _ hb5
      try replace hb8 := hJn.2 _ _ hb8
      try replace hb15 := hJn.2 _ _ hb15
      try replace hb18 := hJn.2 _ _ hb18
      try replace hb21 := hJn.2 _ _ hb21
      try replace hmz := mark_mono hJn hmz
      refine WD.gR ?_
      refine WD.loud (i := 15) (by kernel_rfl) rfl rfl rfl ?_
      refine Op.cl (super_putI (k := 6) ⟨by decide, by decide⟩ ⟨by have := hm.no; omega, by have := hm.no; omega⟩) rfl Try.func69 rfl rfl rfl rfl ?_
      rintro v J L1 - ⟨b15, rfl, rfl, rfl⟩
      try simp only [nf]
      refine WP.share (fun Jn hJn hb15 => ?_)
      replace hle := Imm.le_trans hle hJn
      replace hv := hv.mono (fun b o h => hJn.2 b o h)
      try replace hb5 := hJn.2 _ _ hb5
      try replace hb8 := hJn.2 _ _ hb8
      try replace hb12 := hJn.2 _ _ hb12
      try replace hb18 := hJn.2 _ _ hb18
      try replace hb21 := hJn.2 _ _ hb21
      try replace hmz := mark_mono hJn hmz
      refine WD.gR ?_
      refine WD.loud (i := 18) (by kernel_rfl) rfl rfl rfl ?_
      refine Op.cl (super_putI (k := 6) ⟨by decide, by decide⟩ ⟨by have := hm.place; omega, by have := hm.place; omega⟩) rfl Try.func69 rfl rfl rfl rfl ?_
      rintro v J L1 - ⟨b18, rfl, rfl, rfl⟩
      try simp only [nf]
      refine WP.share (fun Jn hJn hb18 => ?_)
      replace hle := Imm.le_trans hle hJn
      replace hv := hv.mono (fun b o h => hJn.2 b o h)
      try replace hb5 := hJn.2 _ _ hb5
      try replace hb8 := hJn.2 _ _ hb8
      try replace hb12 := hJn.2 _ _ hb12
      try replace hb15 := hJn.2 _ _ hb15
      try replace hb21 := hJn.2 _ _ hb21
      try replace hmz := mark_mono hJn hmz
      refine WD.gR ?_
      refine WD.loud (i := 21) (by kernel_rfl) rfl rfl rfl ?_
      refine Op.cl (super_putI (k := 4) ⟨by decide, by decide⟩ ⟨by have := hm.era; omega, by have := hm.era; omega⟩) rfl Try.func69 rfl rfl rfl rfl ?_
      rintro v J L1 - ⟨b21, rfl, rfl, rfl⟩
      try simp only [nf]
      refine WP.share (fun Jn hJn hb21 => ?_)
      replace hle := Imm.le_trans hle hJn
      replace hv := hv.mono (fun b o h => hJn.2 b o h)
      try replace hb5 := hJn.2 _ _ hb5
      try replace hb8 := hJn.2 _ _ hb8
      try replace hb12 := hJn.2 _ _ hb12
      try replace hb15 := hJn.2 _ _ hb15
      try replace hb18 := hJn.2 _ _ hb18
      try replace hmz := mark_mono hJn hmz
      refine WD.gR ?_
      refine WD.loud (i := 24) (by kernel_rfl) rfl rfl rfl ?_
      refine Op.buildSlice rfl ty_sl_22 ty_el2_22 rfl rfl rfl rfl (vs := [_, _, _, _, _, _, _, _]) rfl (segs := [(0, [_]), (1, [_]), (2, [_]), (3, [_]), (4, [_]), (5, [_]), (6, [_]), (7, [_])]) (cs := ([(.slice (some ⟨bz, 0, none⟩) 2 2, [80, 66]), (.slice (some ⟨b5, 0, none⟩) 1 1, leB p.parts.toNat 1), (.slice (some ⟨b8, 0, none⟩) 1 1, leB p.index.toNat 1), (.slice (some ⟨b12, 0, none⟩) 2 2, leB p.data.length 2), (.slice (some ⟨b15, 0, none⟩) 6 6, leB p.no.toNat 6), (.slice (some ⟨b18, 0, none⟩) 6 6, leB p.place.toNat 6), (.slice (some ⟨b21, 0, none⟩) 4 4, leB p.era.toNat 4), (.slice Av p.data.length cv, p.data)] : List (Value × List UInt8)).map (·.1)) rfl rfl (by repeat (first | exact SetSeg.nil | apply SetSeg.one | exact SetAt.zero | apply SetAt.succ)) (fun bx => ?_)
      refine WD.gR ?_
      refine WD.loud (i := 25) (by kernel_rfl) rfl rfl rfl ?_
      refine Op.cl (seg_cat hmz hb5 hb8 hb12 hb15 hb18 hb21 hv hl.2) rfl Try.func68 rfl rfl rfl rfl ?_
      rintro v J Lo - ⟨rfl, hown⟩
      try simp only [nf]
      refine WD.gR ?_
      refine WD.loud (i := 26) (by kernel_rfl) rfl rfl rfl ?_
      refine Op.copyB (k := 0) (m := 220) (m2 := 22 + p.data.length) (q := 22 + p.data.length) (old := List.replicate 220 0) (new := pin p) (s := phead p ++ p.data) rfl ty_sl_46 rfl rfl rfl rfl (SlAt.blk (Nat.le_refl _)) (hown.rd (by intro p hp; simp [hp])) (Nat.min_eq_left (by omega)) (by rw [List.length_replicate]; omega) (pin_lay hl.2) (by repeat (first | exact Upd.head | apply Upd.tail | apply Upd.tailS)) ?_
      refine WD.go (.inl rfl) (fun _ _ h => h.elim) ?_
      refine WD.done (by kernel_rfl) ?_
      refine WP.sub [(0, _), (1, _), (2, _), (3, _), (4, _), (11, _)] ?_ ⟨rfl, rfl, rfl, rfl, rfl, rfl, trivial⟩
      exact WP.mt Jn hle ⟨rfl, rfl, trivial⟩ rfl
     ·refine WP.oper rfl rfl ?_
      refine Op.cl (super_putI (k := 1) ⟨by decide, by decide⟩ ⟨hm.index.1, by have := hm.index; have := hm.parts; omega⟩) rfl Try.func69 rfl rfl rfl rfl ?_
      rintro v J L1 - ⟨b8, rfl, rfl, rfl⟩
      try simp only [nf]
      refine WP.share (fun Jn hJn hb8 => ?_)
      replace hle := Imm.le_trans hle hJn
      replace hv := hv.mono (fun b o h => hJn.2 b o h)
      try replace hb5 := hJn.2 _ _ hb5
      try replace hb12 := hJn.2 _ _ hb12
      try replace hb15 := hJn.2 _ _ hb15
      try replace hb18 := hJn.2 _ _ hb18
      try replace hb21 := hJn.2 _ _ hb21
      try replace hmz := mark_mono hJn hmz
      refine WD.gR ?_
      refine WD.both (i := 2) (j := 12) (by kernel_rfl) rfl rfl ?_ ?_
      ·refine WP.oper rfl rfl ?_
       refine Op.mark (cs := bytesV [80, 66]) rfl Try.underlying46 (by kernel_rfl) rfl rfl rfl (by repeat (first | exact Rm.chunk | exact Rm.here | exact Rm.nil0 | apply Rm.skip | apply Rm.skipS)) (fun Jn hJn hmz => ?_)
       replace hle := Imm.le_trans hle hJn
       replace hv := hv.mono (fun b o h => hJn.2 b o h)
       try replace hb5 := hJn.2 _ _ hb5
       try replace hb8 := hJn.2 _ _ hb8
       try replace hb12 := hJn.2 _ _ hb12
       try replace hb15 := hJn.2 _ _ hb15
       try replace hb18 := hJn.2 _ _ hb18
       try replace hb21 := hJn.2 _ _ hb21
       refine WD.gR ?_
       refine WD.loud (i := 12) (by kernel_rfl) rfl rfl rfl ?_
       refine Op.cl (super_put (m := p.data.length) (k := 2) ⟨by decide, by decide⟩ (by omega)) rfl Try.func69 rfl rfl rfl rfl ?_
       rintro v J L1 - ⟨b12, rfl, rfl, rfl⟩
       try simp only [nf]
       refine WP.share (fun Jn hJn hb12 => ?_)
       replace hle := Imm.le_trans hle hJn
       replace hv := hv.mono (fun b o h => hJn.2 b o h)
       try replace hb5 := hJn.2 _ _ hb5
       try replace hb8 := hJn.2 _ _ hb8
       try replace hb15 := hJn.2 _ _ hb15
       try replace hb18 := hJn.2 _ _ hb18
       try replace hb21 := hJn.2 _ _ hb21
       try replace hmz := mark_mono hJn hmz
       refine WD.gR ?_
       refine WD.loud (i := 15) (by kernel_rfl) rfl rfl rfl ?_
       refine Op.cl (super_putI (k := 6) ⟨by decide, by decide⟩ ⟨by have := hm.no; omega, by have := hm.no; omega⟩) rfl Try.func69 rfl rfl rfl rfl ?_
       rintro v J L1 - ⟨b15, rfl, rfl, rfl⟩
       try simp only [nf]
       refine WP.share (fun Jn hJn hb15 => ?_)
       replace hle := Imm.le_trans hle hJn
       replace hv := hv.mono (fun b o h => hJn.2 b o h)
       try replace hb5 := hJn.2 _ _ hb5
       try replace hb8 := hJn.2 _ _ hb8
       try replace hb12 := hJn.2 _ _ hb12
       try replace hb18 := hJn.2 _ _ hb18
       try replace hb21 := hJn.2 _ _ hb21
       try replace hmz := mark_mono hJn hmz
       refine WD.gR ?_
       refine WD.loud (i := 18) (by kernel_rfl) rfl rfl rfl ?_
       refine Op.cl (super_putI (k := 6) ⟨by decide, by decide⟩ ⟨by have := hm.place; omega, by have := hm.place; omega⟩) rfl Try.func69 rfl rfl rfl rfl ?_
       rintro v J L1 - ⟨b18, rfl, rfl, rfl⟩
       try simp only [nf]
       refine WP.share (fun Jn hJn hb18 => ?_)
       replace hle := Imm.le_trans hle hJn
       replace hv := hv.mono (fun b o h => hJn.2 b o h)
       try replace hb5 := hJn.2 _ _ hb5
       try replace hb8 := hJn.2 _ _ hb8
       try replace hb12 := hJn.2 _ _ hb12
       try replace hb15 := hJn.2 _ _ hb15
       try replace hb21 := hJn.2 _ _ hb21
       try replace hmz := mark_mono hJn hmz
       refine WD.gR ?_
       refine WD.loud (i := 21) (by kernel_rfl) rfl rfl rfl ?_
       refine Op.cl (super_putI (k := 4) ⟨by decide, by decide⟩ ⟨by have := hm.era; omega, by have := hm.era; omega⟩) rfl Try.func69 rfl rfl rfl rfl ?_
       rintro v J L1 - ⟨b21, rfl, rfl, rfl⟩
       try simp only [nf]
       refine WP.share (fun Jn hJn hb21 => ?_)
       replace hle := Imm.le_trans hle hJn
       replace hv := hv.mono (fun b o h => hJn.2 b o h)
       try replace hb5 := hJn.2 _ _ hb5
       try replace hb8 := hJn.2 _ _ hb8
       try replace hb12 := hJn.2 _ _ hb12
       try replace hb15 := hJn.2 _ _ hb15
       try replace hb18 := hJn.2 _ _ hb18
       try replace hmz := mark_mono hJn hmz
       refine WD.gR ?_
       refine WD.loud (i := 24) (by kernel_rfl) rfl rfl rfl ?_
       refine Op.buildSlice rfl ty_sl_22 ty_el2_22 rfl rfl rfl rfl (vs := [_, _, _, _, _, _, _, _]) rfl (segs := [(0, [_]), (1, [_]), (2, [_]), (3, [_]), (4, [_]), (5, [_]), (6, [_]), (7, [_])]) (cs := ([(.slice (some ⟨bz, 0, none⟩) 2 2, [80, 66]), (.slice (some ⟨b5, 0, none⟩) 1 1, leB p.parts.toNat 1), (.slice (some ⟨b8, 0, none⟩) 1 1, leB p.index.toNat 1), (.slice (some ⟨b12, 0, none⟩) 2 2, leB p.data.length 2), (.slice (some ⟨b15, 0, none⟩) 6 6, leB p.no.toNat 6), (.slice (some ⟨b18, 0, none⟩) 6 6, leB p.place.toNat 6), (.slice (some ⟨b21, 0, none⟩) 4 4, leB p.era.toNat 4), (.slice Av p.data.length cv, p.data)] : List (Value × List UInt8)).map (·.1)) rfl rfl (by repeat (first | exact SetSeg.nil | apply SetSeg.one | exact SetAt.zero | apply SetAt.succ)) (fun bx => ?_)
       refine WD.gR ?_
       refine WD.loud (i := 25) (by kernel_rfl) rfl rfl rfl ?_
       refine Op.cl (seg_cat hmz hb5 hb8 hb12 hb15 hb18 hb21 hv hl.2) rfl Try.func68 rfl rfl rfl rfl ?_
       rintro v J Lo - ⟨rfl, hown⟩
       try simp only [nf]
       refine WD.gR ?_
       refine WD.loud (i := 26) (by kernel_rfl) rfl rfl rfl ?_
       refine Op.copyB (k := 0) (m := 220) (m2 := 22 + p.data.length) (q := 22 + p.data.length) (old := List.replicate 220 0) (new := pin p) (s := phead p ++ p.data) rfl ty_sl_46 rfl rfl rfl rfl (SlAt.blk (Nat.le_refl _)) (hown.rd (by intro p hp; simp [hp])) (Nat.min_eq_left (by omega)) (by rw [List.length_replicate]; omega) (pin_lay hl.2) (by repeat (first | exact Upd.head | apply Upd.tail | apply Upd.tailS)) ?_
       refine WD.go (.inl rfl) (fun _ _ h => h.elim) ?_
       refine WD.done (by kernel_rfl) ?_
       refine WP.sub [(0, _), (1, _), (2, _), (3, _), (4, _), (11, _)] ?_ ⟨rfl, rfl, rfl, rfl, rfl, rfl, trivial⟩
       exact WP.mt Jn hle ⟨rfl, rfl, trivial⟩ rfl
      ·refine WP.oper rfl rfl ?_
       refine Op.cl (super_put (m := p.data.length) (k := 2) ⟨by decide, by decide⟩ (by omega)) rfl Try.func69 rfl rfl rfl rfl ?_
       rintro v J L1 - ⟨b12, rfl, rfl, rfl⟩
       try simp only [nf]
       refine WP.share (fun Jn hJn hb12 => ?_)
       replace hle := Imm.le_trans hle hJn
       replace hv := hv.mono (fun b o h => hJn.2 b o h)
       try replace hb5 := hJn.2 _ _ hb5
       try replace hb8 := hJn.2 _ _ hb8
       try replace hb15 := hJn.2 _ _ hb15
       try replace hb18 := hJn.2 _ _ hb18
       try replace hb21 := hJn.2 _ _ hb21
       try replace hmz := mark_mono hJn hmz
       refine WD.gR ?_
       refine WD.both (i := 2) (j := 15) (by kernel_rfl) rfl rfl ?_ ?_
       ·refine WP.oper rfl rfl ?_
        refine Op.mark (cs := bytesV [80, 66]) rfl Try.underlying46 (by kernel_rfl) rfl rfl rfl (by repeat (first | exact Rm.chunk | exact Rm.here | exact Rm.nil0 | apply Rm.skip | apply Rm.skipS)) (fun Jn hJn hmz => ?_)
        replace hle := Imm.le_trans hle hJn
        replace hv := hv.mono (fun b o h => hJn.2 b o h)
        try replace hb5 := hJn.2 _ _ hb5
        try replace hb8 := hJn.2 _ _ hb8
        try replace hb12 := hJn.2 _ _ hb12
        try replace hb15 := hJn.2 _ _ hb15
        try replace hb18 := hJn.2 _ _ hb18
        try replace hb21 := hJn.2 _ _ hb21
        refine WD.gR ?_
        refine WD.loud (i := 15) (by kernel_rfl) rfl rfl rfl ?_
        refine Op.cl (super_putI (k := 6) ⟨by decide, by decide⟩ ⟨by have := hm.no; omega, by have := hm.no; omega⟩) rfl Try.func69 rfl rfl rfl rfl ?_
        rintro v J L1 - ⟨b15, rfl, rfl, rfl⟩
        try simp only [nf]
        refine WP.share (fun Jn hJn hb15 => ?_)
        replace hle := Imm.le_trans hle hJn
        replace hv := hv.mono (fun b o h => hJn.2 b o h)
        try replace hb5 := hJn.2 _ _ hb5
        try replace hb8 := hJn.2 _ _ hb8
        try replace hb12 := hJn.2 _ _ hb12
        try replace hb18 := hJn.2 _ _ hb18
        try replace hb21 := hJn.2 _ _ hb21
        try replace hmz := mark_mono hJn hmz
        refine WD.gR ?_
        refine WD.loud (i := 18) (by kernel_rfl) rfl rfl rfl ?_
        refine Op.cl (super_putI (k := 6) ⟨by decide, by decide⟩ ⟨by have := hm.place; omega, by have := hm.place; omega⟩) rfl Try.func69 rfl rfl rfl rfl ?_
        rintro v J L1 - ⟨b18, rfl, rfl, rfl⟩
        try simp only [nf]
        refine WP.share (fun Jn hJn hb18 => ?_)
        replace hle := Imm.le_trans hle hJn
        replace hv := hv.mono (fun b o h => hJn.2 b o h)
        try replace hb5 := hJn.2 _ _ hb5
        try replace hb8 := hJn.2 _ _ hb8
        try replace hb12 := hJn.2 _ _ hb12
        try replace hb15 := hJn.2 _ _ hb15
        try replace hb21 := hJn.2 _ _ hb21
        try replace hmz := mark_mono hJn hmz
        refine WD.gR ?_
        refine WD.loud (i := 21) (by kernel_rfl) rfl rfl rfl ?_
        refine Op.cl (super_putI (k := 4) ⟨by decide, by decide⟩ ⟨by have := hm.era; omega, by have := hm.era; omega⟩) rfl Try.func69 rfl rfl rfl rfl ?_
        rintro v J L1 - ⟨b21, rfl, rfl, rfl⟩
        try simp only [nf]
        refine WP.share (fun Jn hJn hb21 => ?_)
        replace hle := Imm.le_trans hle hJn
        replace hv := hv.mono (fun b o h => hJn.2 b o h)
        try replace hb5 := hJn.2 _ _ hb5
        try replace hb8 := hJn.2 _ _ hb8
        try replace hb12 := hJn.2 _ _ hb12
        try replace hb15 := hJn.2 _ _ hb15
        try replace hb18 := hJn.2 _ _ hb18
        try replace hmz := mark_mono hJn hmz
        refine WD.gR ?_
        refine WD.loud (i := 24) (by kernel_rfl) rfl rfl rfl ?_
        refine Op.buildSlice rfl ty_sl_22 ty_el2_22 rfl rfl rfl rfl (vs := [_, _, _, _, _, _, _, _]) rfl (segs := [(0, [_]), (1, [_]), (2, [_]), (3, [_]), (4, [_]), (5, [_]), (6, [_]), (7, [_])]) (cs := ([(.slice (some ⟨bz, 0, none⟩) 2 2, [80, 66]), (.slice (some ⟨b5, 0, none⟩) 1 1, leB p.parts.toNat 1), (.slice (some ⟨b8, 0, none⟩) 1 1, leB p.index.toNat 1), (.slice (some ⟨b12, 0, none⟩) 2 2, leB p.data.length 2), (.slice (some ⟨b15, 0, none⟩) 6 6, leB p.no.toNat 6), (.slice (some ⟨b18, 0, none⟩) 6 6, leB p.place.toNat 6), (.slice (some ⟨b21, 0, none⟩) 4 4, leB p.era.toNat 4), (.slice Av p.data.length cv, p.data)] : List (Value × List UInt8)).map (·.1)) rfl rfl (by repeat (first | exact SetSeg.nil | apply SetSeg.one | exact SetAt.zero | apply SetAt.succ)) (fun bx => ?_)
        refine WD.gR ?_
        refine WD.loud (i := 25) (by kernel_rfl) rfl rfl rfl ?_
        refine Op.cl (seg_cat hmz hb5 hb8 hb12 hb15 hb18 hb21 hv hl.2) rfl Try.func68 rfl rfl rfl rfl ?_
        rintro v J Lo - ⟨rfl, hown⟩
        try simp only [nf]
        refine WD.gR ?_
        refine WD.loud (i := 26) (by kernel_rfl) rfl rfl rfl ?_
        refine Op.copyB (k := 0) (m := 220) (m2 := 22 + p.data.length) (q := 22 + p.data.length) (old := List.replicate 220 0) (new := pin p) (s := phead p ++ p.data) rfl ty_sl_46 rfl rfl rfl rfl (SlAt.blk (Nat.le_refl _)) (hown.rd (by intro p hp; simp [hp])) (Nat.min_eq_left (by omega)) (by rw [List.length_replicate]; omega) (pin_lay hl.2) (by repeat (first | exact Upd.head | apply Upd.tail | apply Upd.tailS)) ?_
        refine WD.go (.inl rfl) (fun _ _ h => h.elim) ?_
        refine WD.done (by kernel_rfl) ?_
        refine WP.sub [(0, _), (1, _), (2, _), (3, _), (4, _), (11, _)] ?_ ⟨rfl, rfl, rfl, rfl, rfl, rfl, trivial⟩
        exact WP.mt Jn hle ⟨rfl, rfl, trivial⟩ rfl
       ·refine WP.oper rfl rfl ?_
        refine Op.cl (super_putI (k := 6) ⟨by decide, by decide⟩ ⟨by have := hm.no; omega, by have := hm.no; omega⟩) rfl Try.func69 rfl rfl rfl rfl ?_
        rintro v J L1 - ⟨b15, rfl, rfl, rfl⟩
        try simp only [nf]
        refine WP.share (fun Jn hJn hb15 => ?_)
        replace hle := Imm.le_trans hle hJn
        replace hv := hv.mono (fun b o h => hJn.2 b o h)
        try replace hb5 := hJn.2 _ _ hb5
        try replace hb8 := hJn.2 _ _ hb8
        try replace hb12 := hJn.2 _ _ hb12
        try replace hb18 := hJn.2 _ _ hb18
        try replace hb21 := hJn.2 _ _ hb21
        try replace hmz := mark_mono hJn hmz
        refine WD.gR ?_
        refine WD.both (i := 2) (j := 18) (by kernel_rfl) rfl rfl ?_ ?_
        ·refine WP.oper rfl rfl ?_
         refine Op.mark (cs := bytesV [80, 66]) rfl Try.underlying46 (by kernel_rfl) rfl rfl rfl (by repeat (first | exact Rm.chunk | exact Rm.here | exact Rm.nil0 | apply Rm.skip | apply Rm.skipS)) (fun Jn hJn hmz => ?_)
         replace hle := Imm.le_trans hle hJn
         replace hv := hv.mono (fun b o h => hJn.2 b o h)
         try replace hb5 := hJn.2 _ _ hb5
         try replace hb8 := hJn.2 _ _ hb8
         try replace hb12 := hJn.2 _ _ hb12
         try replace hb15 := hJn.2 _ _ hb15
         try replace hb18 := hJn.2 _ _ hb18
         try replace hb21 := hJn.2 _ _ hb21
         refine WD.gR ?_
         refine WD.loud (i := 18) (by kernel_rfl) rfl rfl rfl ?_
         refine Op.cl (super_putI (k := 6) ⟨by decide, by decide⟩ ⟨by have := hm.place; omega, by have := hm.place; omega⟩) rfl Try.func69 rfl rfl rfl rfl ?_
         rintro v J L1 - ⟨b18, rfl, rfl, rfl⟩
         try simp only [nf]
         refine WP.share (fun Jn hJn hb18 => ?_)
         replace hle := Imm.le_trans hle hJn
         replace hv := hv.mono (fun b o h => hJn.2 b o h)
         try replace hb5 := hJn.2 _ _ hb5
         try replace hb8 := hJn.2 _ _ hb8
         try replace hb12 := hJn.2 _ _ hb12
         try replace hb15 := hJn.2 _ _ hb15
         try replace hb21 := hJn.2 _ _ hb21
         try replace hmz := mark_mono hJn hmz
         refine WD.gR ?_
         refine WD.loud (i := 21) (by kernel_rfl) rfl rfl rfl ?_
         refine Op.cl (super_putI (k := 4) ⟨by decide, by decide⟩ ⟨by have := hm.era; omega, by have := hm.era; omega⟩) rfl Try.func69 rfl rfl rfl rfl ?_
         rintro v J L1 - ⟨b21, rfl, rfl, rfl⟩
         try simp only [nf]
         refine WP.share (fun Jn hJn hb21 => ?_)
         replace hle := Imm.le_trans hle hJn
         replace hv := hv.mono (fun b o h => hJn.2 b o h)
         try replace hb5 := hJn.2 _ _ hb5
         try replace hb8 := hJn.2 _ _ hb8
         try replace hb12 := hJn.2 _ _ hb12
         try replace hb15 := hJn.2 _ _ hb15
         try replace hb18 := hJn.2 _ _ hb18
         try replace hmz := mark_mono hJn hmz
         refine WD.gR ?_
         refine WD.loud (i := 24) (by kernel_rfl) rfl rfl rfl ?_
         refine Op.buildSlice rfl ty_sl_22 ty_el2_22 rfl rfl rfl rfl (vs := [_, _, _, _, _, _, _, _]) rfl (segs := [(0, [_]), (1, [_]), (2, [_]), (3, [_]), (4, [_]), (5, [_]), (6, [_]), (7, [_])]) (cs := ([(.slice (some ⟨bz, 0, none⟩) 2 2, [80, 66]), (.slice (some ⟨b5, 0, none⟩) 1 1, leB p.parts.toNat 1), (.slice (some ⟨b8, 0, none⟩) 1 1, leB p.index.toNat 1), (.slice (some ⟨b12, 0, none⟩) 2 2, leB p.data.length 2), (.slice (some ⟨b15, 0, none⟩) 6 6, leB p.no.toNat 6), (.slice (some ⟨b18, 0, none⟩) 6 6, leB p.place.toNat 6), (.slice (some ⟨b21, 0, none⟩) 4 4, leB p.era.toNat 4), (.slice Av p.data.length cv, p.data)] : List (Value × List UInt8)).map (·.1)) rfl rfl (by repeat (first | exact SetSeg.nil | apply SetSeg.one | exact SetAt.zero | apply SetAt.succ)) (fun bx => ?_)
         refine WD.gR ?_
         refine WD.loud (i := 25) (by kernel_rfl) rfl rfl rfl ?_
         refine Op.cl (seg_cat hmz hb5 hb8 hb12 hb15 hb18 hb21 hv hl.2) rfl Try.func68 rfl rfl rfl rfl ?_
         rintro v J Lo - ⟨rfl, hown⟩
         try simp only [nf]
         refine WD.gR ?_
         refine WD.loud (i := 26) (by kernel_rfl) rfl rfl rfl ?_
         refine Op.copyB (k := 0) (m := 220) (m2 := 22 + p.data.length) (q := 22 + p.data.length) (old := List.replicate 220 0) (new := pin p) (s := phead p ++ p.data) rfl ty_sl_46 rfl rfl rfl rfl (SlAt.blk (Nat.le_refl _)) (hown.rd (by intro p hp; simp [hp])) (Nat.min_eq_left (by omega)) (by rw [List.length_replicate]; omega) (pin_lay hl.2) (by repeat (first | exact Upd.head | apply Upd.tail | apply Upd.tailS)) ?_
         refine WD.go (.inl rfl) (fun _ _ h => h.elim) ?_
         refine WD.done (by kernel_rfl) ?_
         refine WP.sub [(0, _), (1, _), (2, _), (3, _), (4, _), (11, _)] ?_ ⟨rfl, rfl, rfl, rfl, rfl, rfl, trivial⟩
         exact WP.mt Jn hle ⟨rfl, rfl, trivial⟩ rfl
        ·refine WP.oper rfl rfl ?_
         refine Op.cl (super_putI (k := 6) ⟨by decide, by decide⟩ ⟨by have := hm.place; omega, by have := hm.place; omega⟩) rfl Try.func69 rfl rfl rfl rfl ?_
         rintro v J L1 - ⟨b18, rfl, rfl, rfl⟩
         try simp only [nf]
         refine WP.share (fun Jn hJn hb18 => ?_)
         replace hle := Imm.le_trans hle hJn
         replace hv := hv.mono (fun b o h => hJn.2 b o h)
         try replace hb5 := hJn.2 _ _ hb5
         try replace hb8 := hJn.2 _ _ hb8
         try replace hb12 := hJn.2 _ _ hb12
         try replace hb15 := hJn.2 _ _ hb15
         try replace hb21 := hJn.2 _ _ hb21
         try replace hmz := mark_mono hJn hmz
         refine WD.gR ?_
         refine WD.both (i := 2) (j := 21) (by kernel_rfl) rfl rfl ?_ ?_
         ·refine WP.oper rfl rfl ?_
          refine Op.mark (cs := bytesV [80, 66]) rfl Try.underlying46 (by kernel_rfl) rfl rfl rfl (by repeat (first | exact Rm.chunk | exact Rm.here | exact Rm.nil0 | apply Rm.skip | apply Rm.skipS)) (fun Jn hJn hmz => ?_)
          replace hle := Imm.le_trans hle hJn
          replace hv := hv.mono (fun b o h => hJn.2 b o h)
          try replace hb5 := hJn.2 _ _ hb5
          try replace hb8 := hJn.2 _ _ hb8
          try replace hb12 := hJn.2 _ _ hb12
          try replace hb15 := hJn.2 _ _ hb15
          try replace hb18 := hJn.2 _ _ hb18
          try replace hb21 := hJn.2 _ _ hb21
          refine WD.gR ?_
          refine WD.loud (i := 21) (by kernel_rfl) rfl rfl rfl ?_
          refine Op.cl (super_putI (k := 4) ⟨by decide, by decide⟩ ⟨by have := hm.era; omega, by have := hm.era; omega⟩) rfl Try.func69 rfl rfl rfl rfl ?_
          rintro v J L1 - ⟨b21, rfl, rfl, rfl⟩
          try simp only [nf]
          refine WP.share (fun Jn hJn hb21 => ?_)
          replace hle := Imm.le_trans hle hJn
          replace hv := hv.mono (fun b o h => hJn.2 b o h)
          try replace hb5 := hJn.2 _ _ hb5
          try replace hb8 := hJn.2 _ _ hb8
          try replace hb12 := hJn.2 _ _ hb12
          try replace hb15 := hJn.2 _ _ hb15
          try replace hb18 := hJn.2 _ _ hb18
          try replace hmz := mark_mono hJn hmz
          refine WD.gR ?_
          refine WD.loud (i := 24) (by kernel_rfl) rfl rfl rfl ?_
          refine Op.buildSlice rfl ty_sl_22 ty_el2_22 rfl rfl rfl rfl (vs := [_, _, _, _, _, _, _, _]) rfl (segs := [(0, [_]), (1, [_]), (2, [_]), (3, [_]), (4, [_]), (5, [_]), (6, [_]), (7, [_])]) (cs := ([(.slice (some ⟨bz, 0, none⟩) 2 2, [80, 66]), (.slice (some ⟨b5, 0, none⟩) 1 1, leB p.parts.toNat 1), (.slice (some ⟨b8, 0, none⟩) 1 1, leB p.index.toNat 1), (.slice (some ⟨b12, 0, none⟩) 2 2, leB p.data.length 2), (.slice (some ⟨b15, 0, none⟩) 6 6, leB p.no.toNat 6), (.slice (some ⟨b18, 0, none⟩) 6 6, leB p.place.toNat 6), (.slice (some ⟨b21, 0, none⟩) 4 4, leB p.era.toNat 4), (.slice Av p.data.length cv, p.data)] : List (Value × List UInt8)).map (·.1)) rfl rfl (by repeat (first | exact SetSeg.nil | apply SetSeg.one | exact SetAt.zero | apply SetAt.succ)) (fun bx => ?_)
          refine WD.gR ?_
          refine WD.loud (i := 25) (by kernel_rfl) rfl rfl rfl ?_
          refine Op.cl (seg_cat hmz hb5 hb8 hb12 hb15 hb18 hb21 hv hl.2) rfl Try.func68 rfl rfl rfl rfl ?_
          rintro v J Lo - ⟨rfl, hown⟩
          try simp only [nf]
          refine WD.gR ?_
          refine WD.loud (i := 26) (by kernel_rfl) rfl rfl rfl ?_
          refine Op.copyB (k := 0) (m := 220) (m2 := 22 + p.data.length) (q := 22 + p.data.length) (old := List.replicate 220 0) (new := pin p) (s := phead p ++ p.data) rfl ty_sl_46 rfl rfl rfl rfl (SlAt.blk (Nat.le_refl _)) (hown.rd (by intro p hp; simp [hp])) (Nat.min_eq_left (by omega)) (by rw [List.length_replicate]; omega) (pin_lay hl.2) (by repeat (first | exact Upd.head | apply Upd.tail | apply Upd.tailS)) ?_
          refine WD.go (.inl rfl) (fun _ _ h => h.elim) ?_
          refine WD.done (by kernel_rfl) ?_
          refine WP.sub [(0, _), (1, _), (2, _), (3, _), (4, _), (11, _)] ?_ ⟨rfl, rfl, rfl, rfl, rfl, rfl, trivial⟩
          exact WP.mt Jn hle ⟨rfl, rfl, trivial⟩ rfl
         ·refine WP.oper rfl rfl ?_
          refine Op.cl (super_putI (k := 4) ⟨by decide, by decide⟩ ⟨by have := hm.era; omega, by have := hm.era; omega⟩) rfl Try.func69 rfl rfl rfl rfl ?_
          rintro v J L1 - ⟨b21, rfl, rfl, rfl⟩
          try simp only [nf]
          refine WP.share (fun Jn hJn hb21 => ?_)
          replace hle := Imm.le_trans hle hJn
          replace hv := hv.mono (fun b o h => hJn.2 b o h)
          try replace hb5 := hJn.2 _ _ hb5
          try replace hb8 := hJn.2 _ _ hb8
          try replace hb12 := hJn.2 _ _ hb12
          try replace hb15 := hJn.2 _ _ hb15
          try replace hb18 := hJn.2 _ _ hb18
          try replace hmz := mark_mono hJn hmz
          refine WD.gR ?_
          refine WD.loud (i := 2) (by kernel_rfl) rfl rfl rfl ?_
          refine Op.mark (cs := bytesV [80, 66]) rfl Try.underlying46 (by kernel_rfl) rfl rfl rfl (by repeat (first | exact Rm.chunk | exact Rm.here | exact Rm.nil0 | apply Rm.skip | apply Rm.skipS)) (fun Jn hJn hmz => ?_)
          replace hle := Imm.le_trans hle hJn
          replace hv := hv.mono (fun b o h => hJn.2 b o h)
          try replace hb5 := hJn.2 _ _ hb5
          try replace hb8 := hJn.2 _ _ hb8
          try replace hb12 := hJn.2 _ _ hb12
          try replace hb15 := hJn.2 _ _ hb15
          try replace hb18 := hJn.2 _ _ hb18
          try replace hb21 := hJn.2 _ _ hb21
          refine WD.gR ?_
          refine WD.loud (i := 24) (by kernel_rfl) rfl rfl rfl ?_
          refine Op.buildSlice rfl ty_sl_22 ty_el2_22 rfl rfl rfl rfl (vs := [_, _, _, _, _, _, _, _]) rfl (segs := [(0, [_]), (1, [_]), (2, [_]), (3, [_]), (4, [_]), (5, [_]), (6, [_]), (7, [_])]) (cs := ([(.slice (some ⟨bz, 0, none⟩) 2 2, [80, 66]), (.slice (some ⟨b5, 0, none⟩) 1 1, leB p.parts.toNat 1), (.slice (some ⟨b8, 0, none⟩) 1 1, leB p.index.toNat 1), (.slice (some ⟨b12, 0, none⟩) 2 2, leB p.data.length 2), (.slice (some ⟨b15, 0, none⟩) 6 6, leB p.no.toNat 6), (.slice (some ⟨b18, 0, none⟩) 6 6, leB p.place.toNat 6), (.slice (some ⟨b21, 0, none⟩) 4 4, leB p.era.toNat 4), (.slice Av p.data.length cv, p.data)] : List (Value × List UInt8)).map (·.1)) rfl rfl (by repeat (first | exact SetSeg.nil | apply SetSeg.one | exact SetAt.zero | apply SetAt.succ)) (fun bx => ?_)
          refine WD.gR ?_
          refine WD.loud (i := 25) (by kernel_rfl) rfl rfl rfl ?_
          refine Op.cl (seg_cat hmz hb5 hb8 hb12 hb15 hb18 hb21 hv hl.2) rfl Try.func68 rfl rfl rfl rfl ?_
          rintro v J Lo - ⟨rfl, hown⟩
          try simp only [nf]
          refine WD.gR ?_
          refine WD.loud (i := 26) (by kernel_rfl) rfl rfl rfl ?_
          refine Op.copyB (k := 0) (m := 220) (m2 := 22 + p.data.length) (q := 22 + p.data.length) (old := List.replicate 220 0) (new := pin p) (s := phead p ++ p.data) rfl ty_sl_46 rfl rfl rfl rfl (SlAt.blk (Nat.le_refl _)) (hown.rd (by intro p hp; simp [hp])) (Nat.min_eq_left (by omega)) (by rw [List.length_replicate]; omega) (pin_lay hl.2) (by repeat (first | exact Upd.head | apply Upd.tail | apply Upd.tailS)) ?_
          refine WD.go (.inl rfl) (fun _ _ h => h.elim) ?_
          refine WD.done (by kernel_rfl) ?_
          refine WP.sub [(0, _), (1, _), (2, _), (3, _), (4, _), (11, _)] ?_ ⟨rfl, rfl, rfl, rfl, rfl, rfl, trivial⟩
          exact WP.mt Jn hle ⟨rfl, rfl, trivial⟩ rfl
    ·refine WP.oper rfl rfl ?_
     refine Op.cl (super_putI (k := 1) ⟨by decide, by decide⟩ ⟨hm.index.1, by have := hm.index; have := hm.parts; omega⟩) rfl Try.func69 rfl rfl rfl rfl ?_
     rintro v J L1 - ⟨b8, rfl, rfl, rfl⟩
     try simp only [nf]
     refine WP.share (fun Jn hJn hb8 => ?_)
     replace hle := Imm.le_trans hle hJn
     replace hv := hv.mono (fun b o h => hJn.2 b o h)
     try replace hb5 := hJn.2 _ _ hb5
     try replace hb12 := hJn.2 _ _ hb12
     try replace hb15 := hJn.2 _ _ hb15
     try replace hb18 := hJn.2 _ _ hb18
     try replace hb21 := hJn.2 _ _ hb21
     try replace hmz := mark_mono hJn hmz
     refine WD.gR ?_
     refine WD.both (i := 1) (j := 12) (by kernel_rfl) rfl rfl ?_ ?_
     ·refine WP.oper rfl rfl ?_
      refine Op.buildSlice rfl ty_sl_46 ty_el2_46 rfl rfl rfl rfl (vs := [_, _]) rfl (segs := [(0, [_]), (1, [_])]) (cs := bytesV [80, 66]) rfl rfl (by repeat (first | exact SetSeg.nil | apply SetSeg.one | exact SetAt.zero | apply SetAt.succ)) (fun bz => ?_)
      refine WD.gR ?_
      refine WD.both (i := 2) (j := 12) (by kernel_rfl) rfl rfl ?_ ?_
      ·refine WP.oper rfl rfl ?_
       refine Op.mark (cs := bytesV [80, 66]) rfl Try.underlying46 (by kernel_rfl) rfl rfl rfl (by repeat (first | exact Rm.chunk | exact Rm.here | exact Rm.nil0 | apply Rm.skip | apply Rm.skipS)) (fun Jn hJn hmz => ?_)
       replace hle := Imm.le_trans hle hJn
       replace hv := hv.mono (fun b o h => hJn.2 b o h)
       try replace hb5 := hJn.2 _ _ hb5
       try replace hb8 := hJn.2 _ _ hb8
       try replace hb12 := hJn.2 _ _ hb12
       try replace hb15 := hJn.2 _ _ hb15
       try replace hb18 := hJn.2 _ _ hb18
       try replace hb21 := hJn.2 _ _ hb21
       refine WD.gR ?_
       refine WD.loud (i := 12) (by kernel_rfl) rfl rfl rfl ?_
       refine Op.cl (super_put (m := p.data.length) (k := 2) ⟨by decide, by decide⟩ (by omega)) rfl Try.func69 rfl rfl rfl rfl ?_
       rintro v J L1 - ⟨b12, rfl, rfl, rfl⟩
       try simp only [nf]
       refine WP.share (fun Jn hJn hb12 => ?_)
       replace hle := Imm.le_trans hle hJn
       replace hv := hv.mono (fun b o h => hJn.2 b o h)
       try replace hb5 := hJn.2 _ _ hb5
       try replace hb8 := hJn.2 _ _ hb8
       try replace hb15 := hJn.2 _ _ hb15
       try replace hb18 := hJn.2 _ _ hb18
       try replace hb21 := hJn.2 _ _ hb21
       try replace hmz := mark_mono hJn hmz
       refine WD.gR ?_
       refine WD.loud (i := 15) (by kernel_rfl) rfl rfl rfl ?_
       refine Op.cl (super_putI (k := 6) ⟨by decide, by decide⟩ ⟨by have := hm.no; omega, by have := hm.no; omega⟩) rfl Try.func69 rfl rfl rfl rfl ?_
       rintro v J L1 - ⟨b15, rfl, rfl, rfl⟩
       try simp only [nf]
       refine WP.share (fun Jn hJn hb15 => ?_)
       replace hle := Imm.le_trans hle hJn
       replace hv := hv.mono (fun b o h => hJn.2 b o h)
       try replace hb5 := hJn.2 _ _ hb5
       try replace hb8 := hJn.2 _ _ hb8
       try replace hb12 := hJn.2 _ _ hb12
       try replace hb18 := hJn.2 _ _ hb18
       try replace hb21 := hJn.2 _ _ hb21
       try replace hmz := mark_mono hJn hmz
       refine WD.gR ?_
       refine WD.loud (i := 18) (by kernel_rfl) rfl rfl rfl ?_
       refine Op.cl (super_putI (k := 6) ⟨by decide, by decide⟩ ⟨by have := hm.place; omega, by have := hm.place; omega⟩) rfl Try.func69 rfl rfl rfl rfl ?_
       rintro v J L1 - ⟨b18, rfl, rfl, rfl⟩
       try simp only [nf]
       refine WP.share (fun Jn hJn hb18 => ?_)
       replace hle := Imm.le_trans hle hJn
       replace hv := hv.mono (fun b o h => hJn.2 b o h)
       try replace hb5 := hJn.2 _ _ hb5
       try replace hb8 := hJn.2 _ _ hb8
       try replace hb12 := hJn.2 _ _ hb12
       try replace hb15 := hJn.2 _ _ hb15
       try replace hb21 := hJn.2 _ _ hb21
       try replace hmz := mark_mono hJn hmz
       refine WD.gR ?_
       refine WD.loud (i := 21) (by kernel_rfl) rfl rfl rfl ?_
       refine Op.cl (super_putI (k := 4) ⟨by decide, by decide⟩ ⟨by have := hm.era; omega, by have := hm.era; omega⟩) rfl Try.func69 rfl rfl rfl rfl ?_
       rintro v J L1 - ⟨b21, rfl, rfl, rfl⟩
       try simp only [nf]
       refine WP.share (fun Jn hJn hb21 => ?_)
       replace hle := Imm.le_trans hle hJn
       replace hv := hv.mono (fun b o h => hJn.2 b o h)
       try replace hb5 := hJn.2 _ _ hb5
       try replace hb8 := hJn.2 _ _ hb8
       try replace hb12 := hJn.2 _ _ hb12
       try replace hb15 := hJn.2 _ _ hb15
       try replace hb18 := hJn.2 _ _ hb18
       try replace hmz := mark_mono hJn hmz
       refine WD.gR ?_
       refine WD.loud (i := 24) (by kernel_rfl) rfl rfl rfl ?_
       refine Op.buildSlice rfl ty_sl_22 ty_el2_22 rfl rfl rfl rfl (vs := [_, _, _, _, _, _, _, _]) rfl (segs := [(0, [_]), (1, [_]), (2, [_]), (3, [_]), (4, [_]), (5, [_]), (6, [_]), (7, [_])]) (cs := ([(.slice (some ⟨bz, 0, none⟩) 2 2, [80, 66]), (.slice (some ⟨b5, 0, none⟩) 1 1, leB p.parts.toNat 1), (.slice (some ⟨b8, 0, none⟩) 1 1, leB p.index.toNat 1), (.slice (some ⟨b12, 0, none⟩) 2 2, leB p.data.length 2), (.slice (some ⟨b15, 0, none⟩) 6 6, leB p.no.toNat 6), (.slice (some ⟨b18, 0, none⟩) 6 6, leB p.place.toNat 6), (.slice (some ⟨b21, 0, none⟩) 4 4, leB p.era.toNat 4), (.slice Av p.data.length cv, p.data)] : List (Value × List UInt8)).map (·.1)) rfl rfl (by repeat (first | exact SetSeg.nil | apply SetSeg.one | exact SetAt.zero | apply SetAt.succ)) (fun bx => ?_)
       refine WD.gR ?_
       refine WD.loud (i := 25) (by kernel_rfl) rfl rfl rfl ?_
       refine Op.cl (seg_cat hmz hb5 hb8 hb12 hb15 hb18 hb21 hv hl.2) rfl Try.func68 rfl rfl rfl rfl ?_
       rintro v J Lo - ⟨rfl, hown⟩
       try simp only [nf]
       refine WD.gR ?_
       refine WD.loud (i := 26) (by kernel_rfl) rfl rfl rfl ?_
       refine Op.copyB (k := 0) (m := 220) (m2 := 22 + p.data.length) (q := 22 + p.data.length) (old := List.replicate 220 0) (new := pin p) (s := phead p ++ p.data) rfl ty_sl_46 rfl rfl rfl rfl (SlAt.blk (Nat.le_refl _)) (hown.rd (by intro p hp; simp [hp])) (Nat.min_eq_left (by omega)) (by rw [List.length_replicate]; omega) (pin_lay hl.2) (by repeat (first | exact Upd.head | apply Upd.tail | apply Upd.tailS)) ?_
       refine WD.go (.inl rfl) (fun _ _ h => h.elim) ?_
       refine WD.done (by kernel_rfl) ?_
       refine WP.sub [(0, _), (1, _), (2, _), (3, _), (4, _), (11, _)] ?_ ⟨rfl, rfl, rfl, rfl, rfl, rfl, trivial⟩
       exact WP.mt Jn hle ⟨rfl, rfl, trivial⟩ rfl
      ·refine WP.oper rfl rfl ?_
       refine Op.cl (super_put (m := p.data.length) (k := 2) ⟨by decide, by decide⟩ (by omega)) rfl Try.func69 rfl rfl rfl rfl ?_
       rintro v J L1 - ⟨b12, rfl, rfl, rfl⟩
       try simp only [nf]
       refine WP.share (fun Jn hJn hb12 => ?_)
       replace hle := Imm.le_trans hle hJn
       replace hv := hv.mono (fun b o h => hJn.2 b o h)
       try replace hb5 := hJn.2 _ _ hb5
       try replace hb8 := hJn.2 _ _ hb8
       try replace hb15 := hJn.2 _ _ hb15
       try replace hb18 := hJn.2 _ _ hb18
       try replace hb21 := hJn.2 _ _ hb21
       try replace hmz := mark_mono hJn hmz
       refine WD.gR ?_
       refine WD.both (i := 2) (j := 15) (by kernel_rfl) rfl rfl ?_ ?_
       ·refine WP.oper rfl rfl ?_
        refine Op.mark (cs := bytesV [80, 66]) rfl Try.underlying46 (by kernel_rfl) rfl rfl rfl (by repeat (first | exact Rm.chunk | exact Rm.here | exact Rm.nil0 | apply Rm.skip | apply Rm.skipS)) (fun Jn hJn hmz => ?_)
        replace hle := Imm.le_trans hle hJn
        replace hv := hv.mono (fun b o h => hJn.2 b o h)
        try replace hb5 := hJn.2 _ _ hb5
        try replace hb8 := hJn.2 _ _ hb8
        try replace hb12 := hJn.2 _ _ hb12
        try replace hb15 := hJn.2 _ _ hb15
        try replace hb18 := hJn.2 _ _ hb18
        try replace hb21 := hJn.2 _ _ hb21
        refine WD.gR ?_
        refine WD.loud (i := 15) (by kernel_rfl) rfl rfl rfl ?_
        refine Op.cl (super_putI (k := 6) ⟨by decide, by decide⟩ ⟨by have := hm.no; omega, by have := hm.no; omega⟩) rfl Try.func69 rfl rfl rfl rfl ?_
        rintro v J L1 - ⟨b15, rfl, rfl, rfl⟩
        try simp only [nf]
        refine WP.share (fun Jn hJn hb15 => ?_)
        replace hle := Imm.le_trans hle hJn
        replace hv := hv.mono (fun b o h => hJn.2 b o h)
        try replace hb5 := hJn.2 _ _ hb5
        try replace hb8 := hJn.2 _ _ hb8
        try replace hb12 := hJn.2 _ _ hb12
        try replace hb18 := hJn.2 _ _ hb18
        try replace hb21 := hJn.2 _ _ hb21
        try replace hmz := mark_mono hJn hmz
        refine WD.gR ?_
        refine WD.loud (i := 18) (by kernel_rfl) rfl rfl rfl ?_
        refine Op.cl (super_putI (k := 6) ⟨by decide, by decide⟩ ⟨by have := hm.place; omega, by have := hm.place; omega⟩) rfl Try.func69 rfl rfl rfl rfl ?_
        rintro v J L1 - ⟨b18, rfl, rfl, rfl⟩
        try simp only [nf]
        refine WP.share (fun Jn hJn hb18 => ?_)
        replace hle := Imm.le_trans hle hJn
        replace hv := hv.mono (fun b o h => hJn.2 b o h)
        try replace hb5 := hJn.2 _ _ hb5
        try replace hb8 := hJn.2 _ _ hb8
        try replace hb12 := hJn.2 _ _ hb12
        try replace hb15 := hJn.2 _ _ hb15
        try replace hb21 := hJn.2 _ _ hb21
        try replace hmz := mark_mono hJn hmz
        refine WD.gR ?_
        refine WD.loud (i := 21) (by kernel_rfl) rfl rfl rfl ?_
        refine Op.cl (super_putI (k := 4) ⟨by decide, by decide⟩ ⟨by have := hm.era; omega, by have := hm.era; omega⟩) rfl Try.func69 rfl rfl rfl rfl ?_
        rintro v J L1 - ⟨b21, rfl, rfl, rfl⟩
        try simp only [nf]
        refine WP.share (fun Jn hJn hb21 => ?_)
        replace hle := Imm.le_trans hle hJn
        replace hv := hv.mono (fun b o h => hJn.2 b o h)
        try replace hb5 := hJn.2 _ _ hb5
        try replace hb8 := hJn.2 _ _ hb8
        try replace hb12 := hJn.2 _ _ hb12
        try replace hb15 := hJn.2 _ _ hb15
        try replace hb18 := hJn.2 _ _ hb18
        try replace hmz := mark_mono hJn hmz
        refine WD.gR ?_
        refine WD.loud (i := 24) (by kernel_rfl) rfl rfl rfl ?_
        refine Op.buildSlice rfl ty_sl_22 ty_el2_22 rfl rfl rfl rfl (vs := [_, _, _, _, _, _, _, _]) rfl (segs := [(0, [_]), (1, [_]), (2, [_]), (3, [_]), (4, [_]), (5, [_]), (6, [_]), (7, [_])]) (cs := ([(.slice (some ⟨bz, 0, none⟩) 2 2, [80, 66]), (.slice (some ⟨b5, 0, none⟩) 1 1, leB p.parts.toNat 1), (.slice (some ⟨b8, 0, none⟩) 1 1, leB p.index.toNat 1), (.slice (some ⟨b12, 0, none⟩) 2 2, leB p.data.length 2), (.slice (some ⟨b15, 0, none⟩) 6 6, leB p.no.toNat 6), (.slice (some ⟨b18, 0, none⟩) 6 6, leB p.place.toNat 6), (.slice (some ⟨b21, 0, none⟩) 4 4, leB p.era.toNat 4), (.slice Av p.data.length cv, p.data)] : List (Value × List UInt8)).map (·.1)) rfl rfl (by repeat (first | exact SetSeg.nil | apply SetSeg.one | exact SetAt.zero | apply SetAt.succ)) (fun bx => ?_)
        refine WD.gR ?_
        refine WD.loud (i := 25) (by kernel_rfl) rfl rfl rfl ?_
        refine Op.cl (seg_cat hmz hb5 hb8 hb12 hb15 hb18 hb21 hv hl.2) rfl Try.func68 rfl rfl rfl rfl ?_
        rintro v J Lo - ⟨rfl, hown⟩
        try simp only [nf]
        refine WD.gR ?_
        refine WD.loud (i := 26) (by kernel_rfl) rfl rfl rfl ?_
        refine Op.copyB (k := 0) (m := 220) (m2 := 22 + p.data.length) (q := 22 + p.data.length) (old := List.replicate 220 0) (new := pin p) (s := phead p ++ p.data) rfl ty_sl_46 rfl rfl rfl rfl (SlAt.blk (Nat.le_refl _)) (hown.rd (by intro p hp; simp [hp])) (Nat.min_eq_left (by omega)) (by rw [List.length_replicate]; omega) (pin_lay hl.2) (by repeat (first | exact Upd.head | apply Upd.tail | apply Upd.tailS)) ?_
        refine WD.go (.inl rfl) (fun _ _ h => h.elim) ?_
        refine WD.done (by kernel_rfl) ?_
        refine WP.sub [(0, _), (1, _), (2, _), (3, _), (4, _), (11, _)] ?_ ⟨rfl, rfl, rfl, rfl, rfl, rfl, trivial⟩
        exact WP.mt Jn hle ⟨rfl, rfl, trivial⟩ rfl
       ·refine WP.oper rfl rfl ?_
        refine Op.cl (super_putI (k := 6) ⟨by decide, by decide⟩ ⟨by have := hm.no; omega, by have := hm.no; omega⟩) rfl Try.func69 rfl rfl rfl rfl ?_
        rintro v J L1 - ⟨b15, rfl, rfl, rfl⟩
        try simp only [nf]
        refine WP.share (fun Jn hJn hb15 => ?_)
        replace hle := Imm.le_trans hle hJn
        replace hv := hv.mono (fun b o h => hJn.2 b o h)
        try replace hb5 := hJn.2 _ _ hb5
        try replace hb8 := hJn.2 _ _ hb8
        try replace hb12 := hJn.2 _ _ hb12
        try replace hb18 := hJn.2 _ _ hb18
        try replace hb21 := hJn.2 _ _ hb21
        try replace hmz := mark_mono hJn hmz
        refine WD.gR ?_
        refine WD.both (i := 2) (j := 18) (by kernel_rfl) rfl rfl ?_ ?_
        ·refine WP.oper rfl rfl ?_
         refine Op.mark (cs := bytesV [80, 66]) rfl Try.underlying46 (by kernel_rfl) rfl rfl rfl (by repeat (first | exact Rm.chunk | exact Rm.here | exact Rm.nil0 | apply Rm.skip | apply Rm.skipS)) (fun Jn hJn hmz => ?_)
         replace hle := Imm.le_trans hle hJn
         replace hv := hv.mono (fun b o h => hJn.2 b o h)
         try replace hb5 := hJn.2 _ _ hb5
         try replace hb8 := hJn.2 _ _ hb8
         try replace hb12 := hJn.2 _ _ hb12
         try replace hb15 := hJn.2 _ _ hb15
         try replace hb18 := hJn.2 _ _ hb18
         try replace hb21 := hJn.2 _ _ hb21
         refine WD.gR ?_
         refine WD.loud (i := 18) (by kernel_rfl) rfl rfl rfl ?_
         refine Op.cl (super_putI (k := 6) ⟨by decide, by decide⟩ ⟨by have := hm.place; omega, by have := hm.place; omega⟩) rfl Try.func69 rfl rfl rfl rfl ?_
         rintro v J L1 - ⟨b18, rfl, rfl, rfl⟩
         try simp only [nf]
         refine WP.share (fun Jn hJn hb18 => ?_)
         replace hle := Imm.le_trans hle hJn
         replace hv := hv.mono (fun b o h => hJn.2 b o h)
         try replace hb5 := hJn.2 _ _ hb5
         try replace hb8 := hJn.2 _ _ hb8
         try replace hb12 := hJn.2 _ _ hb12
         try replace hb15 := hJn.2 _ _ hb15
         try replace hb21 := hJn.2 _ _ hb21
         try replace hmz := mark_mono hJn hmz
         refine WD.gR ?_
         refine WD.loud (i := 21) (by kernel_rfl) rfl rfl rfl ?_
         refine Op.cl (super_putI (k := 4) ⟨by decide, by decide⟩ ⟨by have := hm.era; omega, by have := hm.era; omega⟩) rfl Try.func69 rfl rfl rfl rfl ?_
         rintro v J L1 - ⟨b21, rfl, rfl, rfl⟩
         try simp only [nf]
         refine WP.share (fun Jn hJn hb21 => ?_)
         replace hle := Imm.le_trans hle hJn
         replace hv := hv.mono (fun b o h => hJn.2 b o h)
         try replace hb5 := hJn.2 _ _ hb5
         try replace hb8 := hJn.2 _ _ hb8
         try replace hb12 := hJn.2 _ _ hb12
         try replace hb15 := hJn.2 _ _ hb15
         try replace hb18 := hJn.2 _ _ hb18
         try replace hmz := mark_mono hJn hmz
         refine WD.gR ?_
         refine WD.loud (i := 24) (by kernel_rfl) rfl rfl rfl ?_
         refine Op.buildSlice rfl ty_sl_22 ty_el2_22 rfl rfl rfl rfl (vs := [_, _, _, _, _, _, _, _]) rfl (segs := [(0, [_]), (1, [_]), (2, [_]), (3, [_]), (4, [_]), (5, [_]), (6, [_]), (7, [_])]) (cs := ([(.slice (some ⟨bz, 0, none⟩) 2 2, [80, 66]), (.slice (some ⟨b5, 0, none⟩) 1 1, leB p.parts.toNat 1), (.slice (some ⟨b8, 0, none⟩) 1 1, leB p.index.toNat 1), (.slice (some ⟨b12, 0, none⟩) 2 2, leB p.data.length 2), (.slice (some ⟨b15, 0, none⟩) 6 6, leB p.no.toNat 6), (.slice (some ⟨b18, 0, none⟩) 6 6, leB p.place.toNat 6), (.slice (some ⟨b21, 0, none⟩) 4 4, leB p.era.toNat 4), (.slice Av p.data.length cv, p.data)] : List (Value × List UInt8)).map (·.1)) rfl rfl (by repeat (first | exact SetSeg.nil | apply SetSeg.one | exact SetAt.zero | apply SetAt.succ)) (fun bx => ?_)
         refine WD.gR ?_
         refine WD.loud (i := 25) (by kernel_rfl) rfl rfl rfl ?_
         refine Op.cl (seg_cat hmz hb5 hb8 hb12 hb15 hb18 hb21 hv hl.2) rfl Try.func68 rfl rfl rfl rfl ?_
         rintro v J Lo - ⟨rfl, hown⟩
         try simp only [nf]
         refine WD.gR ?_
         refine WD.loud (i := 26) (by kernel_rfl) rfl rfl rfl ?_
         refine Op.copyB (k := 0) (m := 220) (m2 := 22 + p.data.length) (q := 22 + p.data.length) (old := List.replicate 220 0) (new := pin p) (s := phead p ++ p.data) rfl ty_sl_46 rfl rfl rfl rfl (SlAt.blk (Nat.le_refl _)) (hown.rd (by intro p hp; simp [hp])) (Nat.min_eq_left (by omega)) (by rw [List.length_replicate]; omega) (pin_lay hl.2) (by repeat (first | exact Upd.head | apply Upd.tail | apply Upd.tailS)) ?_
         refine WD.go (.inl rfl) (fun _ _ h => h.elim) ?_
         refine WD.done (by kernel_rfl) ?_
         refine WP.sub [(0, _), (1, _), (2, _), (3, _), (4, _), (11, _)] ?_ ⟨rfl, rfl, rfl, rfl, rfl, rfl, trivial⟩
         exact WP.mt Jn hle ⟨rfl, rfl, trivial⟩ rfl
        ·refine WP.oper rfl rfl ?_
         refine Op.cl (super_putI (k := 6) ⟨by decide, by decide⟩ ⟨by have := hm.place; omega, by have := hm.place; omega⟩) rfl Try.func69 rfl rfl rfl rfl ?_
         rintro v J L1 - ⟨b18, rfl, rfl, rfl⟩
         try simp only [nf]
         refine WP.share (fun Jn hJn hb18 => ?_)
         replace hle := Imm.le_trans hle hJn
         replace hv := hv.mono (fun b o h => hJn.2 b o h)
         try replace hb5 := hJn.2 _ _ hb5
         try replace hb8 := hJn.2 _ _ hb8
         try replace hb12 := hJn.2 _ _ hb12
         try replace hb15 := hJn.2 _ _ hb15
         try replace hb21 := hJn.2 _ _ hb21
         try replace hmz := mark_mono hJn hmz
         refine WD.gR ?_
         refine WD.both (i := 2) (j := 21) (by kernel_rfl) rfl rfl ?_ ?_
         ·refine WP.oper rfl rfl ?_
          refine Op.mark (cs := bytesV [80, 66]) rfl Try.underlying46 (by kernel_rfl) rfl rfl rfl (by repeat (first | exact Rm.chunk | exact Rm.here | exact Rm.nil0 | apply Rm.skip | apply Rm.skipS)) (fun Jn hJn hmz => ?_)
          replace hle := Imm.le_trans hle hJn
          replace hv := hv.mono (fun b o h => hJn.2 b o h)
          try replace hb5 := hJn.2 _ _ hb5
          try replace hb8 := hJn.2 _ _ hb8
          try replace hb12 := hJn.2 _ _ hb12
          try replace hb15 := hJn.2 _ _ hb15
          try replace hb18 := hJn.2 _ _ hb18
          try replace hb21 := hJn.2 _ _ hb21
          refine WD.gR ?_
          refine WD.loud (i := 21) (by kernel_rfl) rfl rfl rfl ?_
          refine Op.cl (super_putI (k := 4) ⟨by decide, by decide⟩ ⟨by have := hm.era; omega, by have := hm.era; omega⟩) rfl Try.func69 rfl rfl rfl rfl ?_
          rintro v J L1 - ⟨b21, rfl, rfl, rfl⟩
          try simp only [nf]
          refine WP.share (fun Jn hJn hb21 => ?_)
          replace hle := Imm.le_trans hle hJn
          replace hv := hv.mono (fun b o h => hJn.2 b o h)
          try replace hb5 := hJn.2 _ _ hb5
          try replace hb8 := hJn.2 _ _ hb8
          try replace hb12 := hJn.2 _ _ hb12
          try replace hb15 := hJn.2 _ _ hb15
          try replace hb18 := hJn.2 _ _ hb18
          try replace hmz := mark_mono hJn hmz
          refine WD.gR ?_
          refine WD.loud (i := 24) (by kernel_rfl) rfl rfl rfl ?_
          refine Op.buildSlice rfl ty_sl_22 ty_el2_22 rfl rfl rfl rfl (vs := [_, _, _, _, _, _, _, _]) rfl (segs := [(0, [_]), (1, [_]), (2, [_]), (3, [_]), (4, [_]), (5, [_]), (6, [_]), (7, [_])]) (cs := ([(.slice (some ⟨bz, 0, none⟩) 2 2, [80, 66]), (.slice (some ⟨b5, 0, none⟩) 1 1, leB p.parts.toNat 1), (.slice (some ⟨b8, 0, none⟩) 1 1, leB p.index.toNat 1), (.slice (some ⟨b12, 0, none⟩) 2 2, leB p.data.length 2), (.slice (some ⟨b15, 0, none⟩) 6 6, leB p.no.toNat 6), (.slice (some ⟨b18, 0, none⟩) 6 6, leB p.place.toNat 6), (.slice (some ⟨b21, 0, none⟩) 4 4, leB p.era.toNat 4), (.slice Av p.data.length cv, p.data)] : List (Value × List UInt8)).map (·.1)) rfl rfl (by repeat (first | exact SetSeg.nil | apply SetSeg.one | exact SetAt.zero | apply SetAt.succ)) (fun bx => ?_)
          refine WD.gR ?_
          refine WD.loud (i := 25) (by kernel_rfl) rfl rfl rfl ?_
          refine Op.cl (seg_cat hmz hb5 hb8 hb12 hb15 hb18 hb21 hv hl.2) rfl Try.func68 rfl rfl rfl rfl ?_
          rintro v J Lo - ⟨rfl, hown⟩
          try simp only [nf]
          refine WD.gR ?_
          refine WD.loud (i := 26) (by kernel_rfl) rfl rfl rfl ?_
          refine Op.copyB (k := 0) (m := 220) (m2 := 22 + p.data.length) (q := 22 + p.data.length) (old := List.replicate 220 0) (new := pin p) (s := phead p ++ p.data) rfl ty_sl_46 rfl rfl rfl rfl (SlAt.blk (Nat.le_refl _)) (hown.rd (by intro p hp; simp [hp])) (Nat.min_eq_left (by omega)) (by rw [List.length_replicate]; omega) (pin_lay hl.2) (by repeat (first | exact Upd.head | apply Upd.tail | apply Upd.tailS)) ?_
          refine WD.go (.inl rfl) (fun _ _ h => h.elim) ?_
          refine WD.done (by kernel_rfl) ?_
          refine WP.sub [(0, _), (1, _), (2, _), (3, _), (4, _), (11, _)] ?_ ⟨rfl, rfl, rfl, rfl, rfl, rfl, trivial⟩
          exact WP.mt Jn hle ⟨rfl, rfl, trivial⟩ rfl
         ·refine WP.oper rfl rfl ?_
          refine Op.cl (super_putI (k := 4) ⟨by decide, by decide⟩ ⟨by have := hm.era; omega, by have := hm.era; omega⟩) rfl Try.func69 rfl rfl rfl rfl ?_
          rintro v J L1 - ⟨b21, rfl, rfl, rfl⟩
          try simp only [nf]
          refine WP.share (fun Jn hJn hb21 => ?_)
          replace hle := Imm.le_trans hle hJn
          replace hv := hv.mono (fun b o h => hJn.2 b o h)
          try replace hb5 := hJn.2 _ _ hb5
          try replace hb8 := hJn.2 _ _ hb8
          try replace hb12 := hJn.2 _ _ hb12
          try replace hb15 := hJn.2 _ _ hb15
          try replace hb18 := hJn.2 _ _ hb18
          try replace hmz := mark_mono hJn hmz
          refine WD.gR ?_
          refine WD.loud (i := 2) (by kernel_rfl) rfl rfl rfl ?_
          refine Op.mark (cs := bytesV [80, 66]) rfl Try.underlying46 (by kernel_rfl) rfl rfl rfl (by repeat (first | exact Rm.chunk | exact Rm.here | exact Rm.nil0 | apply Rm.skip | apply Rm.skipS)) (fun Jn hJn hmz => ?_)
          replace hle := Imm.le_trans hle hJn
          replace hv := hv.mono (fun b o h => hJn.2 b o h)
          try replace hb5 := hJn.2 _ _ hb5
          try replace hb8 := hJn.2 _ _ hb8
          try replace hb12 := hJn.2 _ _ hb12
          try replace hb15 := hJn.2 _ _ hb15
          try replace hb18 := hJn.2 _ _ hb18
          try replace hb21 := hJn.2 _ _ hb21
          refine WD.gR ?_
          refine WD.loud (i := 24) (by kernel_rfl) rfl rfl rfl ?_
          refine Op.buildSlice rfl ty_sl_22 ty_el2_22 rfl rfl rfl rfl (vs := [_, _, _, _, _, _, _, _]) rfl (segs := [(0, [_]), (1, [_]), (2, [_]), (3, [_]), (4, [_]), (5, [_]), (6, [_]), (7, [_])]) (cs := ([(.slice (some ⟨bz, 0, none⟩) 2 2, [80, 66]), (.slice (some ⟨b5, 0, none⟩) 1 1, leB p.parts.toNat 1), (.slice (some ⟨b8, 0, none⟩) 1 1, leB p.index.toNat 1), (.slice (some ⟨b12, 0, none⟩) 2 2, leB p.data.length 2), (.slice (some ⟨b15, 0, none⟩) 6 6, leB p.no.toNat 6), (.slice (some ⟨b18, 0, none⟩) 6 6, leB p.place.toNat 6), (.slice (some ⟨b21, 0, none⟩) 4 4, leB p.era.toNat 4), (.slice Av p.data.length cv, p.data)] : List (Value × List UInt8)).map (·.1)) rfl rfl (by repeat (first | exact SetSeg.nil | apply SetSeg.one | exact SetAt.zero | apply SetAt.succ)) (fun bx => ?_)
          refine WD.gR ?_
          refine WD.loud (i := 25) (by kernel_rfl) rfl rfl rfl ?_
          refine Op.cl (seg_cat hmz hb5 hb8 hb12 hb15 hb18 hb21 hv hl.2) rfl Try.func68 rfl rfl rfl rfl ?_
          rintro v J Lo - ⟨rfl, hown⟩
          try simp only [nf]
          refine WD.gR ?_
          refine WD.loud (i := 26) (by kernel_rfl) rfl rfl rfl ?_
          refine Op.copyB (k := 0) (m := 220) (m2 := 22 + p.data.length) (q := 22 + p.data.length) (old := List.replicate 220 0) (new := pin p) (s := phead p ++ p.data) rfl ty_sl_46 rfl rfl rfl rfl (SlAt.blk (Nat.le_refl _)) (hown.rd (by intro p hp; simp [hp])) (Nat.min_eq_left (by omega)) (by rw [List.length_replicate]; omega) (pin_lay hl.2) (by repeat (first | exact Upd.head | apply Upd.tail | apply Upd.tailS)) ?_
          refine WD.go (.inl rfl) (fun _ _ h => h.elim) ?_
          refine WD.done (by kernel_rfl) ?_
          refine WP.sub [(0, _), (1, _), (2, _), (3, _), (4, _), (11, _)] ?_ ⟨rfl, rfl, rfl, rfl, rfl, rfl, trivial⟩
          exact WP.mt Jn hle ⟨rfl, rfl, trivial⟩ rfl
     ·refine WP.oper rfl rfl ?_
      refine Op.cl (super_put (m := p.data.length) (k := 2) ⟨by decide, by decide⟩ (by omega)) rfl Try.func69 rfl rfl rfl rfl ?_
      rintro v J L1 - ⟨b12, rfl, rfl, rfl⟩
      try simp only [nf]
      refine WP.share (fun Jn hJn hb12 => ?_)
      replace hle := Imm.le_trans hle hJn
      replace hv := hv.mono (fun b o h => hJn.2 b o h)
      try replace hb5 := hJn.2 _ _ hb5
      try replace hb8 := hJn.2 _ _ hb8
      try replace hb15 := hJn.2 _ _ hb15
      try replace hb18 := hJn.2 _ _ hb18
      try replace hb21 := hJn.2 _ _ hb21
      try replace hmz := mark_mono hJn hmz
      refine WD.gR ?_
      refine WD.both (i := 1) (j := 15) (by kernel_rfl) rfl rfl ?_ ?_
      ·refine WP.oper rfl rfl ?_
       refine Op.buildSlice rfl ty_sl_46 ty_el2_46 rfl rfl rfl rfl (vs := [_, _]) rfl (segs := [(0, [_]), (1, [_])]) (cs := bytesV [80, 66]) rfl rfl (by repeat (first | exact SetSeg.nil | apply SetSeg.one | exact SetAt.zero | apply SetAt.succ)) (fun bz => ?_)
       refine WD.gR ?_
       refine WD.both (i := 2) (j := 15) (by kernel_rfl) rfl rfl ?_ ?_
       ·refine WP.oper rfl rfl ?_
        refine Op.mark (cs := bytesV [80, 66]) rfl Try.underlying46 (by kernel_rfl) rfl rfl rfl (by repeat (first | exact Rm.chunk | exact Rm.here | exact Rm.nil0 | apply Rm.skip | apply Rm.skipS)) (fun Jn hJn hmz => ?_)
        replace hle := Imm.le_trans hle hJn
        replace hv := hv.mono (fun b o h => hJn.2 b o h)
        try replace hb5 := hJn.2 _ _ hb5
        try replace hb8 := hJn.2 _ _ hb8
        try replace hb12 := hJn.2 _ _ hb12
        try replace hb15 := hJn.2 _ _ hb15
        try replace hb18 := hJn.2 _ _ hb18
        try replace hb21 := hJn.2 _ _ hb21
        refine WD.gR ?_
        refine WD.loud (i := 15) (by kernel_rfl) rfl rfl rfl ?_
        refine Op.cl (super_putI (k := 6) ⟨by decide, by decide⟩ ⟨by have := hm.no; omega, by have := hm.no; omega⟩) rfl Try.func69 rfl rfl rfl rfl ?_
        rintro v J L1 - ⟨b15, rfl, rfl, rfl⟩
        try simp only [nf]
        refine WP.share (fun Jn hJn hb15 => ?_)
        replace hle := Imm.le_trans hle hJn
        replace hv := hv.mono (fun b o h => hJn.2 b o h)
        try replace hb5 := hJn.2 _ _ hb5
        try replace hb8 := hJn.2 _ _ hb8
        try replace hb12 := hJn.2 _ _ hb12
        try replace hb18 := hJn.2 _ _ hb18
        try replace hb21 := hJn.2 _ _ hb21
        try replace hmz := mark_mono hJn hmz
        refine WD.gR ?_
        refine WD.loud (i := 18) (by kernel_rfl) rfl rfl rfl ?_
        refine Op.cl (super_putI (k := 6) ⟨by decide, by decide⟩ ⟨by have := hm.place; omega, by have := hm.place; omega⟩) rfl Try.func69 rfl rfl rfl rfl ?_
        rintro v J L1 - ⟨b18, rfl, rfl, rfl⟩
        try simp only [nf]
        refine WP.share (fun Jn hJn hb18 => ?_)
        replace hle := Imm.le_trans hle hJn
        replace hv := hv.mono (fun b o h => hJn.2 b o h)
        try replace hb5 := hJn.2 _ _ hb5
        try replace hb8 := hJn.2 _ _ hb8
        try replace hb12 := hJn.2 _ _ hb12
        try replace hb15 := hJn.2 _ _ hb15
        try replace hb21 := hJn.2 _ _ hb21
        try replace hmz := mark_mono hJn hmz
        refine WD.gR ?_
        refine WD.loud (i := 21) (by kernel_rfl) rfl rfl rfl ?_
        refine Op.cl (super_putI (k := 4) ⟨by decide, by decide⟩ ⟨by have := hm.era; omega, by have := hm.era; omega⟩) rfl Try.func69 rfl rfl rfl rfl ?_
        rintro v J L1 - ⟨b21, rfl, rfl, rfl⟩
        try simp only [nf]
        refine WP.share (fun Jn hJn hb21 => ?_)
        replace hle := Imm.le_trans hle hJn
        replace hv := hv.mono (fun b o h => hJn.2 b o h)
        try replace hb5 := hJn.2 _ _ hb5
        try replace hb8 := hJn.2 _ _ hb8
        try replace hb12 := hJn.2 _ _ hb12
        try replace hb15 := hJn.2 _ _ hb15
        try replace hb18 := hJn.2 _ _ hb18
        try replace hmz := mark_mono hJn hmz
        refine WD.gR ?_
        refine WD.loud (i := 24) (by kernel_rfl) rfl rfl rfl ?_
        refine Op.buildSlice rfl ty_sl_22 ty_el2_22 rfl rfl rfl rfl (vs := [_, _, _, _, _, _, _, _]) rfl (segs := [(0, [_]), (1, [_]), (2, [_]), (3, [_]), (4, [_]), (5, [_]), (6, [_]), (7, [_])]) (cs := ([(.slice (some ⟨bz, 0, none⟩) 2 2, [80, 66]), (.slice (some ⟨b5, 0, none⟩) 1 1, leB p.parts.toNat 1), (.slice (some ⟨b8, 0, none⟩) 1 1, leB p.index.toNat 1), (.slice (some ⟨b12, 0, none⟩) 2 2, leB p.data.length 2), (.slice (some ⟨b15, 0, none⟩) 6 6, leB p.no.toNat 6), (.slice (some ⟨b18, 0, none⟩) 6 6, leB p.place.toNat 6), (.slice (some ⟨b21, 0, none⟩) 4 4, leB p.era.toNat 4), (.slice Av p.data.length cv, p.data)] : List (Value × List UInt8)).map (·.1)) rfl rfl (by repeat (first | exact SetSeg.nil | apply SetSeg.one | exact SetAt.zero | apply SetAt.succ)) (fun bx => ?_)
        refine WD.gR ?_
        refine WD.loud (i := 25) (by kernel_rfl) rfl rfl rfl ?_
        refine Op.cl (seg_cat hmz hb5 hb8 hb12 hb15 hb18 hb21 hv hl.2) rfl Try.func68 rfl rfl rfl rfl ?_
        rintro v J Lo - ⟨rfl, hown⟩
        try simp only [nf]
        refine WD.gR ?_
        refine WD.loud (i := 26) (by kernel_rfl) rfl rfl rfl ?_
        refine Op.copyB (k := 0) (m := 220) (m2 := 22 + p.data.length) (q := 22 + p.data.length) (old := List.replicate 220 0) (new := pin p) (s := phead p ++ p.data) rfl ty_sl_46 rfl rfl rfl rfl (SlAt.blk (Nat.le_refl _)) (hown.rd (by intro p hp; simp [hp])) (Nat.min_eq_left (by omega)) (by rw [List.length_replicate]; omega) (pin_lay hl.2) (by repeat (first | exact Upd.head | apply Upd.tail | apply Upd.tailS)) ?_
        refine WD.go (.inl rfl) (fun _ _ h => h.elim) ?_
        refine WD.done (by kernel_rfl) ?_
        refine WP.sub [(0, _), (1, _), (2, _), (3, _), (4, _), (11, _)] ?_ ⟨rfl, rfl, rfl, rfl, rfl, rfl, trivial⟩
        exact WP.mt Jn hle ⟨rfl, rfl, trivial⟩ rfl
       ·refine WP.oper rfl rfl ?_
        refine Op.cl (super_putI (k := 6) ⟨by decide, by decide⟩ ⟨by have := hm.no; omega, by have := hm.no; omega⟩) rfl Try.func69 rfl rfl rfl rfl ?_
        rintro v J L1 - ⟨b15, rfl, rfl, rfl⟩
        try simp only [nf]
        refine WP.share (fun Jn hJn hb15 => ?_)
        replace hle := Imm.le_trans hle hJn
        replace hv := hv.mono (fun b o h => hJn.2 b o h)
        try replace hb5 := hJn.2 _ _ hb5
        try replace hb8 := hJn.2 _ _ hb8
        try replace hb12 := hJn.2 _ _ hb12
        try replace hb18 := hJn.2 _ _ hb18
        try replace hb21 := hJn.2 _ _ hb21
        try replace hmz := mark_mono hJn hmz
        refine WD.gR ?_
        refine WD.both (i := 2) (j := 18) (by kernel_rfl) rfl rfl ?_ ?_
        ·refine WP.oper rfl rfl ?_
         refine Op.mark (cs := bytesV [80, 66]) rfl Try.underlying46 (by kernel_rfl) rfl rfl rfl (by repeat (first | exact Rm.chunk | exact Rm.here | exact Rm.nil0 | apply Rm.skip | apply Rm.skipS)) (fun Jn hJn hmz => ?_)
         replace hle := Imm.le_trans hle hJn
         replace hv := hv.mono (fun b o h => hJn.2 b o h)
         try replace hb5 := hJn.2 _ _ hb5
         try replace hb8 := hJn.2 _ _ hb8
         try replace hb12 := hJn.2 _ _ hb12
         try replace hb15 := hJn.2 _ _ hb15
         try replace hb18 := hJn.2 _ _ hb18
         try replace hb21 := hJn.2 _ _ hb21
         refine WD.gR ?_
         refine WD.loud (i := 18) (by kernel_rfl) rfl rfl rfl ?_
         refine Op.cl (super_putI (k := 6) ⟨by decide, by decide⟩ ⟨by have := hm.place; omega, by have := hm.place; omega⟩) rfl Try.func69 rfl rfl rfl rfl ?_
         rintro v J L1 - ⟨b18, rfl, rfl, rfl⟩
         try simp only [nf]
         refine WP.share (fun Jn hJn hb18 => ?_)
         replace hle := Imm.le_trans hle hJn
         replace hv := hv.mono (fun b o h => hJn.2 b o h)
         try replace hb5 := hJn.2 _ _ hb5
         try replace hb8 := hJn.2 _ _ hb8
         try replace hb12 := hJn.2 _ _ hb12
         try replace hb15 := hJn.2 _ _ hb15
         try replace hb21 := hJn.2 _ _ hb21
         try replace hmz := mark_mono hJn hmz
         refine WD.gR ?_
         refine WD.loud (i := 21) (by kernel_rfl) rfl rfl rfl ?_
         refine Op.cl (super_putI (k := 4) ⟨by decide, by decide⟩ ⟨by have := hm.era; omega, by have := hm.era; omega⟩) rfl Try.func69 rfl rfl rfl rfl ?_
         rintro v J L1 - ⟨b21, rfl, rfl, rfl⟩
         try simp only [nf]
         refine WP.share (fun Jn hJn hb21 => ?_)
         replace hle := Imm.le_trans hle hJn
         replace hv := hv.mono (fun b o h => hJn.2 b o h)
         try replace hb5 := hJn.2 _ _ hb5
         try replace hb8 := hJn.2 _ _ hb8
         try replace hb12 := hJn.2 _ _ hb12
         try replace hb15 := hJn.2 _ _ hb15
         try replace hb18 := hJn.2 _ _ hb18
         try replace hmz := mark_mono hJn hmz
         refine WD.gR ?_
         refine WD.loud (i := 24) (by kernel_rfl) rfl rfl rfl ?_
         refine Op.buildSlice rfl ty_sl_22 ty_el2_22 rfl rfl rfl rfl (vs := [_, _, _, _, _, _, _, _]) rfl (segs := [(0, [_]), (1, [_]), (2, [_]), (3, [_]), (4, [_]), (5, [_]), (6, [_]), (7, [_])]) (cs := ([(.slice (some ⟨bz, 0, none⟩) 2 2, [80, 66]), (.slice (some ⟨b5, 0, none⟩) 1 1, leB p.parts.toNat 1), (.slice (some ⟨b8, 0, none⟩) 1 1, leB p.index.toNat 1), (.slice (some ⟨b12, 0, none⟩) 2 2, leB p.data.length 2), (.slice (some ⟨b15, 0, none⟩) 6 6, leB p.no.toNat 6), (.slice (some ⟨b18, 0, none⟩) 6 6, leB p.place.toNat 6), (.slice (some ⟨b21, 0, none⟩) 4 4, leB p.era.toNat 4), (.slice Av p.data.length cv, p.data)] : List (Value × List UInt8)).map (·.1)) rfl rfl (by repeat (first | exact SetSeg.nil | apply SetSeg.one | exact SetAt.zero | apply SetAt.succ)) (fun bx => ?_)
         refine WD.gR ?_
         refine WD.loud (i := 25) (by kernel_rfl) rfl rfl rfl ?_
         refine Op.cl (seg_cat hmz hb5 hb8 hb12 hb15 hb18 hb21 hv hl.2) rfl Try.func68 rfl rfl rfl rfl ?_
         rintro v J Lo - ⟨rfl, hown⟩
         try simp only [nf]
         refine WD.gR ?_
         refine WD.loud (i := 26) (by kernel_rfl) rfl rfl rfl ?_
         refine Op.copyB (k := 0) (m := 220) (m2 := 22 + p.data.length) (q := 22 + p.data.length) (old := List.replicate 220 0) (new := pin p) (s := phead p ++ p.data) rfl ty_sl_46 rfl rfl rfl rfl (SlAt.blk (Nat.le_refl _)) (hown.rd (by intro p hp; simp [hp])) (Nat.min_eq_left (by omega)) (by rw [List.length_replicate]; omega) (pin_lay hl.2) (by repeat (first | exact Upd.head | apply Upd.tail | apply Upd.tailS)) ?_
         refine WD.go (.inl rfl) (fun _ _ h => h.elim) ?_
         refine WD.done (by kernel_rfl) ?_
         refine WP.sub [(0, _), (1, _), (2, _), (3, _), (4, _), (11, _)] ?_ ⟨rfl, rfl, rfl, rfl, rfl, rfl, trivial⟩
         exact WP.mt Jn hle ⟨rfl, rfl, trivial⟩ rfl
        ·refine WP.oper rfl rfl ?_
         refine Op.cl (super_putI (k := 6) ⟨by decide, by decide⟩ ⟨by have := hm.place; omega, by have := hm.place; omega⟩) rfl Try.func69 rfl rfl rfl rfl ?_
         rintro v J L1 - ⟨b18, rfl, rfl, rfl⟩
         try simp only [nf]
         refine WP.share (fun Jn hJn hb18 => ?_)
         replace hle := Imm.le_trans hle hJn
         replace hv := hv.mono (fun b o h => hJn.2 b o h)
         try replace hb5 := hJn.2 _ _ hb5
         try replace hb8 := hJn.2 _ _ hb8
         try replace hb12 := hJn.2 _ _ hb12
         try replace hb15 := hJn.2 _ _ hb15
         try replace hb21 := hJn.2 _ _ hb21
         try replace hmz := mark_mono hJn hmz
         refine WD.gR ?_
         refine WD.both (i := 2) (j := 21) (by kernel_rfl) rfl rfl ?_ ?_
         ·refine WP.oper rfl rfl ?_
          refine Op.mark (cs := bytesV [80, 66]) rfl Try.underlying46 (by kernel_rfl) rfl rfl rfl (by repeat (first | exact Rm.chunk | exact Rm.here | exact Rm.nil0 | apply Rm.skip | apply Rm.skipS)) (fun Jn hJn hmz => ?_)
          replace hle := Imm.le_trans hle hJn
          replace hv := hv.mono (fun b o h => hJn.2 b o h)
          try replace hb5 := hJn.2 _ _ hb5
          try replace hb8 := hJn.2 _ _ hb8
          try replace hb12 := hJn.2 _ _ hb12
          try replace hb15 := hJn.2 _ _ hb15
          try replace hb18 := hJn.2 _ _ hb18
          try replace hb21 := hJn.2 _ _ hb21
          refine WD.gR ?_
          refine WD.loud (i := 21) (by kernel_rfl) rfl rfl rfl ?_
          refine Op.cl (super_putI (k := 4) ⟨by decide, by decide⟩ ⟨by have := hm.era; omega, by have := hm.era; omega⟩) rfl Try.func69 rfl rfl rfl rfl ?_
          rintro v J L1 - ⟨b21, rfl, rfl, rfl⟩
          try simp only [nf]
          refine WP.share (fun Jn hJn hb21 => ?_)
          replace hle := Imm.le_trans hle hJn
          replace hv := hv.mono (fun b o h => hJn.2 b o h)
          try replace hb5 := hJn.2 _ _ hb5
          try replace hb8 := hJn.2 _ _ hb8
          try replace hb12 := hJn.2 _ _ hb12
          try replace hb15 := hJn.2 _ _ hb15
          try replace hb18 := hJn.2 _ _ hb18
          try replace hmz := mark_mono hJn hmz
          refine WD.gR ?_
          refine WD.loud (i := 24) (by kernel_rfl) rfl rfl rfl ?_
          refine Op.buildSlice rfl ty_sl_22 ty_el2_22 rfl rfl rfl rfl (vs := [_, _, _, _, _, _, _, _]) rfl (segs := [(0, [_]), (1, [_]), (2, [_]), (3, [_]), (4, [_]), (5, [_]), (6, [_]), (7, [_])]) (cs := ([(.slice (some ⟨bz, 0, none⟩) 2 2, [80, 66]), (.slice (some ⟨b5, 0, none⟩) 1 1, leB p.parts.toNat 1), (.slice (some ⟨b8, 0, none⟩) 1 1, leB p.index.toNat 1), (.slice (some ⟨b12, 0, none⟩) 2 2, leB p.data.length 2), (.slice (some ⟨b15, 0, none⟩) 6 6, leB p.no.toNat 6), (.slice (some ⟨b18, 0, none⟩) 6 6, leB p.place.toNat 6), (.slice (some ⟨b21, 0, none⟩) 4 4, leB p.era.toNat 4), (.slice Av p.data.length cv, p.data)] : List (Value × List UInt8)).map (·.1)) rfl rfl (by repeat (first | exact SetSeg.nil | apply SetSeg.one | exact SetAt.zero | apply SetAt.succ)) (fun bx => ?_)
          refine WD.gR ?_
          refine WD.loud (i := 25) (by kernel_rfl) rfl rfl rfl ?_
          refine Op.cl (seg_cat hmz hb5 hb8 hb12 hb15 hb18 hb21 hv hl.2) rfl Try.func68 rfl rfl rfl rfl ?_
          rintro v J Lo - ⟨rfl, hown⟩
          try simp only [nf]
          refine WD.gR ?_
          refine WD.loud (i := 26) (by kernel_rfl) rfl rfl rfl ?_
          refine Op.copyB (k := 0) (m := 220) (m2 := 22 + p.data.length) (q := 22 + p.data.length) (old := List.replicate 220 0) (new := pin p) (s := phead p ++ p.data) rfl ty_sl_46 rfl rfl rfl rfl (SlAt.blk (Nat.le_refl _)) (hown.rd (by intro p hp; simp [hp])) (Nat.min_eq_left (by omega)) (by rw [List.length_replicate]; omega) (pin_lay hl.2) (by repeat (first | exact Upd.head | apply Upd.tail | apply Upd.tailS)) ?_
          refine WD.go (.inl rfl) (fun _ _ h => h.elim) ?_
          refine WD.done (by kernel_rfl) ?_
          refine WP.sub [(0, _), (1, _), (2, _), (3, _), (4, _), (11, _)] ?_ ⟨rfl, rfl, rfl, rfl, rfl, rfl, trivial⟩
          exact WP.mt Jn hle ⟨rfl, rfl, trivial⟩ rfl
         ·refine WP.oper rfl rfl ?_
          refine Op.cl (super_putI (k := 4) ⟨by decide, by decide⟩ ⟨by have := hm.era; omega, by have := hm.era; omega⟩) rfl Try.func69 rfl rfl rfl rfl ?_
          rintro v J L1 - ⟨b21, rfl, rfl, rfl⟩
          try simp only [nf]
          refine WP.share (fun Jn hJn hb21 => ?_)
          replace hle := Imm.le_trans hle hJn
          replace hv := hv.mono (fun b o h => hJn.2 b o h)
          try replace hb5 := hJn.2 _ _ hb5
          try replace hb8 := hJn.2 _ _ hb8
          try replace hb12 := hJn.2 _ _ hb12
          try replace hb15 := hJn.2 _ _ hb15
          try replace hb18 := hJn.2 _ _ hb18
          try replace hmz := mark_mono hJn hmz
          refine WD.gR ?_
          refine WD.loud (i := 2) (by kernel_rfl) rfl rfl rfl ?_
          refine Op.mark (cs := bytesV [80, 66]) rfl Try.underlying46 (by kernel_rfl) rfl rfl rfl (by repeat (first | exact Rm.chunk | exact Rm.here | exact Rm.nil0 | apply Rm.skip | apply Rm.skipS)) (fun Jn hJn hmz => ?_)
          replace hle := Imm.le_trans hle hJn
          replace hv := hv.mono (fun b o h => hJn.2 b o h)
          try replace hb5 := hJn.2 _ _ hb5
          try replace hb8 := hJn.2 _ _ hb8
          try replace hb12 := hJn.2 _ _ hb12
          try replace hb15 := hJn.2 _ _ hb15
          try replace hb18 := hJn.2 _ _ hb18
          try replace hb21 := hJn.2 _ _ hb21
          refine WD.gR ?_
          refine WD.loud (i := 24) (by kernel_rfl) rfl rfl rfl ?_
          refine Op.buildSlice rfl ty_sl_22 ty_el2_22 rfl rfl rfl rfl (vs := [_, _, _, _, _, _, _, _]) rfl (segs := [(0, [_]), (1, [_]), (2, [_]), (3, [_]), (4, [_]), (5, [_]), (6, [_]), (7, [_])]) (cs := ([(.slice (some ⟨bz, 0, none⟩) 2 2, [80, 66]), (.slice (some ⟨b5, 0, none⟩) 1 1, leB p.parts.toNat 1), (.slice (some ⟨b8, 0, none⟩) 1 1, leB p.index.toNat 1), (.slice (some ⟨b12, 0, none⟩) 2 2, leB p.data.length 2), (.slice (some ⟨b15, 0, none⟩) 6 6, leB p.no.toNat 6), (.slice (some ⟨b18, 0, none⟩) 6 6, leB p.place.toNat 6), (.slice (some ⟨b21, 0, none⟩) 4 4, leB p.era.toNat 4), (.slice Av p.data.length cv, p.data)] : List (Value × List UInt8)).map (·.1)) rfl rfl (by repeat (first | exact SetSeg.nil | apply SetSeg.one | exact SetAt.zero | apply SetAt.succ)) (fun bx => ?_)
          refine WD.gR ?_
          refine WD.loud (i := 25) (by kernel_rfl) rfl rfl rfl ?_
          refine Op.cl (seg_cat hmz hb5 hb8 hb12 hb15 hb18 hb21 hv hl.2) rfl Try.func68 rfl rfl rfl rfl ?_
          rintro v J Lo - ⟨rfl, hown⟩
          try simp only [nf]
          refine WD.gR ?_
          refine WD.loud (i := 26) (by kernel_rfl) rfl rfl rfl ?_
          refine Op.copyB (k := 0) (m := 220) (m2 := 22 + p.data.length) (q := 22 + p.data.length) (old := List.replicate 220 0) (new := pin p) (s := phead p ++ p.data) rfl ty_sl_46 rfl rfl rfl rfl (SlAt.blk (Nat.le_refl _)) (hown.rd (by intro p hp; simp [hp])) (Nat.min_eq_left (by omega)) (by rw [List.length_replicate]; omega) (pin_lay hl.2) (by repeat (first | exact Upd.head | apply Upd.tail | apply Upd.tailS)) ?_
          refine WD.go (.inl rfl) (fun _ _ h => h.elim) ?_
          refine WD.done (by kernel_rfl) ?_
          refine WP.sub [(0, _), (1, _), (2, _), (3, _), (4, _), (11, _)] ?_ ⟨rfl, rfl, rfl, rfl, rfl, rfl, trivial⟩
          exact WP.mt Jn hle ⟨rfl, rfl, trivial⟩ rfl
      ·refine WP.oper rfl rfl ?_
       refine Op.cl (super_putI (k := 6) ⟨by decide, by decide⟩ ⟨by have := hm.no; omega, by have := hm.no; omega⟩) rfl Try.func69 rfl rfl rfl rfl ?_
       rintro v J L1 - ⟨b15, rfl, rfl, rfl⟩
       try simp only [nf]
       refine WP.share (fun Jn hJn hb15 => ?_)
       replace hle := Imm.le_trans hle hJn
       replace hv := hv.mono (fun b o h => hJn.2 b o h)
       try replace hb5 := hJn.2 _ _ hb5
       try replace hb8 := hJn.2 _ _ hb8
       try replace hb12 := hJn.2 _ _ hb12
       try replace hb18 := hJn.2 _ _ hb18
       try replace hb21 := hJn.2 _ _ hb21
       try replace hmz := mark_mono hJn hmz
       refine WD.gR ?_
       refine WD.both (i := 1) (j := 18) (by kernel_rfl) rfl rfl ?_ ?_
       ·refine WP.oper rfl rfl ?_
        refine Op.buildSlice rfl ty_sl_46 ty_el2_46 rfl rfl rfl rfl (vs := [_, _]) rfl (segs := [(0, [_]), (1, [_])]) (cs := bytesV [80, 66]) rfl rfl (by repeat (first | exact SetSeg.nil | apply SetSeg.one | exact SetAt.zero | apply SetAt.succ)) (fun bz => ?_)
        refine WD.gR ?_
        refine WD.both (i := 2) (j := 18) (by kernel_rfl) rfl rfl ?_ ?_
        ·refine WP.oper rfl rfl ?_
         refine Op.mark (cs := bytesV [80, 66]) rfl Try.underlying46 (by kernel_rfl) rfl rfl rfl (by repeat (first | exact Rm.chunk | exact Rm.here | exact Rm.nil0 | apply Rm.skip | apply Rm.skipS)) (fun Jn hJn hmz => ?_)
         replace hle := Imm.le_trans hle hJn
         replace hv := hv.mono (fun b o h => hJn.2 b o h)
         try replace hb5 := hJn.2 _ _ hb5
         try replace hb8 := hJn.2 _ _ hb8
         try replace hb12 := hJn.2 _ _ hb12
         try replace hb15 := hJn.2 _ _ hb15
         try replace hb18 := hJn.2 _ _ hb18
         try replace hb21 := hJn.2 _ _ hb21
         refine WD.gR ?_
         refine WD.loud (i := 18) (by kernel_rfl) rfl rfl rfl ?_
         refine Op.cl (super_putI (k := 6) ⟨by decide, by decide⟩ ⟨by have := hm.place; omega, by have := hm.place; omega⟩) rfl Try.func69 rfl rfl rfl rfl ?_
         rintro v J L1 - ⟨b18, rfl, rfl, rfl⟩
         try simp only [nf]
         refine WP.share (fun Jn hJn hb18 => ?_)
         replace hle := Imm.le_trans hle hJn
         replace hv := hv.mono (fun b o h => hJn.2 b o h)
         try replace hb5 := hJn.2 _ _ hb5
         try replace hb8 := hJn.2 _ _ hb8
         try replace hb12 := hJn.2 _ _ hb12
         try replace hb15 := hJn.2 _ _ hb15
         try replace hb21 := hJn.2 _ _ hb21
         try replace hmz := mark_mono hJn hmz
         refine WD.gR ?_
         refine WD.loud (i := 21) (by kernel_rfl) rfl rfl rfl ?_
         refine Op.cl (super_putI (k := 4) ⟨by decide, by decide⟩ ⟨by have := hm.era; omega, by have := hm.era; omega⟩) rfl Try.func69 rfl rfl rfl rfl ?_
         rintro v J L1 - ⟨b21, rfl, rfl, rfl⟩
         try simp only [nf]
         refine WP.share (fun Jn hJn hb21 => ?_)
         replace hle := Imm.le_trans hle hJn
         replace hv := hv.mono (fun b o h => hJn.2 b o h)
         try replace hb5 := hJn.2 _ _ hb5
         try replace hb8 := hJn.2 _ _ hb8
         try replace hb12 := hJn.2 _ _ hb12
         try replace hb15 := hJn.2 _ _ hb15
         try replace hb18 := hJn.2 _ _ hb18
         try replace hmz := mark_mono hJn hmz
         refine WD.gR ?_
         refine WD.loud (i := 24) (by kernel_rfl) rfl rfl rfl ?_
         refine Op.buildSlice rfl ty_sl_22 ty_el2_22 rfl rfl rfl rfl (vs := [_, _, _, _, _, _, _, _]) rfl (segs := [(0, [_]), (1, [_]), (2, [_]), (3, [_]), (4, [_]), (5, [_]), (6, [_]), (7, [_])]) (cs := ([(.slice (some ⟨bz, 0, none⟩) 2 2, [80, 66]), (.slice (some ⟨b5, 0, none⟩) 1 1, leB p.parts.toNat 1), (.slice (some ⟨b8, 0, none⟩) 1 1, leB p.index.toNat 1), (.slice (some ⟨b12, 0, none⟩) 2 2, leB p.data.length 2), (.slice (some ⟨b15, 0, none⟩) 6 6, leB p.no.toNat 6), (.slice (some ⟨b18, 0, none⟩) 6 6, leB p.place.toNat 6), (.slice (some ⟨b21, 0, none⟩) 4 4, leB p.era.toNat 4), (.slice Av p.data.length cv, p.data)] : List (Value × List UInt8)).map (·.1)) rfl rfl (by repeat (first | exact SetSeg.nil | apply SetSeg.one | exact SetAt.zero | apply SetAt.succ)) (fun bx => ?_)
         refine WD.gR ?_
         refine WD.loud (i := 25) (by kernel_rfl) rfl rfl rfl ?_
         refine Op.cl (seg_cat hmz hb5 hb8 hb12 hb15 hb18 hb21 hv hl.2) rfl Try.func68 rfl rfl rfl rfl ?_
         rintro v J Lo - ⟨rfl, hown⟩
         try simp only [nf]
         refine WD.gR ?_
         refine WD.loud (i := 26) (by kernel_rfl) rfl rfl rfl ?_
         refine Op.copyB (k := 0) (m := 220) (m2 := 22 + p.data.length) (q := 22 + p.data.length) (old := List.replicate 220 0) (new := pin p) (s := phead p ++ p.data) rfl ty_sl_46 rfl rfl rfl rfl (SlAt.blk (Nat.le_refl _)) (hown.rd (by intro p hp; simp [hp])) (Nat.min_eq_left (by omega)) (by rw [List.length_replicate]; omega) (pin_lay hl.2) (by repeat (first | exact Upd.head | apply Upd.tail | apply Upd.tailS)) ?_
         refine WD.go (.inl rfl) (fun _ _ h => h.elim) ?_
         refine WD.done (by kernel_rfl) ?_
         refine WP.sub [(0, _), (1, _), (2, _), (3, _), (4, _), (11, _)] ?_ ⟨rfl, rfl, rfl, rfl, rfl, rfl, trivial⟩
         exact WP.mt Jn hle ⟨rfl, rfl, trivial⟩ rfl
        ·refine WP.oper rfl rfl ?_
         refine Op.cl (super_putI (k := 6) ⟨by decide, by decide⟩ ⟨by have := hm.place; omega, by have := hm.place; omega⟩) rfl Try.func69 rfl rfl rfl rfl ?_
         rintro v J L1 - ⟨b18, rfl, rfl, rfl⟩
         try simp only [nf]
         refine WP.share (fun Jn hJn hb18 => ?_)
         replace hle := Imm.le_trans hle hJn
         replace hv := hv.mono (fun b o h => hJn.2 b o h)
         try replace hb5 := hJn.2 _ _ hb5
         try replace hb8 := hJn.2 _ _ hb8
         try replace hb12 := hJn.2 _ _ hb12
         try replace hb15 := hJn.2 _ _ hb15
         try replace hb21 := hJn.2 _ _ hb21
         try replace hmz := mark_mono hJn hmz
         refine WD.gR ?_
         refine WD.both (i := 2) (j := 21) (by kernel_rfl) rfl rfl ?_ ?_
         ·refine WP.oper rfl rfl ?_
          refine Op.mark (cs := bytesV [80, 66]) rfl Try.underlying46 (by kernel_rfl) rfl rfl rfl (by repeat (first | exact Rm.chunk | exact Rm.here | exact Rm.nil0 | apply Rm.skip | apply Rm.skipS)) (fun Jn hJn hmz => ?_)
          replace hle := Imm.le_trans hle hJn
          replace hv := hv.mono (fun b o h => hJn.2 b o h)
          try replace hb5 := hJn.2 _ _ hb5
          try replace hb8 := hJn.2 _ _ hb8
          try replace hb12 := hJn.2 _ _ hb12
          try replace hb15 := hJn.2 _ _ hb15
          try replace hb18 := hJn.2 _ _ hb18
          try replace hb21 := hJn.2 _ _ hb21
          refine WD.gR ?_
          refine WD.loud (i := 21) (by kernel_rfl) rfl rfl rfl ?_
          refine Op.cl (super_putI (k := 4) ⟨by decide, by decide⟩ ⟨by have := hm.era; omega, by have := hm.era; omega⟩) rfl Try.func69 rfl rfl rfl rfl ?_
          rintro v J L1 - ⟨b21, rfl, rfl, rfl⟩
          try simp only [nf]
          refine WP.share (fun Jn hJn hb21 => ?_)
          replace hle := Imm.le_trans hle hJn
          replace hv := hv.mono (fun b o h => hJn.2 b o h)
          try replace hb5 := hJn.2 _ _ hb5
          try replace hb8 := hJn.2 _ _ hb8
          try replace hb12 := hJn.2 _ _ hb12
          try replace hb15 := hJn.2 _ _ hb15
          try replace hb18 := hJn.2 _ _ hb18
          try replace hmz := mark_mono hJn hmz
          refine WD.gR ?_
          refine WD.loud (i := 24) (by kernel_rfl) rfl rfl rfl ?_
          refine Op.buildSlice rfl ty_sl_22 ty_el2_22 rfl rfl rfl rfl (vs := [_, _, _, _, _, _, _, _]) rfl (segs := [(0, [_]), (1, [_]), (2, [_]), (3, [_]), (4, [_]), (5, [_]), (6, [_]), (7, [_])]) (cs := ([(.slice (some ⟨bz, 0, none⟩) 2 2, [80, 66]), (.slice (some ⟨b5, 0, none⟩) 1 1, leB p.parts.toNat 1), (.slice (some ⟨b8, 0, none⟩) 1 1, leB p.index.toNat 1), (.slice (some ⟨b12, 0, none⟩) 2 2, leB p.data.length 2), (.slice (some ⟨b15, 0, none⟩) 6 6, leB p.no.toNat 6), (.slice (some ⟨b18, 0, none⟩) 6 6, leB p.place.toNat 6), (.slice (some ⟨b21, 0, none⟩) 4 4, leB p.era.toNat 4), (.slice Av p.data.length cv, p.data)] : List (Value × List UInt8)).map (·.1)) rfl rfl (by repeat (first | exact SetSeg.nil | apply SetSeg.one | exact SetAt.zero | apply SetAt.succ)) (fun bx => ?_)
          refine WD.gR ?_
          refine WD.loud (i := 25) (by kernel_rfl) rfl rfl rfl ?_
          refine Op.cl (seg_cat hmz hb5 hb8 hb12 hb15 hb18 hb21 hv hl.2) rfl Try.func68 rfl rfl rfl rfl ?_
          rintro v J Lo - ⟨rfl, hown⟩
          try simp only [nf]
          refine WD.gR ?_
          refine WD.loud (i := 26) (by kernel_rfl) rfl rfl rfl ?_
          refine Op.copyB (k := 0) (m := 220) (m2 := 22 + p.data.length) (q := 22 + p.data.length) (old := List.replicate 220 0) (new := pin p) (s := phead p ++ p.data) rfl ty_sl_46 rfl rfl rfl rfl (SlAt.blk (Nat.le_refl _)) (hown.rd (by intro p hp; simp [hp])) (Nat.min_eq_left (by omega)) (by rw [List.length_replicate]; omega) (pin_lay hl.2) (by repeat (first | exact Upd.head | apply Upd.tail | apply Upd.tailS)) ?_
          refine WD.go (.inl rfl) (fun _ _ h => h.elim) ?_
          refine WD.done (by kernel_rfl) ?_
          refine WP.sub [(0, _), (1, _), (2, _), (3, _), (4, _), (11, _)] ?_ ⟨rfl, rfl, rfl, rfl, rfl, rfl, trivial⟩
          exact WP.mt Jn hle ⟨rfl, rfl, trivial⟩ rfl
         ·refine WP.oper rfl rfl ?_
          refine Op.cl (super_putI (k := 4) ⟨by decide, by decide⟩ ⟨by have := hm.era; omega, by have := hm.era; omega⟩) rfl Try.func69 rfl rfl rfl rfl ?_
          rintro v J L1 - ⟨b21, rfl, rfl, rfl⟩
          try simp only [nf]
          refine WP.share (fun Jn hJn hb21 => ?_)
          replace hle := Imm.le_trans hle hJn
          replace hv := hv.mono (fun b o h => hJn.2 b o h)
          try replace hb5 := hJn.2 _ _ hb5
          try replace hb8 := hJn.2 _ _ hb8
          try replace hb12 := hJn.2 _ _ hb12
          try replace hb15 := hJn.2 _ _ hb15
          try replace hb18 := hJn.2 _ _ hb18
          try replace hmz := mark_mono hJn hmz
          refine WD.gR ?_
          refine WD.loud (i := 2) (by kernel_rfl) rfl rfl rfl ?_
          refine Op.mark (cs := bytesV [80, 66]) rfl Try.underlying46 (by kernel_rfl) rfl rfl rfl (by repeat (first | exact Rm.chunk | exact Rm.here | exact Rm.nil0 | apply Rm.skip | apply Rm.skipS)) (fun Jn hJn hmz => ?_)
          replace hle := Imm.le_trans hle hJn
          replace hv := hv.mono (fun b o h => hJn.2 b o h)
          try replace hb5 := hJn.2 _ _ hb5
          try replace hb8 := hJn.2 _ _ hb8
          try replace hb12 := hJn.2 _ _ hb12
          try replace hb15 := hJn.2 _ _ hb15
          try replace hb18 := hJn.2 _ _ hb18
          try replace hb21 := hJn.2 _ _ hb21
          refine WD.gR ?_
          refine WD.loud (i := 24) (by kernel_rfl) rfl rfl rfl ?_
          refine Op.buildSlice rfl ty_sl_22 ty_el2_22 rfl rfl rfl rfl (vs := [_, _, _, _, _, _, _, _]) rfl (segs := [(0, [_]), (1, [_]), (2, [_]), (3, [_]), (4, [_]), (5, [_]), (6, [_]), (7, [_])]) (cs := ([(.slice (some ⟨bz, 0, none⟩) 2 2, [80, 66]), (.slice (some ⟨b5, 0, none⟩) 1 1, leB p.parts.toNat 1), (.slice (some ⟨b8, 0, none⟩) 1 1, leB p.index.toNat 1), (.slice (some ⟨b12, 0, none⟩) 2 2, leB p.data.length 2), (.slice (some ⟨b15, 0, none⟩) 6 6, leB p.no.toNat 6), (.slice (some ⟨b18, 0, none⟩) 6 6, leB p.place.toNat 6), (.slice (some ⟨b21, 0, none⟩) 4 4, leB p.era.toNat 4), (.slice Av p.data.length cv, p.data)] : List (Value × List UInt8)).map (·.1)) rfl rfl (by repeat (first | exact SetSeg.nil | apply SetSeg.one | exact SetAt.zero | apply SetAt.succ)) (fun bx => ?_)
          refine WD.gR ?_
          refine WD.loud (i := 25) (by kernel_rfl) rfl rfl rfl ?_
          refine Op.cl (seg_cat hmz hb5 hb8 hb12 hb15 hb18 hb21 hv hl.2) rfl Try.func68 rfl rfl rfl rfl ?_
          rintro v J Lo - ⟨rfl, hown⟩
          try simp only [nf]
          refine WD.gR ?_
          refine WD.loud (i := 26) (by kernel_rfl) rfl rfl rfl ?_
          refine Op.copyB (k := 0) (m := 220) (m2 := 22 + p.data.length) (q := 22 + p.data.length) (old := List.replicate 220 0) (new := pin p) (s := phead p ++ p.data) rfl ty_sl_46 rfl rfl rfl rfl (SlAt.blk (Nat.le_refl _)) (hown.rd (by intro p hp; simp [hp])) (Nat.min_eq_left (by omega)) (by rw [List.length_replicate]; omega) (pin_lay hl.2) (by repeat (first | exact Upd.head | apply Upd.tail | apply Upd.tailS)) ?_
          refine WD.go (.inl rfl) (fun _ _ h => h.elim) ?_
          refine WD.done (by kernel_rfl) ?_
          refine WP.sub [(0, _), (1, _), (2, _), (3, _), (4, _), (11, _)] ?_ ⟨rfl, rfl, rfl, rfl, rfl, rfl, trivial⟩
          exact WP.mt Jn hle ⟨rfl, rfl, trivial⟩ rfl
       ·refine WP.oper rfl rfl ?_
        refine Op.cl (super_putI (k := 6) ⟨by decide, by decide⟩ ⟨by have := hm.place; omega, by have := hm.place; omega⟩) rfl Try.func69 rfl rfl rfl rfl ?_
        rintro v J L1 - ⟨b18, rfl, rfl, rfl⟩
        try simp only [nf]
        refine WP.share (fun Jn hJn hb18 => ?_)
        replace hle := Imm.le_trans hle hJn
        replace hv := hv.mono (fun b o h => hJn.2 b o h)
        try replace hb5 := hJn.2 _ _ hb5
        try replace hb8 := hJn.2 _ _ hb8
        try replace hb12 := hJn.2 _ _ hb12
        try replace hb15 := hJn.2 _ _ hb15
        try replace hb21 := hJn.2 _ _ hb21
        try replace hmz := mark_mono hJn hmz
        refine WD.gR ?_
        refine WD.both (i := 1) (j := 21) (by kernel_rfl) rfl rfl ?_ ?_
        ·refine WP.oper rfl rfl ?_
         refine Op.buildSlice rfl ty_sl_46 ty_el2_46 rfl rfl rfl rfl (vs := [_, _]) rfl (segs := [(0, [_]), (1, [_])]) (cs := bytesV [80, 66]) rfl rfl (by repeat (first | exact SetSeg.nil | apply SetSeg.one | exact SetAt.zero | apply SetAt.succ)) (fun bz => ?_)
         refine WD.gR ?_
         refine WD.both (i := 2) (j := 21) (by kernel_rfl) rfl rfl ?_ ?_
         ·refine WP.oper rfl rfl ?_
          refine Op.mark (cs := bytesV [80, 66]) rfl Try.underlying46 (by kernel_rfl) rfl rfl rfl (by repeat (first | exact Rm.chunk | exact Rm.here | exact Rm.nil0 | apply Rm.skip | apply Rm.skipS)) (fun Jn hJn hmz => ?_)
          replace hle := Imm.le_trans hle hJn
          replace hv := hv.mono (fun b o h => hJn.2 b o h)
          try replace hb5 := hJn.2 _ _ hb5
          try replace hb8 := hJn.2 _ _ hb8
          try replace hb12 := hJn.2 _ _ hb12
          try replace hb15 := hJn.2 _ _ hb15
          try replace hb18 := hJn.2 _ _ hb18
          try replace hb21 := hJn.2 _ _ hb21
          refine WD.gR ?_
          refine WD.loud (i := 21) (by kernel_rfl) rfl rfl rfl ?_
          refine Op.cl (super_putI (k := 4) ⟨by decide, by decide⟩ ⟨by have := hm.era; omega, by have := hm.era; omega⟩) rfl Try.func69 rfl rfl rfl rfl ?_
          rintro v J L1 - ⟨b21, rfl, rfl, rfl⟩
          try simp only [nf]
          refine WP.share (fun Jn hJn hb21 => ?_)
          replace hle := Imm.le_trans hle hJn
          replace hv := hv.mono (fun b o h => hJn.2 b o h)
          try replace hb5 := hJn.2 _ _ hb5
          try replace hb8 := hJn.2 _ _ hb8
          try replace hb12 := hJn.2 _ _ hb12
          try replace hb15 := hJn.2 _ _ hb15
          try replace hb18 := hJn.2 _ _ hb18
          try replace hmz := mark_mono hJn hmz
          refine WD.gR ?_
          refine WD.loud (i := 24) (by kernel_rfl) rfl rfl rfl ?_
          refine Op.buildSlice rfl ty_sl_22 ty_el2_22 rfl rfl rfl rfl (vs := [_, _, _, _, _, _, _, _]) rfl (segs := [(0, [_]), (1, [_]), (2, [_]), (3, [_]), (4, [_]), (5, [_]), (6, [_]), (7, [_])]) (cs := ([(.slice (some ⟨bz, 0, none⟩) 2 2, [80, 66]), (.slice (some ⟨b5, 0, none⟩) 1 1, leB p.parts.toNat 1), (.slice (some ⟨b8, 0, none⟩) 1 1, leB p.index.toNat 1), (.slice (some ⟨b12, 0, none⟩) 2 2, leB p.data.length 2), (.slice (some ⟨b15, 0, none⟩) 6 6, leB p.no.toNat 6), (.slice (some ⟨b18, 0, none⟩) 6 6, leB p.place.toNat 6), (.slice (some ⟨b21, 0, none⟩) 4 4, leB p.era.toNat 4), (.slice Av p.data.length cv, p.data)] : List (Value × List UInt8)).map (·.1)) rfl rfl (by repeat (first | exact SetSeg.nil | apply SetSeg.one | exact SetAt.zero | apply SetAt.succ)) (fun bx => ?_)
          refine WD.gR ?_
          refine WD.loud (i := 25) (by kernel_rfl) rfl rfl rfl ?_
          refine Op.cl (seg_cat hmz hb5 hb8 hb12 hb15 hb18 hb21 hv hl.2) rfl Try.func68 rfl rfl rfl rfl ?_
          rintro v J Lo - ⟨rfl, hown⟩
          try simp only [nf]
          refine WD.gR ?_
          refine WD.loud (i := 26) (by kernel_rfl) rfl rfl rfl ?_
          refine Op.copyB (k := 0) (m := 220) (m2 := 22 + p.data.length) (q := 22 + p.data.length) (old := List.replicate 220 0) (new := pin p) (s := phead p ++ p.data) rfl ty_sl_46 rfl rfl rfl rfl (SlAt.blk (Nat.le_refl _)) (hown.rd (by intro p hp; simp [hp])) (Nat.min_eq_left (by omega)) (by rw [List.length_replicate]; omega) (pin_lay hl.2) (by repeat (first | exact Upd.head | apply Upd.tail | apply Upd.tailS)) ?_
          refine WD.go (.inl rfl) (fun _ _ h => h.elim) ?_
          refine WD.done (by kernel_rfl) ?_
          refine WP.sub [(0, _), (1, _), (2, _), (3, _), (4, _), (11, _)] ?_ ⟨rfl, rfl, rfl, rfl, rfl, rfl, trivial⟩
          exact WP.mt Jn hle ⟨rfl, rfl, trivial⟩ rfl
         ·refine WP.oper rfl rfl ?_
          refine Op.cl (super_putI (k := 4) ⟨by decide, by decide⟩ ⟨by have := hm.era; omega, by have := hm.era; omega⟩) rfl Try.func69 rfl rfl rfl rfl ?_
          rintro v J L1 - ⟨b21, rfl, rfl, rfl⟩
          try simp only [nf]
          refine WP.share (fun Jn hJn hb21 => ?_)
          replace hle := Imm.le_trans hle hJn
          replace hv := hv.mono (fun b o h => hJn.2 b o h)
          try replace hb5 := hJn.2 _ _ hb5
          try replace hb8 := hJn.2 _ _ hb8
          try replace hb12 := hJn.2 _ _ hb12
          try replace hb15 := hJn.2 _ _ hb15
          try replace hb18 := hJn.2 _ _ hb18
          try replace hmz := mark_mono hJn hmz
          refine WD.gR ?_
          refine WD.loud (i := 2) (by kernel_rfl) rfl rfl rfl ?_
          refine Op.mark (cs := bytesV [80, 66]) rfl Try.underlying46 (by kernel_rfl) rfl rfl rfl (by repeat (first | exact Rm.chunk | exact Rm.here | exact Rm.nil0 | apply Rm.skip | apply Rm.skipS)) (fun Jn hJn hmz => ?_)
          replace hle := Imm.le_trans hle hJn
          replace hv := hv.mono (fun b o h => hJn.2 b o h)
          try replace hb5 := hJn.2 _ _ hb5
          try replace hb8 := hJn.2 _ _ hb8
          try replace hb12 := hJn.2 _ _ hb12
          try replace hb15 := hJn.2 _ _ hb15
          try replace hb18 := hJn.2 _ _ hb18
          try replace hb21 := hJn.2 _ _ hb21
          refine WD.gR ?_
          refine WD.loud (i := 24) (by kernel_rfl) rfl rfl rfl ?_
          refine Op.buildSlice rfl ty_sl_22 ty_el2_22 rfl rfl rfl rfl (vs := [_, _, _, _, _, _, _, _]) rfl (segs := [(0, [_]), (1, [_]), (2, [_]), (3, [_]), (4, [_]), (5, [_]), (6, [_]), (7, [_])]) (cs := ([(.slice (some ⟨bz, 0, none⟩) 2 2, [80, 66]), (.slice (some ⟨b5, 0, none⟩) 1 1, leB p.parts.toNat 1), (.slice (some ⟨b8, 0, none⟩) 1 1, leB p.index.toNat 1), (.slice (some ⟨b12, 0, none⟩) 2 2, leB p.data.length 2), (.slice (some ⟨b15, 0, none⟩) 6 6, leB p.no.toNat 6), (.slice (some ⟨b18, 0, none⟩) 6 6, leB p.place.toNat 6), (.slice (some ⟨b21, 0, none⟩) 4 4, leB p.era.toNat 4), (.slice Av p.data.length cv, p.data)] : List (Value × List UInt8)).map (·.1)) rfl rfl (by repeat (first | exact SetSeg.nil | apply SetSeg.one | exact SetAt.zero | apply SetAt.succ)) (fun bx => ?_)
          refine WD.gR ?_
          refine WD.loud (i := 25) (by kernel_rfl) rfl rfl rfl ?_
          refine Op.cl (seg_cat hmz hb5 hb8 hb12 hb15 hb18 hb21 hv hl.2) rfl Try.func68 rfl rfl rfl rfl ?_
          rintro v J Lo - ⟨rfl, hown⟩
          try simp only [nf]
          refine WD.gR ?_
          refine WD.loud (i := 26) (by kernel_rfl) rfl rfl rfl ?_
          refine Op.copyB (k := 0) (m := 220) (m2 := 22 + p.data.length) (q := 22 + p.data.length) (old := List.replicate 220 0) (new := pin p) (s := phead p ++ p.data) rfl ty_sl_46 rfl rfl rfl rfl (SlAt.blk (Nat.le_refl _)) (hown.rd (by intro p hp; simp [hp])) (Nat.min_eq_left (by omega)) (by rw [List.length_replicate]; omega) (pin_lay hl.2) (by repeat (first | exact Upd.head | apply Upd.tail | apply Upd.tailS)) ?_
          refine WD.go (.inl rfl) (fun _ _ h => h.elim) ?_
          refine WD.done (by kernel_rfl) ?_
          refine WP.sub [(0, _), (1, _), (2, _), (3, _), (4, _), (11, _)] ?_ ⟨rfl, rfl, rfl, rfl, rfl, rfl, trivial⟩
          exact WP.mt Jn hle ⟨rfl, rfl, trivial⟩ rfl
        ·refine WP.oper rfl rfl ?_
         refine Op.cl (super_putI (k := 4) ⟨by decide, by decide⟩ ⟨by have := hm.era; omega, by have := hm.era; omega⟩) rfl Try.func69 rfl rfl rfl rfl ?_
         rintro v J L1 - ⟨b21, rfl, rfl, rfl⟩
         try simp only [nf]
         refine WP.share (fun Jn hJn hb21 => ?_)
         replace hle := Imm.le_trans hle hJn
         replace hv := hv.mono (fun b o h => hJn.2 b o h)
         try replace hb5 := hJn.2 _ _ hb5
         try replace hb8 := hJn.2 _ _ hb8
         try replace hb12 := hJn.2 _ _ hb12
         try replace hb15 := hJn.2 _ _ hb15
         try replace hb18 := hJn.2 _ _ hb18
         try replace hmz := mark_mono hJn hmz
         refine WD.gR ?_
         refine WD.loud (i := 1) (by kernel_rfl) rfl rfl rfl ?_
         refine Op.buildSlice rfl ty_sl_46 ty_el2_46 rfl rfl rfl rfl (vs := [_, _]) rfl (segs := [(0, [_]), (1, [_])]) (cs := bytesV [80, 66]) rfl rfl (by repeat (first | exact SetSeg.nil | apply SetSeg.one | exact SetAt.zero | apply SetAt.succ)) (fun bz => ?_)
         refine WD.gR ?_
         refine WD.loud (i := 2) (by kernel_rfl) rfl rfl rfl ?_
         refine Op.mark (cs := bytesV [80, 66]) rfl Try.underlying46 (by kernel_rfl) rfl rfl rfl (by repeat (first | exact Rm.chunk | exact Rm.here | exact Rm.nil0 | apply Rm.skip | apply Rm.skipS)) (fun Jn hJn hmz => ?_)
         replace hle := Imm.le_trans hle hJn
         replace hv := hv.mono (fun b o h => hJn.2 b o h)
         try replace hb5 := hJn.2 _ _ hb5
         try replace hb8 := hJn.2 _ _ hb8
         try replace hb12 := hJn.2 _ _ hb12
         try replace hb15 := hJn.2 _ _ hb15
         try replace hb18 := hJn.2 _ _ hb18
         try replace hb21 := hJn.2 _ _ hb21
         refine WD.gR ?_
         refine WD.loud (i := 24) (by kernel_rfl) rfl rfl rfl ?_
         refine Op.buildSlice rfl ty_sl_22 ty_el2_22 rfl rfl rfl rfl (vs := [_, _, _, _, _, _, _, _]) rfl (segs := [(0, [_]), (1, [_]), (2, [_]), (3, [_]), (4, [_]), (5, [_]), (6, [_]), (7, [_])]) (cs := ([(.slice (some ⟨bz, 0, none⟩) 2 2, [80, 66]), (.slice (some ⟨b5, 0, none⟩) 1 1, leB p.parts.toNat 1), (.slice (some ⟨b8, 0, none⟩) 1 1, leB p.index.toNat 1), (.slice (some ⟨b12, 0, none⟩) 2 2, leB p.data.length 2), (.slice (some ⟨b15, 0, none⟩) 6 6, leB p.no.toNat 6), (.slice (some ⟨b18, 0, none⟩) 6 6, leB p.place.toNat 6), (.slice (some ⟨b21, 0, none⟩) 4 4, leB p.era.toNat 4), (.slice Av p.data.length cv, p.data)] : List (Value × List UInt8)).map (·.1)) rfl rfl (by repeat (first | exact SetSeg.nil | apply SetSeg.one | exact SetAt.zero | apply SetAt.succ)) (fun bx => ?_)
         refine WD.gR ?_
         refine WD.loud (i := 25) (by kernel_rfl) rfl rfl rfl ?_
         refine Op.cl (seg_cat hmz hb5 hb8 hb12 hb15 hb18 hb21 hv hl.2) rfl Try.func68 rfl rfl rfl rfl ?_
         rintro v J Lo - ⟨rfl, hown⟩
         try simp only [nf]
         refine WD.gR ?_
         refine WD.loud (i := 26) (by kernel_rfl) rfl rfl rfl ?_
         refine Op.copyB (k := 0) (m := 220) (m2 := 22 + p.data.length) (q := 22 + p.data.length) (old := List.replicate 220 0) (new := pin p) (s := phead p ++ p.data) rfl ty_sl_46 rfl rfl rfl rfl (SlAt.blk (Nat.le_refl _)) (hown.rd (by intro p hp; simp [hp])) (Nat.min_eq_left (by omega)) (by rw [List.length_replicate]; omega) (pin_lay hl.2) (by repeat (first | exact Upd.head | apply Upd.tail | apply Upd.tailS)) ?_
         refine WD.go (.inl rfl) (fun _ _ h => h.elim) ?_
         refine WD.done (by kernel_rfl) ?_
         refine WP.sub [(0, _), (1, _), (2, _), (3, _), (4, _), (11, _)] ?_ ⟨rfl, rfl, rfl, rfl, rfl, rfl, trivial⟩
         exact WP.mt Jn hle ⟨rfl, rfl, trivial⟩ rfl
  ·intro Jn hle; have hle : I.le Jn := hle
   refine WP.seq ?_
   have hpl := pin_len hl.2
   have hin0 : Own 5 1 (.slice (some ⟨b4, 0, none⟩) 220 220) (bytesV (pin p)) (pin p).length [(b4, row 5 (bytesV (pin p)))] := by rw [hpl]; exact own_lit hpl
   refine WP.region [0, 1, 2, 3, 4, 5, 6] rfl ?_
   iterate 2 refine WP.mv rfl rfl ?_
   refine WP.loud rfl rfl ?_
   refine Op.cl (crc_OfOwn hin0 (by omega)) rfl Try.func70 rfl rfl rfl rfl ?_
   rintro v J L1 - ⟨rfl, rfl, rfl⟩
   try simp only [nf]
   refine WP.vl rfl (Yld.conv32_64 (crcOf (pin p)) rfl ty_un_138 ty_ik_3 rfl) ?_
   refine WP.loud rfl rfl ?_
   refine Op.cl (super_put (m := (crcOf (pin p)).toNat) (k := 4) ⟨by decide, by decide⟩ (by have := (crcOf (pin p)).isLt; omega)) rfl Try.func69 rfl rfl rfl rfl ?_
   rintro v J L1 - ⟨b44, rfl, rfl, rfl⟩
   try simp only [nf]
   refine WP.loud rfl rfl ?_
   refine Op.append rfl ty_sl_46 ty_el_46 rfl rfl rfl rfl rfl hin0 (SlRd.lit (m := 4) (by repeat (first | exact There.h | exact There.i (by assumption) | apply There.t | apply There.s)) (by rw [bytesV_len, leB_len]) (Nat.le_refl _)) (by repeat (first | exact Take.nil | with_reducible apply Take.cons | apply Take.app | exact Rm.chunk | exact Rm.here | exact Rm.nil0 | apply Rm.skip | apply Rm.skipS | (focus (apply Take.all; (repeat (first | exact Rm.chunk | exact Rm.here | exact Rm.nil0 | apply Rm.skip | apply Rm.skipS)); done)) | apply Take.cons)) (bytesV_one _) (by omega) (by omega) (fun vi Li hi => ?_)
   try simp only [nf]
   have hfull : Own 5 1 vi (bytesV (pfull p)) (pfull p).length Li := by rw [← bytesV_app] at hi; rw [pfull_len hl.2]; rw [hpl] at hi; exact hi
   refine WP.mv rfl rfl ?_
   refine WP.nil ?_
   refine WP.sub [(1, _), (4, _)] ?_ ⟨rfl, rfl, trivial⟩
   refine WP.next ?_
   refine WP.seq ?_
   refine WD.start Trymixed 6 (fun b o => b = b1 ∧ o = row 52 (ptV p (.slice Av p.data.length cv))) (fun _ _ => False) (by rintro _ _ ⟨rfl, rfl⟩; exact (by repeat (first | exact There.h | exact There.i (by assumption) | apply There.t | apply There.s))) (fun _ _ h => h.elim) 8 [false, false, false, false, false, false, false, false] rfl rfl ?_
   refine WD.val (i := 0) rfl rfl rfl rfl (by kernel_rfl) rfl (Yld.fieldAddr rfl ty_fd_52_0 rfl) ?_
   refine WD.val1 (i := 1) rfl rfl rfl rfl (by kernel_rfl) rfl (by kernel_rfl) (Yld.load rfl ty_sc_3 rfl (.inl ⟨rfl, rfl⟩) rfl) ?_
   refine WD.val (i := 3) rfl rfl rfl rfl (by kernel_rfl) rfl (Yld.fieldAddr rfl ty_fd_52_3 rfl) ?_
   refine WD.val1 (i := 4) rfl rfl rfl rfl (by kernel_rfl) rfl (by kernel_rfl) (Yld.load rfl ty_sc_3 rfl (.inl ⟨rfl, rfl⟩) rfl) ?_
   refine WD.loud (i := 2) (by kernel_rfl) rfl rfl rfl ?_
   refine Op.cl (super_putI (k := 4) ⟨by decide, by decide⟩ ⟨by have := hm.place; omega, by have := hm.place; omega⟩) rfl Try.func69 rfl rfl rfl rfl ?_
   rintro v J L1 - ⟨b48, rfl, rfl, rfl⟩
   try simp only [nf]
   refine WD.gR ?_
   refine WD.loud (i := 5) (by kernel_rfl) rfl rfl rfl ?_
   refine Op.cl (super_putI (k := 4) ⟨by decide, by decide⟩ ⟨by have := hm.era; omega, by have := hm.era; omega⟩) rfl Try.func69 rfl rfl rfl rfl ?_
   rintro v J L1 - ⟨b51, rfl, rfl, rfl⟩
   try simp only [nf]
   refine WD.gR ?_
   refine WD.loud (i := 6) (by kernel_rfl) rfl rfl rfl ?_
   refine Op.append rfl ty_sl_46 ty_el_46 rfl rfl rfl rfl rfl (own_lit (b := b48) (leB_len p.place.toNat 4)) (SlRd.lit (m := 4) (by repeat (first | exact There.h | exact There.i (by assumption) | apply There.t | apply There.s)) (by rw [bytesV_len, leB_len]) (Nat.le_refl _)) (by repeat (first | exact Take.nil | with_reducible apply Take.cons | apply Take.app | exact Rm.chunk | exact Rm.here | exact Rm.nil0 | apply Rm.skip | apply Rm.skipS | (focus (apply Take.all; (repeat (first | exact Rm.chunk | exact Rm.here | exact Rm.nil0 | apply Rm.skip | apply Rm.skipS)); done)) | apply Take.cons)) (bytesV_one _) (by omega) (by omega) (fun vt Lt ht => ?_)
   try simp only [nf]
   have htag : Own 5 1 vt (bytesV (ptag p)) (ptag p).length Lt := by rw [← bytesV_app] at ht; rw [ptag_len]; exact ht
   refine WD.go (.inl rfl) (fun _ _ h => h.elim) ?_
   refine WD.val (i := 7) rfl rfl rfl rfl (by kernel_rfl) rfl (Yld.assign rfl rfl) ?_
   refine WD.done (by kernel_rfl) ?_
   refine WP.sub [(1, _), (4, _), (5, _)] ?_ ⟨rfl, rfl, rfl, trivial⟩
   refine WP.next ?_
   refine WP.seq ?_
   refine WP.region [0] rfl ?_
   refine WP.mv rfl rfl ?_
   refine WP.nil ?_
   refine WP.next ?_
   refine WP.seq ?_
   refine WP.seq ?_
   refine WP.shO hfull (fun J2 hJ2 hin => ?_)
   refine WP.shO htag (fun J3 hJ3 htg => ?_)
   have hin := hin.mono (fun b o h => hJ3.2 b o h)
   have hfl := pfull_len hl.2
   have htl := ptag_len p
   refine WP.region [0] rfl ?_
   refine WP.mv rfl rfl ?_
   refine WP.nil ?_
   refine WP.next ?_
   refine WP.block ?_
   refine WP.loop (X := Nat × Value × Chunks) (fun u : Nat × Value × Chunks => [(4, vi), (5, vt), (6, u.2.1), (53, .int .i64 (u.1 : Int))]) (fun _ => J3) (fun u : Nat × Value × Chunks => u.2.2 ++ F) (fun u : Nat × Value × Chunks => u.1 ≤ 4 ∧ Own 5 1 u.2.1 (bytesV (psecs (pfull p) (ptag p) u.1)) (psecs (pfull p) (ptag p) u.1).length u.2.2) (fun u : Nat × Value × Chunks => 4 - u.1) (0, .slice none 0 0, []) ⟨Nat.zero_le _, .none0⟩ ⟨rfl, rfl, rfl, rfl, trivial⟩ rfl (by (try dsimp only); repeat (first | exact Rm.chunk | exact Rm.here | exact Rm.nil0 | apply Rm.skip | apply Rm.skipS | apply PX.cons | (apply PX.done; (repeat (first | exact Leave.done | apply Leave.drop | apply Leave.dropS)); done) | apply PX.app)) ?_
   rintro ⟨i, vo, Lo⟩ ⟨hi4, hout⟩; dsimp only at hi4 hout
   try dsimp only
   try simp only [nf]
   refine WP.seq ?_
   refine WP.region [0] rfl ?_
   refine WP.split rfl rfl rfl rfl (Yld.lss rfl rfl rfl) (fun hlt => ?_) (fun hlt => ?_)
   ·have hi : i < 4 := by omega
    have hcl := cutf_len hfl hi
    have hsl := psecs_len hfl htl i (by omega)
    have hsrc := sub_rd hin (l := i * 56) (k := (i + 1) * 56) (by omega) (by omega)
    refine WP.nil ?_
    refine WP.next ?_
    refine WP.seq ?_
    refine WP.condT rfl ?_
    refine WP.skip ?_
    refine WP.next ?_
    refine WP.seq ?_
    refine WP.block ?_
    refine WP.seq ?_
    refine WP.region [0, 1] rfl ?_
    iterate 2 refine WP.mv rfl rfl ?_
    refine WP.nil ?_
    refine WP.sub [(4, _), (5, _), (6, _), (7, _), (53, _), (54, _)] ?_ ⟨rfl, rfl, rfl, rfl, rfl, rfl, trivial⟩
    refine WP.next ?_
    refine WP.seq ?_
    refine WP.region [0] rfl ?_
    refine WP.loud rfl rfl ?_
    refine Op.alloc rfl rfl rfl form_zr (fun b8 => ?_)
    refine WP.nil ?_
    refine WP.next ?_
    refine WP.seq ?_
    refine WQ.start Trymixed 8 (by kernel_rfl) _ rfl [8] rfl ?_
    refine WQ.val rfl rfl rfl (Yld.sliceA rfl ty_ar_103 rfl Env.lim0 Env.lim0 (Nat.zero_le _) (Nat.le_refl _)) ?_
    refine WQ.val rfl rfl rfl (Yld.move rfl rfl) ?_
    refine WQ.val rfl rfl rfl (Yld.move rfl rfl) ?_
    refine WQ.val rfl rfl rfl (Yld.mul64 rfl rfl rfl (by omega)) ?_
    refine WQ.val rfl rfl rfl (Yld.move rfl rfl) ?_
    refine WQ.val rfl rfl rfl (Yld.add64 rfl rfl rfl (by omega)) ?_
    refine WQ.val rfl rfl rfl (Yld.mul64 rfl rfl rfl (by omega)) ?_
    refine WQ.val rfl rfl rfl (Yld.sliceR (l := i * 56) (h := (i + 1) * 56) hin rfl ty_sl_46 rfl (Env.limS (n := i * 56) (congrArg (fun z : Int => some (Value.int .i64 z)) (by omega))) (Env.limS (n := (i + 1) * 56) (congrArg (fun z : Int => some (Value.int .i64 z)) (by omega))) (by omega) (by omega)) ?_
    refine WQ.nil ?_
    refine WP.loud rfl rfl ?_
    refine Op.copyB (k := 0) (m := 64) (m2 := (i + 1) * 56 - i * 56) (q := 56) (old := List.replicate 64 0) (new := cut (pfull p) (i * 56) ((i + 1) * 56) ++ List.replicate 8 0) (s := cut (pfull p) (i * 56) ((i + 1) * 56)) rfl ty_sl_46 rfl rfl rfl rfl (SlAt.arr.sub (sz := 1) (Nat.zero_le _) (Nat.le_refl _)) (hsrc.mono (fun b o h => There.i h)) (by rw [show (i + 1) * 56 - i * 56 = 56 by omega]; rfl) (by simp) (sec_lay1 hcl) (by repeat (first | exact Upd.head | apply Upd.tail | apply Upd.tailS)) ?_
    refine WP.nil ?_
    refine WP.sub [(4, _), (5, _), (6, _), (7, _), (8, _), (53, _), (54, _)] ?_ ⟨rfl, rfl, rfl, rfl, rfl, rfl, rfl, trivial⟩
    refine WP.next ?_
    refine WP.seq ?_
    refine WP.region [0, 1, 2] rfl ?_
    refine WP.vl rfl (Yld.sliceA rfl ty_ar_103 rfl (Env.limS (n := 56) rfl) Env.lim0 (Nat.le_of_ble_eq_true rfl) (Nat.le_refl _)) ?_
    refine WP.mv rfl rfl ?_
    refine WP.loud rfl rfl ?_
    refine Op.copyB (k := 56) (m := 8) (m2 := (ptag p).length) (q := 8) (old := cut (pfull p) (i * 56) ((i + 1) * 56) ++ List.replicate 8 0) (new := cut (pfull p) (i * 56) ((i + 1) * 56) ++ ptag p) (s := ptag p) rfl ty_sl_46 rfl rfl rfl rfl (SlAt.arr.sub (sz := 1) (Nat.le_of_ble_eq_true rfl) (Nat.le_refl _)) (htg.mono (fun b o h => There.i h)) (by rw [htl]; rfl) (by simp [hcl]) (sec_lay2 hcl htl) (by repeat (first | exact Upd.head | apply Upd.tail | apply Upd.tailS)) ?_
    refine WP.nil ?_
    refine WP.sub [(4, _), (5, _), (6, _), (7, _), (8, _), (53, _), (54, _)] ?_ ⟨rfl, rfl, rfl, rfl, rfl, rfl, rfl, trivial⟩
    refine WP.next ?_
    refine WP.region [0, 1, 2, 3] rfl ?_
    refine WP.mv rfl rfl ?_
    refine WP.vl rfl (Yld.sliceA rfl ty_ar_103 rfl Env.lim0 Env.lim0 (Nat.zero_le _) (Nat.le_refl _)) ?_
    refine WP.loud rfl rfl ?_
    refine Op.append rfl ty_sl_46 ty_el_46 rfl rfl rfl rfl rfl hout (rd64 (b := b8) (T := 103) (l := cut (pfull p) (i * 56) ((i + 1) * 56) ++ ptag p) (by repeat (first | exact There.h | exact There.i (by assumption) | apply There.t | apply There.s)) (by simp [hcl, htl])) (by repeat (first | exact Take.nil | with_reducible apply Take.cons | apply Take.app | exact Rm.chunk | exact Rm.here | exact Rm.nil0 | apply Rm.skip | apply Rm.skipS | (focus (apply Take.all; (repeat (first | exact Rm.chunk | exact Rm.here | exact Rm.nil0 | apply Rm.skip | apply Rm.skipS)); done)) | apply Take.cons)) (bytesV_one _) (by simp [hcl, htl, hsl]; omega) (by simp [hcl, htl, hsl]; omega) (fun vn Ln hn => ?_)
    try simp only [nf]
    have hnew : Own 5 1 vn (bytesV (psecs (pfull p) (ptag p) (i + 1))) (psecs (pfull p) (ptag p) (i + 1)).length Ln := by rw [← bytesV_app, ← List.length_append] at hn; exact hn
    refine WP.mv rfl rfl ?_
    refine WP.nil ?_
    refine WP.sub [(4, _), (5, _), (6, _), (7, _), (8, _), (53, _), (54, _)] ?_ ⟨rfl, rfl, rfl, rfl, rfl, rfl, rfl, trivial⟩
    refine WP.leave ?_
    refine WP.next ?_
    refine WP.region [0, 1] rfl ?_
    refine WP.vl rfl (Yld.add64 rfl rfl rfl (by omega)) ?_
    refine WP.mv rfl rfl ?_
    refine WP.nil ?_
    refine WP.sub [(4, _), (5, _), (6, _), (7, _), (8, _), (53, _), (54, _)] ?_ ⟨rfl, rfl, rfl, rfl, rfl, rfl, rfl, trivial⟩
    exact WP.ag (i + 1, vn, Ln) ⟨(show i + 1 ≤ 4 by omega), hnew⟩ (show 4 - (i + 1) < 4 - i by omega) ⟨rfl, rfl, rfl, rfl, trivial⟩ rfl
   ·obtain rfl : i = 4 := by omega
    refine WP.nil ?_
    refine WP.next ?_
    refine WP.seq ?_
    refine WP.condF rfl ?_
    refine WP.exit ?_
    refine WP.thenE ?_
    refine WP.thenE ?_
    refine WP.hit ?_
    refine WP.next ?_
    refine WP.seq ?_
    refine WP.region [0, 1, 2] rfl ?_
    iterate 3 refine WP.mv rfl rfl ?_
    refine WP.nil ?_
    refine WP.sub [(2, _), (3, _), (4, _), (5, _), (6, _), (53, _), (54, _)] ?_ ⟨rfl, rfl, rfl, rfl, rfl, rfl, rfl, trivial⟩
    refine WP.next ?_
    refine WP.ret ?_
    refine WP.fn .ret (.inr rfl) (res2 rfl rfl rfl) Lo (Imm.le_trans hle (Imm.le_trans hJ2 hJ3)) ?_
    exact .inl ⟨hm, _, rfl, hout⟩
 ·have hbt : bm = false := eq_false_of_ne_true hbt
  rw [hbt]
  refine WP.vl rfl (Yld.not rfl rfl) ?_
  refine WP.nil ?_
  refine WP.sub [(0, _), (1, _), (2, _), (3, _), (11, _)] ?_ ⟨rfl, rfl, rfl, rfl, rfl, trivial⟩
  refine WP.next ?_
  refine WP.condT rfl ?_
  refine WP.seq ?_
  refine WP.region [0, 1] rfl ?_
  iterate 2 refine WP.mv rfl rfl ?_
  refine WP.nil ?_
  refine WP.next ?_
  refine WP.ret ?_
  refine WP.fn .ret (.inr rfl) (res2 rfl rfl rfl) [] (Imm.le_refl _) ?_
  exact .inr ⟨fun h => (by have := hbm.2 h; rw [hbt] at this; cases this), rfl, rfl, rfl⟩


theorem seg_Encode_ok {I : Imm} {p : Pt} {v : Value} (hv : SlRd (Im I) v p.data.length 1 (bytesV p.data)) (hm : p.may) : Spec Try.prog 64 [.agg (ptV p v).toArray] I [] (fun v J L => ∃ vb, v = .tuple #[vb, .int .i64 0] ∧ Own 5 1 vb (bytesV (penc p)) (penc p).length L) := (seg_Encode hv).mono (fun v J L _ h => (h.resolve_right (fun h => h.1 hm)).2)
theorem seg_Encode_bad {I : Imm} {p : Pt} {v : Value} (hv : SlRd (Im I) v p.data.length 1 (bytesV p.data)) (hm : ¬ p.may) : Spec Try.prog 64 [.agg (ptV p v).toArray] I [] (fun v J L => v = .tuple #[.slice none 0 0, .int .i64 70] ∧ I = J ∧ L = []) := (seg_Encode hv).mono (fun v J L _ h => (h.resolve_left (fun h => hm h.1)).2)

end Go.Hp
