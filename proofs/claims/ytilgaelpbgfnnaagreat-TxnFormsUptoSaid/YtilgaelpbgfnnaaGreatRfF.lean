import Derived.Test.YtilgaelpbgfnnaaGreatRfE
set_option linter.unusedVariables false
set_option linter.unusedSimpArgs false
namespace Go.Hp
open Go Go.Proofs

theorem ref12_DecodeCommit {I : Imm} {b : List UInt8} {vb : Value} (hb : SlRd (Im I) vb b.length 1 (bytesV b)) (hl : b.length ≤ 140737488351232) : Spec Tryz.prog 35 [vb] I [] (fun v J L => L = [] ∧ ∃ n : Int, ∃ e : Int, v = .tuple #[.int .i64 n, .int .i64 e] ∧ ((okC b ∧ n = ((rNum 1099511627776 ⟨b, 0⟩).1 : Int) ∧ e = 0) ∨ (¬ okC b ∧ n = 0 ∧ e = 120))) := by
 obtain ⟨Ab, cb, rfl, _, _, _⟩ := id hb
 refine Spec.of Tryz.func35 rfl Tryz.ntmps35 (Nat.le_of_ble_eq_true rfl) (fun F => ?_)
 try simp only [nf]
 dsimp only [argsEnv]
 refine WP.seq ?_; refine WP.region [0, 1] rfl ?_; iterate 2 refine WP.mv rfl rfl ?_
 refine WP.nil ?_; refine WP.next ?_; refine WP.seq ?_; refine WP.region [0, 1, 2] rfl ?_; refine WP.mv rfl rfl ?_; refine WP.loud rfl rfl ?_; refine Op.cl (ref1_Open hb (by omega)) rfl Tryz.func74 rfl rfl rfl rfl ?_; rintro v J1 L1 hJ1 ⟨q, rfl, hq⟩
 try simp only [nf]
 refine WP.mv rfl rfl ?_; refine WP.nil ?_; refine WP.sub [(0, _), (2, _), (3, _), (4, _)] ?_ ⟨rfl, rfl, rfl, rfl, trivial⟩
 refine WP.next ?_; refine WP.seq ?_; refine WP.region [0, 1, 2, 3] rfl ?_; refine WP.mv rfl rfl ?_; refine WP.loud rfl rfl ?_; refine Op.cl (ref1_Num (most := 1099511627776) hq) rfl Tryz.func75 rfl rfl rfl rfl ?_; rintro v J L2 - ⟨rfl, rfl, hq⟩
 try simp only [nf]
 have hle := rNum_le 1099511627776 ⟨b, 0⟩
 refine WP.vl rfl (Yld.conv64 (a := (((rNum 1099511627776 ⟨b, 0⟩).1 : Nat) : Int)) rfl ty_un_40 ty_ik_3 rfl (by omega)) ?_; refine WP.mv rfl rfl ?_; refine WP.nil ?_; refine WP.sub [(0, _), (2, _), (3, _), (4, _), (5, _)] ?_ ⟨rfl, rfl, rfl, rfl, rfl, trivial⟩
 refine WP.next ?_; refine WP.seq ?_; refine WP.region [0, 1, 2] rfl ?_; refine WP.mv rfl rfl ?_; refine WP.loud rfl rfl ?_; refine Op.cl (ref1_Done hq) rfl Tryz.func77 rfl rfl rfl rfl ?_; rintro v J L3 - ⟨rfl, rfl, hq⟩
 try simp only [nf]
 refine WP.mv rfl rfl ?_; refine WP.nil ?_; refine WP.sub [(0, _), (2, _), (3, _), (4, _), (5, _), (6, _)] ?_ ⟨rfl, rfl, rfl, rfl, rfl, rfl, trivial⟩
 refine WP.next ?_; iterate 2 refine WP.seq ?_
 refine WP.region [0, 1, 2, 3, 4, 5] rfl ?_; refine WP.mv rfl rfl ?_; refine WP.split rfl rfl rfl rfl (Yld.neq rfl rfl rfl) (fun hd => ?_) (fun hd => ?_)
 ·refine WP.mv rfl rfl ?_
  iterate 2 refine WP.passG rfl rfl rfl rfl rfl rfl rfl rfl ?_
  refine WP.vl rfl (Yld.pickT rfl rfl rfl) ?_; refine WP.nil ?_; refine WP.sub [(0, _), (2, _), (3, _), (4, _), (5, _), (6, _), (19, _)] ?_ ⟨rfl, rfl, rfl, rfl, rfl, rfl, rfl, trivial⟩
  refine WP.next ?_; refine WP.condT rfl ?_; refine WP.seq ?_; refine WP.region [0, 1] rfl ?_; iterate 2 refine WP.mv rfl rfl ?_
  refine WP.nil ?_; refine WP.next ?_; refine WP.ret ?_; refine WP.fn .ret (.inr rfl) (res2 rfl rfl rfl) [] hJ1 ?_; exact ⟨rfl, _, _, rfl, .inr ⟨fun h => by have h1 := h.1; have h2 := h.2; first | exact hd h1 | omega, rfl, rfl⟩⟩
 ·refine WP.mv rfl rfl ?_
  refine WP.valG rfl rfl rfl rfl rfl rfl rfl (Yld.move rfl rfl) ?_; refine WP.splitG rfl rfl rfl rfl rfl rfl rfl (Yld.lss rfl rfl rfl) (fun h1 => ?_) (fun h1 => ?_)
  ·refine WP.vl rfl (Yld.pickF rfl rfl rfl) ?_
   refine WP.nil ?_; refine WP.sub [(0, _), (2, _), (3, _), (4, _), (5, _), (6, _), (19, _)] ?_ ⟨rfl, rfl, rfl, rfl, rfl, rfl, rfl, trivial⟩
   refine WP.next ?_; refine WP.condT rfl ?_; refine WP.seq ?_; refine WP.region [0, 1] rfl ?_; iterate 2 refine WP.mv rfl rfl ?_
   refine WP.nil ?_; refine WP.next ?_; refine WP.ret ?_; refine WP.fn .ret (.inr rfl) (res2 rfl rfl rfl) [] hJ1 ?_; exact ⟨rfl, _, _, rfl, .inr ⟨fun h => by have h1 := h.1; have h2 := h.2; first | exact hd h1 | omega, rfl, rfl⟩⟩
  ·refine WP.vl rfl (Yld.pickF rfl rfl rfl) ?_
   refine WP.nil ?_; refine WP.sub [(0, _), (2, _), (3, _), (4, _), (5, _), (6, _), (19, _)] ?_ ⟨rfl, rfl, rfl, rfl, rfl, rfl, rfl, trivial⟩
   refine WP.next ?_; refine WP.condF rfl ?_; refine WP.skip ?_; refine WP.next ?_; refine WP.seq ?_; refine WP.region [0, 1, 2] rfl ?_; iterate 3 refine WP.mv rfl rfl ?_
   refine WP.nil ?_; refine WP.sub [(0, _), (2, _), (3, _), (4, _), (5, _), (6, _), (19, _)] ?_ ⟨rfl, rfl, rfl, rfl, rfl, rfl, rfl, trivial⟩
   refine WP.next ?_; refine WP.ret ?_; refine WP.fn .ret (.inr rfl) (res2 rfl rfl rfl) [] hJ1 ?_; exact ⟨rfl, _, _, rfl, .inl ⟨⟨Decidable.not_not.1 hd, by omega⟩, rfl, rfl⟩⟩

theorem ref12_DecodePage {I : Imm} {b : List UInt8} {vb : Value} (hb : SlRd (Im I) vb b.length 1 (bytesV b)) (hl : b.length ≤ 140737488351232) : Spec Tryz.prog 32 [vb] I [] (fun v J L => L = [] ∧ ∃ r vn, ∃ e : Int, v = .tuple #[.agg ([.int .i64 r.page, .int .i64 r.prev, vn]).toArray, .int .i64 e] ∧ RNodes J vn r.nodes ∧ ((okP b ∧ e = 0 ∧ r = (rdP b).1) ∨ (¬ okP b ∧ e = 120 ∧ r = ⟨0, 0, []⟩))) := by
 obtain ⟨Ab, cb, rfl, _, _, _⟩ := id hb
 refine Spec.of Tryz.func32 rfl Tryz.ntmps32 (Nat.le_of_ble_eq_true rfl) (fun F => ?_)
 try simp only [nf]
 dsimp only [argsEnv]
 refine WP.seq ?_; refine WP.region [0, 1] rfl ?_; refine WP.loud rfl rfl ?_; refine Op.alloc rfl rfl rfl ty_zr_51 (fun b0 => ?_)
 refine WP.mv rfl rfl ?_; refine WP.nil ?_; refine WP.next ?_; refine WP.seq ?_; refine WP.region [0, 1, 2] rfl ?_; refine WP.mv rfl rfl ?_; refine WP.loud rfl rfl ?_; refine Op.cl (ref1_Open hb (by omega)) rfl Tryz.func74 rfl rfl rfl rfl ?_; rintro v J1 L1 hJ1 ⟨q, rfl, hq⟩
 try simp only [nf]
 refine WP.mv rfl rfl ?_; refine WP.nil ?_; refine WP.sub [(0, _), (2, _), (3, _), (4, _)] ?_ ⟨rfl, rfl, rfl, rfl, trivial⟩
 refine WP.next ?_; refine WP.seq ?_; refine WP.region [0, 1, 2, 3, 4, 5, 6, 7, 8] rfl ?_; refine WP.mv rfl rfl ?_; refine WP.loud rfl rfl ?_; refine Op.cl (ref1_Num (most := 512) hq) rfl Tryz.func75 rfl rfl rfl rfl ?_; rintro v J L2 - ⟨rfl, rfl, hq⟩
 try simp only [nf]
 have hle1 := rNum_le 512 ⟨b, 0⟩
 refine WP.vl rfl (Yld.conv64 (a := (((rNum 512 ⟨b, 0⟩).1 : Nat) : Int)) rfl ty_un_40 ty_ik_3 rfl (by omega)) ?_; refine WP.mv rfl rfl ?_; refine WP.loud rfl rfl ?_; refine Op.cl (ref1_Num (most := 1099511627776) hq) rfl Tryz.func75 rfl rfl rfl rfl ?_; rintro v J L3 - ⟨rfl, rfl, hq⟩
 try simp only [nf]
 have hle2 := rNum_le 1099511627776 (rNum 512 ⟨b, 0⟩).2
 refine WP.vl rfl (Yld.conv64 (a := (((rNum 1099511627776 (rNum 512 ⟨b, 0⟩).2).1 : Nat) : Int)) rfl ty_un_40 ty_ik_3 rfl (by omega)) ?_; refine WP.vl rfl (Yld.buildS (pl := [(0, 0, 1), (1, 1, 1)]) rfl ty_zr_51 ty_zd_51 (by kernel_rfl) rfl (vs := [_, _]) rfl (segs := [(0, [_]), (1, [_])]) rfl rfl (by repeat (first | exact SetSeg.nil | apply SetSeg.one | exact SetAt.zero | apply SetAt.succ))) ?_; refine WP.loud rfl rfl ?_; refine Op.alloc rfl rfl rfl ty_zr_51 (fun b5 => ?_)
 refine WP.loud rfl rfl ?_; refine Op.sA rfl rfl ty_sz_51 rfl rfl rfl rfl rfl ?_; refine WP.nil ?_; refine WP.sub [(0, _), (2, _), (3, _), (4, _), (5, _)] ?_ ⟨rfl, rfl, rfl, rfl, rfl, trivial⟩
 refine WP.next ?_; refine WP.seq ?_; refine WP.region [0, 1, 2, 3] rfl ?_; refine WP.mv rfl rfl ?_; refine WP.loud rfl rfl ?_; refine Op.cl (ref12_take hq) rfl Tryz.func76 rfl rfl rfl rfl ?_; rintro v J2 L4 hJ2 ⟨l, hrn, hl64, hq, hlt⟩
 try simp only [nf]
 obtain ⟨nv, hn, hno⟩ := id hrn.ex
 obtain ⟨An, cn, rfl, hcn⟩ := hn.slice'
 refine WP.vl rfl (Yld.fieldAddr rfl ty_fd_51_2 rfl) ?_; refine WP.loud rfl rfl ?_; refine Op.s1 rfl rfl ty_sz_41 rfl rfl rfl ?_; refine WP.nil ?_; refine WP.sub [(0, _), (2, _), (3, _), (4, _), (5, _)] ?_ ⟨rfl, rfl, rfl, rfl, rfl, trivial⟩
 refine WP.next ?_; refine WP.seq ?_; refine WP.region [0, 1, 2] rfl ?_; refine WP.mv rfl rfl ?_; refine WP.loud rfl rfl ?_; refine Op.cl (ref1_Done hq) rfl Tryz.func77 rfl rfl rfl rfl ?_; rintro v J L5 - ⟨rfl, rfl, hq⟩
 try simp only [nf]
 refine WP.mv rfl rfl ?_; refine WP.nil ?_; refine WP.sub [(0, _), (2, _), (3, _), (4, _), (5, _), (6, _)] ?_ ⟨rfl, rfl, rfl, rfl, rfl, rfl, trivial⟩
 refine WP.next ?_; refine WP.seq ?_; refine WP.region [0, 1, 2] rfl ?_; refine WP.vl rfl (Yld.ldg (vs := [.int .i64 ((rNum 512 ⟨b, 0⟩).1 : Int), .int .i64 ((rNum 1099511627776 (rNum 512 ⟨b, 0⟩).2).1 : Int), (.slice An l.length cn)]) rfl ty_ag_51 rfl rfl rfl) ?_; refine WP.loud rfl rfl ?_; refine Op.cl (ref12_May (r := (⟨((rNum 512 ⟨b, 0⟩).1 : Int), ((rNum 1099511627776 (rNum 512 ⟨b, 0⟩).2).1 : Int), l⟩ : Pr)) hrn (by show l.length ≤ _; omega)) rfl Tryz.func63 rfl rfl rfl rfl ?_; rintro v J L1 - ⟨c, rfl, hc, rfl, rfl⟩
 try simp only [nf]
 by_cases hc1 : c = true
 ·rw [hc1]
  refine WP.mv rfl rfl ?_; refine WP.nil ?_; refine WP.sub [(0, _), (2, _), (3, _), (4, _), (5, _), (6, _), (7, _)] ?_ ⟨rfl, rfl, rfl, rfl, rfl, rfl, rfl, trivial⟩
  refine WP.next ?_; iterate 2 refine WP.seq ?_
  refine WP.region [0, 1, 2, 3, 4, 5, 6, 7, 8, 9, 10] rfl ?_; refine WP.mv rfl rfl ?_; refine WP.split rfl rfl rfl rfl (Yld.neq rfl rfl rfl) (fun hd => ?_) (fun hd => ?_)
  ·refine WP.mv rfl rfl ?_
   iterate 2 refine WP.passG rfl rfl rfl rfl rfl rfl rfl rfl ?_
   refine WP.vl rfl (Yld.pickT rfl rfl rfl) ?_; refine WP.mv rfl rfl ?_; iterate 3 refine WP.passG rfl rfl rfl rfl rfl rfl rfl rfl ?_
   refine WP.vl rfl (Yld.pickT rfl rfl rfl) ?_; refine WP.nil ?_; refine WP.sub [(0, _), (2, _), (3, _), (4, _), (5, _), (6, _), (7, _), (34, _)] ?_ ⟨rfl, rfl, rfl, rfl, rfl, rfl, rfl, rfl, trivial⟩
   refine WP.next ?_; refine WP.condT rfl ?_; refine WP.seq ?_; refine WP.region [0, 1, 2] rfl ?_; refine WP.vl rfl (Yld.buildS (pl := []) rfl ty_zr_51 ty_zd_51 (by kernel_rfl) rfl (vs := []) rfl (segs := []) rfl rfl (by repeat (first | exact SetSeg.nil | apply SetSeg.one | exact SetAt.zero | apply SetAt.succ))) ?_; refine WP.loud rfl rfl ?_; refine Op.sA rfl rfl ty_sz_51 rfl rfl rfl rfl rfl ?_; refine WP.mv rfl rfl ?_; refine WP.nil ?_; refine WP.sub [(0, _), (2, _), (3, _), (4, _), (5, _), (6, _), (7, _), (34, _)] ?_ ⟨rfl, rfl, rfl, rfl, rfl, rfl, rfl, rfl, trivial⟩
   refine WP.next ?_; refine WP.ret ?_; refine WP.fn .ret (.inr rfl) (resT (rs := [.cell 2 51, .tmp 3]) (vs := [_, _]) rfl ⟨⟨_, _, _, _, rfl, (by repeat (first | exact There.h | exact There.i (by assumption) | apply There.t | apply There.s)), .inl ⟨ty_ag_51, by rfl, rfl⟩⟩, rfl, trivial⟩ rfl) [] (Imm.le_trans hJ1 hJ2) ?_; refine ⟨rfl, ⟨0, 0, []⟩, _, 120, rfl, RNodes.nil _, .inr ⟨fun h => ?_, rfl, rfl⟩⟩
   have h1 := h.1; have h2 := h.2.1; have h3 := h.2.2
   first | exact hd h1 | omega | (obtain rfl := hlt (Rs.done_ok h1).1; rw [hc.2 h3] at hc1; cases hc1)
  ·refine WP.mv rfl rfl ?_
   refine WP.valG rfl rfl rfl rfl rfl rfl rfl (Yld.move rfl rfl) ?_; refine WP.valG rfl rfl rfl rfl rfl rfl rfl (Yld.not rfl rfl) ?_; refine WP.vl rfl (Yld.pickF rfl rfl rfl) ?_; refine WP.mv rfl rfl ?_; refine WP.valG rfl rfl rfl rfl rfl rfl rfl (Yld.move rfl rfl) ?_; refine WP.valG rfl rfl rfl rfl rfl rfl rfl (Yld.len rfl ty_sl_49 rfl) ?_; refine WP.splitG rfl rfl rfl rfl rfl rfl rfl (Yld.gtr rfl rfl rfl) (fun hlong => ?_) (fun hlong => ?_)
   ·refine WP.vl rfl (Yld.pickF rfl rfl rfl) ?_
    refine WP.nil ?_; refine WP.sub [(0, _), (2, _), (3, _), (4, _), (5, _), (6, _), (7, _), (34, _)] ?_ ⟨rfl, rfl, rfl, rfl, rfl, rfl, rfl, rfl, trivial⟩
    refine WP.next ?_; refine WP.condT rfl ?_; refine WP.seq ?_; refine WP.region [0, 1, 2] rfl ?_; refine WP.vl rfl (Yld.buildS (pl := []) rfl ty_zr_51 ty_zd_51 (by kernel_rfl) rfl (vs := []) rfl (segs := []) rfl rfl (by repeat (first | exact SetSeg.nil | apply SetSeg.one | exact SetAt.zero | apply SetAt.succ))) ?_; refine WP.loud rfl rfl ?_; refine Op.sA rfl rfl ty_sz_51 rfl rfl rfl rfl rfl ?_; refine WP.mv rfl rfl ?_; refine WP.nil ?_; refine WP.sub [(0, _), (2, _), (3, _), (4, _), (5, _), (6, _), (7, _), (34, _)] ?_ ⟨rfl, rfl, rfl, rfl, rfl, rfl, rfl, rfl, trivial⟩
    refine WP.next ?_; refine WP.ret ?_; refine WP.fn .ret (.inr rfl) (resT (rs := [.cell 2 51, .tmp 3]) (vs := [_, _]) rfl ⟨⟨_, _, _, _, rfl, (by repeat (first | exact There.h | exact There.i (by assumption) | apply There.t | apply There.s)), .inl ⟨ty_ag_51, by rfl, rfl⟩⟩, rfl, trivial⟩ rfl) [] (Imm.le_trans hJ1 hJ2) ?_; refine ⟨rfl, ⟨0, 0, []⟩, _, 120, rfl, RNodes.nil _, .inr ⟨fun h => ?_, rfl, rfl⟩⟩
    have h1 := h.1; have h2 := h.2.1; have h3 := h.2.2
    first | exact hd h1 | omega | (obtain rfl := hlt (Rs.done_ok h1).1; rw [hc.2 h3] at hc1; cases hc1)
   ·refine WP.vl rfl (Yld.pickF rfl rfl rfl) ?_
    refine WP.nil ?_; refine WP.sub [(0, _), (2, _), (3, _), (4, _), (5, _), (6, _), (7, _), (34, _)] ?_ ⟨rfl, rfl, rfl, rfl, rfl, rfl, rfl, rfl, trivial⟩
    refine WP.next ?_; refine WP.condF rfl ?_; refine WP.skip ?_; refine WP.next ?_; refine WP.seq ?_; refine WP.region [0, 1, 2] rfl ?_; refine WP.vl rfl (Yld.ldg (vs := [.int .i64 ((rNum 512 ⟨b, 0⟩).1 : Int), .int .i64 ((rNum 1099511627776 (rNum 512 ⟨b, 0⟩).2).1 : Int), (.slice An l.length cn)]) rfl ty_ag_51 rfl rfl rfl) ?_; refine WP.loud rfl rfl ?_; refine Op.sA rfl rfl ty_sz_51 rfl rfl rfl rfl rfl ?_; refine WP.mv rfl rfl ?_; refine WP.nil ?_; refine WP.sub [(0, _), (2, _), (3, _), (4, _), (5, _), (6, _), (7, _), (34, _)] ?_ ⟨rfl, rfl, rfl, rfl, rfl, rfl, rfl, rfl, trivial⟩
    refine WP.next ?_; refine WP.ret ?_; refine WP.fn .ret (.inr rfl) (resT (rs := [.cell 2 51, .tmp 3]) (vs := [_, _]) rfl ⟨⟨_, _, _, _, rfl, (by repeat (first | exact There.h | exact There.i (by assumption) | apply There.t | apply There.s)), .inl ⟨ty_ag_51, by rfl, rfl⟩⟩, rfl, trivial⟩ rfl) [] (Imm.le_trans hJ1 hJ2) ?_; have hz := Rs.done_ok (Decidable.not_not.1 hd)
    obtain rfl := hlt hz.1
    exact ⟨rfl, (rdP b).1, _, 0, rfl, hrn, .inl ⟨⟨Decidable.not_not.1 hd, by omega, hc.1 hc1⟩, rfl, rfl⟩⟩
 ·have hc1 : c = false := eq_false_of_ne_true hc1
  rw [hc1]
  refine WP.mv rfl rfl ?_; refine WP.nil ?_; refine WP.sub [(0, _), (2, _), (3, _), (4, _), (5, _), (6, _), (7, _)] ?_ ⟨rfl, rfl, rfl, rfl, rfl, rfl, rfl, trivial⟩
  refine WP.next ?_; iterate 2 refine WP.seq ?_
  refine WP.region [0, 1, 2, 3, 4, 5, 6, 7, 8, 9, 10] rfl ?_; refine WP.mv rfl rfl ?_; refine WP.split rfl rfl rfl rfl (Yld.neq rfl rfl rfl) (fun hd => ?_) (fun hd => ?_)
  ·refine WP.mv rfl rfl ?_
   iterate 2 refine WP.passG rfl rfl rfl rfl rfl rfl rfl rfl ?_
   refine WP.vl rfl (Yld.pickT rfl rfl rfl) ?_; refine WP.mv rfl rfl ?_; iterate 3 refine WP.passG rfl rfl rfl rfl rfl rfl rfl rfl ?_
   refine WP.vl rfl (Yld.pickT rfl rfl rfl) ?_; refine WP.nil ?_; refine WP.sub [(0, _), (2, _), (3, _), (4, _), (5, _), (6, _), (7, _), (34, _)] ?_ ⟨rfl, rfl, rfl, rfl, rfl, rfl, rfl, rfl, trivial⟩
   refine WP.next ?_; refine WP.condT rfl ?_; refine WP.seq ?_; refine WP.region [0, 1, 2] rfl ?_; refine WP.vl rfl (Yld.buildS (pl := []) rfl ty_zr_51 ty_zd_51 (by kernel_rfl) rfl (vs := []) rfl (segs := []) rfl rfl (by repeat (first | exact SetSeg.nil | apply SetSeg.one | exact SetAt.zero | apply SetAt.succ))) ?_; refine WP.loud rfl rfl ?_; refine Op.sA rfl rfl ty_sz_51 rfl rfl rfl rfl rfl ?_; refine WP.mv rfl rfl ?_; refine WP.nil ?_; refine WP.sub [(0, _), (2, _), (3, _), (4, _), (5, _), (6, _), (7, _), (34, _)] ?_ ⟨rfl, rfl, rfl, rfl, rfl, rfl, rfl, rfl, trivial⟩
   refine WP.next ?_; refine WP.ret ?_; refine WP.fn .ret (.inr rfl) (resT (rs := [.cell 2 51, .tmp 3]) (vs := [_, _]) rfl ⟨⟨_, _, _, _, rfl, (by repeat (first | exact There.h | exact There.i (by assumption) | apply There.t | apply There.s)), .inl ⟨ty_ag_51, by rfl, rfl⟩⟩, rfl, trivial⟩ rfl) [] (Imm.le_trans hJ1 hJ2) ?_; refine ⟨rfl, ⟨0, 0, []⟩, _, 120, rfl, RNodes.nil _, .inr ⟨fun h => ?_, rfl, rfl⟩⟩
   have h1 := h.1; have h2 := h.2.1; have h3 := h.2.2
   first | exact hd h1 | omega | (obtain rfl := hlt (Rs.done_ok h1).1; rw [hc.2 h3] at hc1; cases hc1)
  ·refine WP.mv rfl rfl ?_
   refine WP.valG rfl rfl rfl rfl rfl rfl rfl (Yld.move rfl rfl) ?_; refine WP.valG rfl rfl rfl rfl rfl rfl rfl (Yld.not rfl rfl) ?_; refine WP.vl rfl (Yld.pickF rfl rfl rfl) ?_; refine WP.mv rfl rfl ?_; iterate 3 refine WP.passG rfl rfl rfl rfl rfl rfl rfl rfl ?_
   refine WP.vl rfl (Yld.pickT rfl rfl rfl) ?_; refine WP.nil ?_; refine WP.sub [(0, _), (2, _), (3, _), (4, _), (5, _), (6, _), (7, _), (34, _)] ?_ ⟨rfl, rfl, rfl, rfl, rfl, rfl, rfl, rfl, trivial⟩
   refine WP.next ?_; refine WP.condT rfl ?_; refine WP.seq ?_; refine WP.region [0, 1, 2] rfl ?_; refine WP.vl rfl (Yld.buildS (pl := []) rfl ty_zr_51 ty_zd_51 (by kernel_rfl) rfl (vs := []) rfl (segs := []) rfl rfl (by repeat (first | exact SetSeg.nil | apply SetSeg.one | exact SetAt.zero | apply SetAt.succ))) ?_; refine WP.loud rfl rfl ?_; refine Op.sA rfl rfl ty_sz_51 rfl rfl rfl rfl rfl ?_; refine WP.mv rfl rfl ?_; refine WP.nil ?_; refine WP.sub [(0, _), (2, _), (3, _), (4, _), (5, _), (6, _), (7, _), (34, _)] ?_ ⟨rfl, rfl, rfl, rfl, rfl, rfl, rfl, rfl, trivial⟩
   refine WP.next ?_; refine WP.ret ?_; refine WP.fn .ret (.inr rfl) (resT (rs := [.cell 2 51, .tmp 3]) (vs := [_, _]) rfl ⟨⟨_, _, _, _, rfl, (by repeat (first | exact There.h | exact There.i (by assumption) | apply There.t | apply There.s)), .inl ⟨ty_ag_51, by rfl, rfl⟩⟩, rfl, trivial⟩ rfl) [] (Imm.le_trans hJ1 hJ2) ?_; refine ⟨rfl, ⟨0, 0, []⟩, _, 120, rfl, RNodes.nil _, .inr ⟨fun h => ?_, rfl, rfl⟩⟩
   have h1 := h.1; have h2 := h.2.1; have h3 := h.2.2
   first | exact hd h1 | omega | (obtain rfl := hlt (Rs.done_ok h1).1; rw [hc.2 h3] at hc1; cases hc1)


structure GqX where
 i : Nat
 J : Imm
 ps : List (Pr × Value)
 pl : List Pr
 s : Rs
 v : Value
 Lr : Chunks
 Lo : Chunks
theorem tkN_err {s : Rs} (h : s.e ≠ 0) : (tkN s).2 = s := by
 unfold tkN; rw [rNum_err h]; rfl
theorem gkL_err {s : Rs} (h : s.e ≠ 0) : ∀ n, (gkL n s).2 = s
 | 0 => rfl
 | n + 1 => by rw [gkL_succ, rNum_err h]; dsimp only; rw [tkN_err h]; exact gkL_err h n
theorem ref12_DecodeGroup {I : Imm} {b : List UInt8} {vb : Value} (hb : SlRd (Im I) vb b.length 1 (bytesV b)) (hl : b.length ≤ 140737488351232) : Spec Tryz.prog 37 [vb] I [] (fun v J L => L = [] ∧ ∃ vl ps, ∃ e : Int, v = .tuple #[vl, .int .i64 e] ∧ RPrs J vl ps ∧ ((okG b ∧ e = 0 ∧ prs ps = (rdG b).1) ∨ (¬ okG b ∧ e = 120 ∧ ps = []))) := by
 obtain ⟨Ab, cb, rfl, _, _, _⟩ := id hb
 refine Spec.of Tryz.func37 rfl Tryz.ntmps37 (Nat.le_of_ble_eq_true rfl) (fun F => ?_)
 try simp only [nf]
 dsimp only [argsEnv]
 refine WP.seq ?_; refine WP.region [0, 1] rfl ?_; iterate 2 refine WP.mv rfl rfl ?_
 refine WP.nil ?_; refine WP.next ?_; refine WP.seq ?_; refine WP.region [0, 1, 2] rfl ?_; refine WP.mv rfl rfl ?_; refine WP.loud rfl rfl ?_; refine Op.cl (ref1_Open hb (by omega)) rfl Tryz.func74 rfl rfl rfl rfl ?_; rintro v J1 L1 hJ1 ⟨q, rfl, hq⟩
 try simp only [nf]
 refine WP.mv rfl rfl ?_; refine WP.nil ?_; refine WP.sub [(0, _), (2, _), (3, _), (4, _)] ?_ ⟨rfl, rfl, rfl, rfl, trivial⟩
 refine WP.next ?_; refine WP.seq ?_; refine WP.region [0, 1, 2, 3] rfl ?_; refine WP.mv rfl rfl ?_; refine WP.loud rfl rfl ?_; refine Op.cl (ref1_Num (most := 8) hq) rfl Tryz.func75 rfl rfl rfl rfl ?_; rintro v J L2 - ⟨rfl, rfl, hq⟩
 try simp only [nf]
 have hle := rNum_le 8 ⟨b, 0⟩
 refine WP.vl rfl (Yld.conv64 (a := (((rNum 8 ⟨b, 0⟩).1 : Nat) : Int)) rfl ty_un_40 ty_ik_3 rfl (by omega)) ?_; refine WP.mv rfl rfl ?_; refine WP.nil ?_; refine WP.sub [(0, _), (2, _), (3, _), (4, _), (5, _)] ?_ ⟨rfl, rfl, rfl, rfl, rfl, trivial⟩
 refine WP.next ?_; refine WP.seq ?_; refine WP.region [0] rfl ?_; refine WP.mv rfl rfl ?_; refine WP.nil ?_; refine WP.next ?_; iterate 2 refine WP.seq ?_
 refine WP.region [0] rfl ?_; refine WP.mv rfl rfl ?_; refine WP.nil ?_; refine WP.next ?_; refine WP.block ?_; refine WP.loop (X := GqX) (fun u : GqX => [(0, .slice Ab b.length cb), (4, .pointer (some ⟨q, 0, none⟩)), (5, .int .i64 ((rNum 8 ⟨b, 0⟩).1 : Int)), (6, u.v), (7, .int .i64 (u.i : Int))]) (fun u => u.J) (fun u : GqX => u.Lr ++ (u.Lo ++ F)) (fun u : GqX => J1.le u.J ∧ u.i ≤ (rNum 8 ⟨b, 0⟩).1 ∧ IsRq u.J q u.s u.Lr ∧ Own 51 3 u.v (prC u.ps) u.i u.Lo ∧ (∀ x ∈ u.ps, RNodes u.J x.2 x.1.nodes ∧ x.1.nodes.length ≤ 64) ∧ u.ps.length = u.i ∧ (u.s.e = 0 → prs u.ps = u.pl) ∧ rdG b = (u.pl ++ (gkL ((rNum 8 ⟨b, 0⟩).1 - u.i) u.s).1, (gkL ((rNum 8 ⟨b, 0⟩).1 - u.i) u.s).2)) (fun u => (rNum 8 ⟨b, 0⟩).1 - u.i) ⟨0, J1, [], [], (rNum 8 ⟨b, 0⟩).2, .slice none 0 0, L2, []⟩ ⟨Imm.le_refl _, Nat.zero_le _, hq, .none0, (fun x h => by cases h), rfl, (fun _ => rfl), rfl⟩ ⟨rfl, rfl, rfl, rfl, rfl, trivial⟩ rfl (by (try simp only [List.append_eq, List.cons_append, List.nil_append, List.append_assoc]); repeat (first | exact Rm.chunk | exact Rm.here | exact Rm.nil0 | apply Rm.skip | apply Rm.skipS | apply PX.cons | (apply PX.done; (repeat (first | exact Leave.done | apply Leave.drop | apply Leave.dropS)); done) | apply PX.app)) ?_; rintro ⟨i, J, ps, pl, s1, vo, Lr, Lo⟩ ⟨hJ, hi, hq1, ho, hpn, hpl, hpe, heq⟩; dsimp only at hJ hi hq1 ho hpn hpl hpe heq; obtain ⟨Ao, co, rfl, _⟩ := ho.slice
 try dsimp only
 try simp only [nf]
 iterate 2 refine WP.seq ?_
 refine WP.region [0, 1, 2, 3, 4, 5, 6, 7, 8, 9] rfl ?_; iterate 2 refine WP.mv rfl rfl ?_
 refine WP.split rfl rfl rfl rfl (Yld.lss rfl rfl rfl) (fun hlt => ?_) (fun hlt => ?_)
 ·obtain @⟨vq, bsq, atq, hbq, hlq, haq, hsq⟩ := id hq1
  refine WP.mv rfl rfl ?_; refine WP.valG rfl rfl rfl rfl rfl rfl rfl (Yld.move rfl rfl) ?_; refine WP.valG rfl rfl rfl rfl rfl rfl rfl (Yld.nilCheck rfl rfl) ?_; refine WP.valG rfl rfl rfl rfl rfl rfl rfl (Yld.fieldAddr rfl ty_fd_153_2 rfl) ?_; refine WP.valG rfl rfl rfl rfl rfl rfl rfl (Yld.ld (v := .int .i64 s1.e) rfl ty_sc_27 rfl rfl) ?_; refine WP.splitG rfl rfl rfl rfl rfl rfl rfl (Yld.eql rfl rfl rfl) (fun he => ?_) (fun he => ?_)
  ·refine WP.vl rfl (Yld.pickT rfl rfl rfl) ?_
   refine WP.nil ?_; refine WP.sub [(0, _), (4, _), (5, _), (6, _), (7, _), (25, _)] ?_ ⟨rfl, rfl, rfl, rfl, rfl, rfl, trivial⟩
   refine WP.next ?_; refine WP.condT rfl ?_; refine WP.skip ?_; refine WP.next ?_; refine WP.seq ?_; refine WP.block ?_; refine WP.seq ?_; refine WP.region [0, 1, 2, 3, 4, 5] rfl ?_; refine WP.mv rfl rfl ?_; refine WP.loud rfl rfl ?_; refine Op.cl (ref1_Num (most := 512) hq1) rfl Tryz.func75 rfl rfl rfl rfl ?_; rintro v J L3 - ⟨rfl, rfl, hq2⟩
   try simp only [nf]
   have hle1 := rNum_le 512 s1
   refine WP.vl rfl (Yld.conv64 (a := (((rNum 512 s1).1 : Nat) : Int)) rfl ty_un_40 ty_ik_3 rfl (by omega)) ?_; refine WP.vl rfl (Yld.buildS (pl := [(0, 0, 1)]) rfl ty_zr_51 ty_zd_51 (by kernel_rfl) rfl (vs := [_]) rfl (segs := [(0, [_])]) rfl rfl (by repeat (first | exact SetSeg.nil | apply SetSeg.one | exact SetAt.zero | apply SetAt.succ))) ?_; refine WP.loud rfl rfl ?_; refine Op.alloc rfl rfl rfl ty_zr_51 (fun b8 => ?_)
   refine WP.loud rfl rfl ?_; refine Op.sA rfl rfl ty_sz_51 rfl rfl rfl rfl rfl ?_; refine WP.nil ?_; refine WP.sub [(0, _), (4, _), (5, _), (6, _), (7, _), (8, _), (25, _)] ?_ ⟨rfl, rfl, rfl, rfl, rfl, rfl, rfl, trivial⟩
   refine WP.next ?_; refine WP.seq ?_; refine WP.region [0, 1, 2, 3] rfl ?_; refine WP.mv rfl rfl ?_; refine WP.loud rfl rfl ?_; refine Op.cl (ref12_take hq2) rfl Tryz.func76 rfl rfl rfl rfl ?_; rintro v J2 L4 hJ2 ⟨l, hrn, hl64, hq3, hlt3⟩
   try simp only [nf]
   obtain ⟨nv, hn, hno⟩ := id hrn.ex
   obtain ⟨An, cn, rfl, hcn⟩ := hn.slice'
   refine WP.vl rfl (Yld.fieldAddr rfl ty_fd_51_2 rfl) ?_; refine WP.loud rfl rfl ?_; refine Op.s1 rfl rfl ty_sz_41 rfl rfl rfl ?_; refine WP.nil ?_; refine WP.sub [(0, _), (4, _), (5, _), (6, _), (7, _), (8, _), (25, _)] ?_ ⟨rfl, rfl, rfl, rfl, rfl, rfl, rfl, trivial⟩
   refine WP.next ?_; refine WP.region [0, 1, 2, 3, 4] rfl ?_; refine WP.mv rfl rfl ?_; refine WP.vl rfl (Yld.ldg (vs := [.int .i64 ((rNum 512 s1).1 : Int), .int .i64 0, (.slice An l.length cn)]) rfl ty_ag_51 rfl rfl rfl) ?_; refine WP.loud rfl rfl ?_; refine Op.buildSlice rfl ty_sl_52 ty_el2_52 rfl rfl rfl rfl (vs := [_]) rfl (segs := [(0, [.int .i64 ((rNum 512 s1).1 : Int), .int .i64 0, (.slice An l.length cn)])]) (cs := [.int .i64 ((rNum 512 s1).1 : Int), .int .i64 0, (.slice An l.length cn)]) rfl rfl (.seg (Nat.le_refl _) rfl .nil) (fun bq => ?_)
   refine WP.loud rfl rfl ?_; refine Op.append (m := 1) rfl ty_sl_52 ty_el_52 rfl rfl rfl rfl rfl ho (SlRd.lit (m := 1) (by repeat (first | exact There.h | exact There.i (by assumption) | apply There.t | apply There.s)) rfl (Nat.le_refl _)) (by repeat (first | exact Take.nil | with_reducible apply Take.cons | apply Take.app | exact Rm.chunk | exact Rm.here | exact Rm.nil0 | apply Rm.skip | apply Rm.skipS | (focus (apply Take.all; (repeat (first | exact Rm.chunk | exact Rm.here | exact Rm.nil0 | apply Rm.skip | apply Rm.skipS)); done)) | apply Take.cons)) rfl (by omega) (by omega) (fun vu Lu hu => ?_)
   try simp only [nf]
   obtain ⟨Au, cu, rfl, _⟩ := hu.slice
   refine WP.mv rfl rfl ?_; refine WP.nil ?_; refine WP.sub [(0, _), (4, _), (5, _), (6, _), (7, _), (8, _), (25, _)] ?_ ⟨rfl, rfl, rfl, rfl, rfl, rfl, rfl, trivial⟩
   refine WP.leave ?_; refine WP.next ?_; refine WP.region [0, 1, 2] rfl ?_; refine WP.mv rfl rfl ?_; refine WP.vl rfl (Yld.add64 rfl rfl rfl (by omega)) ?_; refine WP.mv rfl rfl ?_; refine WP.nil ?_; refine WP.sub [(0, _), (4, _), (5, _), (6, _), (7, _), (8, _), (25, _)] ?_ ⟨rfl, rfl, rfl, rfl, rfl, rfl, rfl, trivial⟩
   exact WP.again ⟨i + 1, J2, ps ++ [((⟨((rNum 512 s1).1 : Int), 0, l⟩ : Pr), (.slice An l.length cn))], pl ++ [(⟨((rNum 512 s1).1 : Int), 0, (tkN (rNum 512 s1).2).1⟩ : Pr)], (tkN (rNum 512 s1).2).2, .slice Au (i + 1) cu, L4, Lu⟩ ⟨Imm.le_trans hJ hJ2, (show i + 1 ≤ (rNum 8 ⟨b, 0⟩).1 by omega), hq3, by rw [prC_snoc]; exact hu, (fun x hx => by rcases List.mem_append.1 hx with hx | hx; exact ⟨(hpn x hx).1.mono hJ2, (hpn x hx).2⟩; cases List.mem_singleton.1 hx; exact ⟨hrn, hl64⟩), by rw [List.length_append, hpl]; rfl, (fun h => by rw [prs_snoc, hpe he, hlt3 h]), by rw [heq, show (rNum 8 ⟨b, 0⟩).1 - i = ((rNum 8 ⟨b, 0⟩).1 - (i + 1)) + 1 by omega, gkL_succ, List.append_assoc]; rfl⟩ (show (rNum 8 ⟨b, 0⟩).1 - (i + 1) < (rNum 8 ⟨b, 0⟩).1 - i by omega) ⟨rfl, rfl, rfl, rfl, rfl, trivial⟩ rfl (by (try simp only [List.append_eq, List.cons_append, List.nil_append, List.append_assoc]); repeat (first | exact Rm.chunk | exact Rm.here | exact Rm.nil0 | apply Rm.skip | apply Rm.skipS | apply PX.cons | (apply PX.done; (repeat (first | exact Leave.done | apply Leave.drop | apply Leave.dropS)); done) | apply PX.app))
  ·have hg2 : (rdG b).2 = s1 := by rw [heq]; exact gkL_err he _
   have hg1 : s1.e = 0 → (rdG b).1 = prs ps := fun h => absurd h he
   refine WP.vl rfl (Yld.pickT rfl rfl rfl) ?_; refine WP.nil ?_; refine WP.sub [(0, _), (4, _), (5, _), (6, _), (7, _), (25, _)] ?_ ⟨rfl, rfl, rfl, rfl, rfl, rfl, trivial⟩
   refine WP.next ?_; refine WP.condF rfl ?_; refine WP.exit ?_; iterate 2 refine WP.thenE ?_
   refine WP.hit ?_; refine WP.next ?_; refine WP.seq ?_; rw [← hpl] at ho ⊢
   refine WP.shO ho (fun J3 hJ3 hpo => ?_)
   have hrp : RPrs J3 (.slice Ao ps.length co) ps := ⟨hpo, fun x hx => (hpn x hx).1.mono hJ3⟩
   refine WP.region [0, 1, 2] rfl ?_; refine WP.mv rfl rfl ?_; refine WP.loud rfl rfl ?_; refine Op.cl (ref1_Done (hq1.mono hJ3)) rfl Tryz.func77 rfl rfl rfl rfl ?_; rintro v J L5 - ⟨rfl, rfl, hq⟩
   try simp only [nf]
   rw [← hg2]
   refine WP.mv rfl rfl ?_; refine WP.nil ?_; refine WP.sub [(0, _), (4, _), (5, _), (6, _), (7, _), (9, _), (25, _)] ?_ ⟨rfl, rfl, rfl, rfl, rfl, rfl, rfl, trivial⟩
   refine WP.next ?_; refine WP.seq ?_; refine WP.region [0, 1, 2] rfl ?_; refine WP.mv rfl rfl ?_; refine WP.loud rfl rfl ?_; refine Op.cl (ref12_MayGroup hrp (by omega) (fun x hx => by have := (hpn x hx).2; omega)) rfl Tryz.func68 rfl rfl rfl rfl ?_; rintro v J L1 - ⟨c, rfl, hc, rfl, rfl⟩
   try simp only [nf]
   by_cases hc1 : c = true
   ·rw [hc1]
    refine WP.mv rfl rfl ?_; refine WP.nil ?_; refine WP.sub [(0, _), (4, _), (5, _), (6, _), (7, _), (9, _), (10, _), (25, _)] ?_ ⟨rfl, rfl, rfl, rfl, rfl, rfl, rfl, rfl, trivial⟩
    refine WP.next ?_; iterate 2 refine WP.seq ?_
    refine WP.region [0, 1, 2, 3, 4, 5, 6, 7, 8, 9, 10] rfl ?_; refine WP.mv rfl rfl ?_; refine WP.split rfl rfl rfl rfl (Yld.neq rfl rfl rfl) (fun hd => ?_) (fun hd => ?_)
    ·refine WP.mv rfl rfl ?_
     iterate 2 refine WP.passG rfl rfl rfl rfl rfl rfl rfl rfl ?_
     refine WP.vl rfl (Yld.pickT rfl rfl rfl) ?_; refine WP.mv rfl rfl ?_; iterate 3 refine WP.passG rfl rfl rfl rfl rfl rfl rfl rfl ?_
     refine WP.vl rfl (Yld.pickT rfl rfl rfl) ?_; refine WP.nil ?_; refine WP.sub [(0, _), (4, _), (5, _), (6, _), (7, _), (9, _), (10, _), (25, _), (53, _)] ?_ ⟨rfl, rfl, rfl, rfl, rfl, rfl, rfl, rfl, rfl, trivial⟩
     refine WP.next ?_; refine WP.condT rfl ?_; refine WP.seq ?_; refine WP.region [0, 1] rfl ?_; iterate 2 refine WP.mv rfl rfl ?_
     refine WP.nil ?_; refine WP.next ?_; refine WP.ret ?_; refine WP.fn .ret (.inr rfl) (res2 rfl rfl rfl) [] (Imm.le_trans hJ1 (Imm.le_trans hJ hJ3)) ?_; refine ⟨rfl, _, [], 120, rfl, RPrs.nil _, .inr ⟨fun h => ?_, rfl, rfl⟩⟩
     have h1 := h.1; have h2 := h.2.1; have h3 := h.2.2
     first | exact hd h1 | omega | (have hg := hg1 (by rw [← hg2]; exact (Rs.done_ok h1).1); rw [hg] at h3; rw [hc.2 h3] at hc1; cases hc1)
    ·refine WP.mv rfl rfl ?_
     refine WP.valG rfl rfl rfl rfl rfl rfl rfl (Yld.move rfl rfl) ?_; refine WP.valG rfl rfl rfl rfl rfl rfl rfl (Yld.not rfl rfl) ?_; refine WP.vl rfl (Yld.pickF rfl rfl rfl) ?_; refine WP.mv rfl rfl ?_; refine WP.valG rfl rfl rfl rfl rfl rfl rfl (Yld.move rfl rfl) ?_; refine WP.valG rfl rfl rfl rfl rfl rfl rfl (Yld.len rfl ty_sl_49 rfl) ?_; refine WP.splitG rfl rfl rfl rfl rfl rfl rfl (Yld.gtr rfl rfl rfl) (fun hlong => ?_) (fun hlong => ?_)
     ·refine WP.vl rfl (Yld.pickF rfl rfl rfl) ?_
      refine WP.nil ?_; refine WP.sub [(0, _), (4, _), (5, _), (6, _), (7, _), (9, _), (10, _), (25, _), (53, _)] ?_ ⟨rfl, rfl, rfl, rfl, rfl, rfl, rfl, rfl, rfl, trivial⟩
      refine WP.next ?_; refine WP.condT rfl ?_; refine WP.seq ?_; refine WP.region [0, 1] rfl ?_; iterate 2 refine WP.mv rfl rfl ?_
      refine WP.nil ?_; refine WP.next ?_; refine WP.ret ?_; refine WP.fn .ret (.inr rfl) (res2 rfl rfl rfl) [] (Imm.le_trans hJ1 (Imm.le_trans hJ hJ3)) ?_; refine ⟨rfl, _, [], 120, rfl, RPrs.nil _, .inr ⟨fun h => ?_, rfl, rfl⟩⟩
      have h1 := h.1; have h2 := h.2.1; have h3 := h.2.2
      first | exact hd h1 | omega | (have hg := hg1 (by rw [← hg2]; exact (Rs.done_ok h1).1); rw [hg] at h3; rw [hc.2 h3] at hc1; cases hc1)
     ·refine WP.vl rfl (Yld.pickF rfl rfl rfl) ?_
      refine WP.nil ?_; refine WP.sub [(0, _), (4, _), (5, _), (6, _), (7, _), (9, _), (10, _), (25, _), (53, _)] ?_ ⟨rfl, rfl, rfl, rfl, rfl, rfl, rfl, rfl, rfl, trivial⟩
      refine WP.next ?_; refine WP.condF rfl ?_; refine WP.skip ?_; refine WP.next ?_; refine WP.seq ?_; refine WP.region [0, 1, 2] rfl ?_; iterate 3 refine WP.mv rfl rfl ?_
      refine WP.nil ?_; refine WP.sub [(0, _), (2, _), (3, _), (4, _), (5, _), (6, _), (7, _), (9, _), (10, _), (25, _), (53, _)] ?_ ⟨rfl, rfl, rfl, rfl, rfl, rfl, rfl, rfl, rfl, rfl, rfl, trivial⟩
      refine WP.next ?_; refine WP.ret ?_; refine WP.fn .ret (.inr rfl) (res2 rfl rfl rfl) [] (Imm.le_trans hJ1 (Imm.le_trans hJ hJ3)) ?_; have hz := (Rs.done_ok (Decidable.not_not.1 hd)).1
      have hg := hg1 (by rw [← hg2]; exact hz)
      rw [← hg] at hc
      exact ⟨rfl, _, ps, 0, rfl, hrp, .inl ⟨⟨Decidable.not_not.1 hd, by omega, hc.1 hc1⟩, rfl, hg.symm⟩⟩
   ·have hc1 : c = false := eq_false_of_ne_true hc1
    rw [hc1]
    refine WP.mv rfl rfl ?_; refine WP.nil ?_; refine WP.sub [(0, _), (4, _), (5, _), (6, _), (7, _), (9, _), (10, _), (25, _)] ?_ ⟨rfl, rfl, rfl, rfl, rfl, rfl, rfl, rfl, trivial⟩
    refine WP.next ?_; iterate 2 refine WP.seq ?_
    refine WP.region [0, 1, 2, 3, 4, 5, 6, 7, 8, 9, 10] rfl ?_; refine WP.mv rfl rfl ?_; refine WP.split rfl rfl rfl rfl (Yld.neq rfl rfl rfl) (fun hd => ?_) (fun hd => ?_)
    ·refine WP.mv rfl rfl ?_
     iterate 2 refine WP.passG rfl rfl rfl rfl rfl rfl rfl rfl ?_
     refine WP.vl rfl (Yld.pickT rfl rfl rfl) ?_; refine WP.mv rfl rfl ?_; iterate 3 refine WP.passG rfl rfl rfl rfl rfl rfl rfl rfl ?_
     refine WP.vl rfl (Yld.pickT rfl rfl rfl) ?_; refine WP.nil ?_; refine WP.sub [(0, _), (4, _), (5, _), (6, _), (7, _), (9, _), (10, _), (25, _), (53, _)] ?_ ⟨rfl, rfl, rfl, rfl, rfl, rfl, rfl, rfl, rfl, trivial⟩
     refine WP.next ?_; refine WP.condT rfl ?_; refine WP.seq ?_; refine WP.region [0, 1] rfl ?_; iterate 2 refine WP.mv rfl rfl ?_
     refine WP.nil ?_; refine WP.next ?_; refine WP.ret ?_; refine WP.fn .ret (.inr rfl) (res2 rfl rfl rfl) [] (Imm.le_trans hJ1 (Imm.le_trans hJ hJ3)) ?_; refine ⟨rfl, _, [], 120, rfl, RPrs.nil _, .inr ⟨fun h => ?_, rfl, rfl⟩⟩
     have h1 := h.1; have h2 := h.2.1; have h3 := h.2.2
     first | exact hd h1 | omega | (have hg := hg1 (by rw [← hg2]; exact (Rs.done_ok h1).1); rw [hg] at h3; rw [hc.2 h3] at hc1; cases hc1)
    ·refine WP.mv rfl rfl ?_
     refine WP.valG rfl rfl rfl rfl rfl rfl rfl (Yld.move rfl rfl) ?_; refine WP.valG rfl rfl rfl rfl rfl rfl rfl (Yld.not rfl rfl) ?_; refine WP.vl rfl (Yld.pickF rfl rfl rfl) ?_; refine WP.mv rfl rfl ?_; iterate 3 refine WP.passG rfl rfl rfl rfl rfl rfl rfl rfl ?_
     refine WP.vl rfl (Yld.pickT rfl rfl rfl) ?_; refine WP.nil ?_; refine WP.sub [(0, _), (4, _), (5, _), (6, _), (7, _), (9, _), (10, _), (25, _), (53, _)] ?_ ⟨rfl, rfl, rfl, rfl, rfl, rfl, rfl, rfl, rfl, trivial⟩
     refine WP.next ?_; refine WP.condT rfl ?_; refine WP.seq ?_; refine WP.region [0, 1] rfl ?_; iterate 2 refine WP.mv rfl rfl ?_
     refine WP.nil ?_; refine WP.next ?_; refine WP.ret ?_; refine WP.fn .ret (.inr rfl) (res2 rfl rfl rfl) [] (Imm.le_trans hJ1 (Imm.le_trans hJ hJ3)) ?_; refine ⟨rfl, _, [], 120, rfl, RPrs.nil _, .inr ⟨fun h => ?_, rfl, rfl⟩⟩
     have h1 := h.1; have h2 := h.2.1; have h3 := h.2.2
     first | exact hd h1 | omega | (have hg := hg1 (by rw [← hg2]; exact (Rs.done_ok h1).1); rw [hg] at h3; rw [hc.2 h3] at hc1; cases hc1)
 ·have hn0 : i = (rNum 8 ⟨b, 0⟩).1 := by omega
  rw [hn0, Nat.sub_self] at heq
  have hg2 : (rdG b).2 = s1 := by rw [heq]; rfl
  have hg1 : s1.e = 0 → (rdG b).1 = prs ps := fun h => by rw [heq, hpe h]; exact List.append_nil _
  refine WP.mv rfl rfl ?_; iterate 5 refine WP.passG rfl rfl rfl rfl rfl rfl rfl rfl ?_
  refine WP.vl rfl (Yld.pickF rfl rfl rfl) ?_; refine WP.nil ?_; refine WP.sub [(0, _), (4, _), (5, _), (6, _), (7, _), (25, _)] ?_ ⟨rfl, rfl, rfl, rfl, rfl, rfl, trivial⟩
  refine WP.next ?_; refine WP.condF rfl ?_; refine WP.exit ?_; iterate 2 refine WP.thenE ?_
  refine WP.hit ?_; refine WP.next ?_; refine WP.seq ?_; rw [← hpl] at ho ⊢
  refine WP.shO ho (fun J3 hJ3 hpo => ?_)
  have hrp : RPrs J3 (.slice Ao ps.length co) ps := ⟨hpo, fun x hx => (hpn x hx).1.mono hJ3⟩
  refine WP.region [0, 1, 2] rfl ?_; refine WP.mv rfl rfl ?_; refine WP.loud rfl rfl ?_; refine Op.cl (ref1_Done (hq1.mono hJ3)) rfl Tryz.func77 rfl rfl rfl rfl ?_; rintro v J L5 - ⟨rfl, rfl, hq⟩
  try simp only [nf]
  rw [← hg2]
  refine WP.mv rfl rfl ?_; refine WP.nil ?_; refine WP.sub [(0, _), (4, _), (5, _), (6, _), (7, _), (9, _), (25, _)] ?_ ⟨rfl, rfl, rfl, rfl, rfl, rfl, rfl, trivial⟩
  refine WP.next ?_; refine WP.seq ?_; refine WP.region [0, 1, 2] rfl ?_; refine WP.mv rfl rfl ?_; refine WP.loud rfl rfl ?_; refine Op.cl (ref12_MayGroup hrp (by omega) (fun x hx => by have := (hpn x hx).2; omega)) rfl Tryz.func68 rfl rfl rfl rfl ?_; rintro v J L1 - ⟨c, rfl, hc, rfl, rfl⟩
  try simp only [nf]
  by_cases hc1 : c = true
  ·rw [hc1]
   refine WP.mv rfl rfl ?_; refine WP.nil ?_; refine WP.sub [(0, _), (4, _), (5, _), (6, _), (7, _), (9, _), (10, _), (25, _)] ?_ ⟨rfl, rfl, rfl, rfl, rfl, rfl, rfl, rfl, trivial⟩
   refine WP.next ?_; iterate 2 refine WP.seq ?_
   refine WP.region [0, 1, 2, 3, 4, 5, 6, 7, 8, 9, 10] rfl ?_; refine WP.mv rfl rfl ?_; refine WP.split rfl rfl rfl rfl (Yld.neq rfl rfl rfl) (fun hd => ?_) (fun hd => ?_)
   ·refine WP.mv rfl rfl ?_
    iterate 2 refine WP.passG rfl rfl rfl rfl rfl rfl rfl rfl ?_
    refine WP.vl rfl (Yld.pickT rfl rfl rfl) ?_; refine WP.mv rfl rfl ?_; iterate 3 refine WP.passG rfl rfl rfl rfl rfl rfl rfl rfl ?_
    refine WP.vl rfl (Yld.pickT rfl rfl rfl) ?_; refine WP.nil ?_; refine WP.sub [(0, _), (4, _), (5, _), (6, _), (7, _), (9, _), (10, _), (25, _), (53, _)] ?_ ⟨rfl, rfl, rfl, rfl, rfl, rfl, rfl, rfl, rfl, trivial⟩
    refine WP.next ?_; refine WP.condT rfl ?_; refine WP.seq ?_; refine WP.region [0, 1] rfl ?_; iterate 2 refine WP.mv rfl rfl ?_
    refine WP.nil ?_; refine WP.next ?_; refine WP.ret ?_; refine WP.fn .ret (.inr rfl) (res2 rfl rfl rfl) [] (Imm.le_trans hJ1 (Imm.le_trans hJ hJ3)) ?_; refine ⟨rfl, _, [], 120, rfl, RPrs.nil _, .inr ⟨fun h => ?_, rfl, rfl⟩⟩
    have h1 := h.1; have h2 := h.2.1; have h3 := h.2.2
    first | exact hd h1 | omega | (have hg := hg1 (by rw [← hg2]; exact (Rs.done_ok h1).1); rw [hg] at h3; rw [hc.2 h3] at hc1; cases hc1)
   ·refine WP.mv rfl rfl ?_
    refine WP.valG rfl rfl rfl rfl rfl rfl rfl (Yld.move rfl rfl) ?_; refine WP.valG rfl rfl rfl rfl rfl rfl rfl (Yld.not rfl rfl) ?_; refine WP.vl rfl (Yld.pickF rfl rfl rfl) ?_; refine WP.mv rfl rfl ?_; refine WP.valG rfl rfl rfl rfl rfl rfl rfl (Yld.move rfl rfl) ?_; refine WP.valG rfl rfl rfl rfl rfl rfl rfl (Yld.len rfl ty_sl_49 rfl) ?_; refine WP.splitG rfl rfl rfl rfl rfl rfl rfl (Yld.gtr rfl rfl rfl) (fun hlong => ?_) (fun hlong => ?_)
    ·refine WP.vl rfl (Yld.pickF rfl rfl rfl) ?_
     refine WP.nil ?_; refine WP.sub [(0, _), (4, _), (5, _), (6, _), (7, _), (9, _), (10, _), (25, _), (53, _)] ?_ ⟨rfl, rfl, rfl, rfl, rfl, rfl, rfl, rfl, rfl, trivial⟩
     refine WP.next ?_; refine WP.condT rfl ?_; refine WP.seq ?_; refine WP.region [0, 1] rfl ?_; iterate 2 refine WP.mv rfl rfl ?_
     refine WP.nil ?_; refine WP.next ?_; refine WP.ret ?_; refine WP.fn .ret (.inr rfl) (res2 rfl rfl rfl) [] (Imm.le_trans hJ1 (Imm.le_trans hJ hJ3)) ?_; refine ⟨rfl, _, [], 120, rfl, RPrs.nil _, .inr ⟨fun h => ?_, rfl, rfl⟩⟩
     have h1 := h.1; have h2 := h.2.1; have h3 := h.2.2
     first | exact hd h1 | omega | (have hg := hg1 (by rw [← hg2]; exact (Rs.done_ok h1).1); rw [hg] at h3; rw [hc.2 h3] at hc1; cases hc1)
    ·refine WP.vl rfl (Yld.pickF rfl rfl rfl) ?_
     refine WP.nil ?_; refine WP.sub [(0, _), (4, _), (5, _), (6, _), (7, _), (9, _), (10, _), (25, _), (53, _)] ?_ ⟨rfl, rfl, rfl, rfl, rfl, rfl, rfl, rfl, rfl, trivial⟩
     refine WP.next ?_; refine WP.condF rfl ?_; refine WP.skip ?_; refine WP.next ?_; refine WP.seq ?_; refine WP.region [0, 1, 2] rfl ?_; iterate 3 refine WP.mv rfl rfl ?_
     refine WP.nil ?_; refine WP.sub [(0, _), (2, _), (3, _), (4, _), (5, _), (6, _), (7, _), (9, _), (10, _), (25, _), (53, _)] ?_ ⟨rfl, rfl, rfl, rfl, rfl, rfl, rfl, rfl, rfl, rfl, rfl, trivial⟩
     refine WP.next ?_; refine WP.ret ?_; refine WP.fn .ret (.inr rfl) (res2 rfl rfl rfl) [] (Imm.le_trans hJ1 (Imm.le_trans hJ hJ3)) ?_; have hz := (Rs.done_ok (Decidable.not_not.1 hd)).1
     have hg := hg1 (by rw [← hg2]; exact hz)
     rw [← hg] at hc
     exact ⟨rfl, _, ps, 0, rfl, hrp, .inl ⟨⟨Decidable.not_not.1 hd, by omega, hc.1 hc1⟩, rfl, hg.symm⟩⟩
  ·have hc1 : c = false := eq_false_of_ne_true hc1
   rw [hc1]
   refine WP.mv rfl rfl ?_; refine WP.nil ?_; refine WP.sub [(0, _), (4, _), (5, _), (6, _), (7, _), (9, _), (10, _), (25, _)] ?_ ⟨rfl, rfl, rfl, rfl, rfl, rfl, rfl, rfl, trivial⟩
   refine WP.next ?_; iterate 2 refine WP.seq ?_
   refine WP.region [0, 1, 2, 3, 4, 5, 6, 7, 8, 9, 10] rfl ?_; refine WP.mv rfl rfl ?_; refine WP.split rfl rfl rfl rfl (Yld.neq rfl rfl rfl) (fun hd => ?_) (fun hd => ?_)
   ·refine WP.mv rfl rfl ?_
    iterate 2 refine WP.passG rfl rfl rfl rfl rfl rfl rfl rfl ?_
    refine WP.vl rfl (Yld.pickT rfl rfl rfl) ?_; refine WP.mv rfl rfl ?_; iterate 3 refine WP.passG rfl rfl rfl rfl rfl rfl rfl rfl ?_
    refine WP.vl rfl (Yld.pickT rfl rfl rfl) ?_; refine WP.nil ?_; refine WP.sub [(0, _), (4, _), (5, _), (6, _), (7, _), (9, _), (10, _), (25, _), (53, _)] ?_ ⟨rfl, rfl, rfl, rfl, rfl, rfl, rfl, rfl, rfl, trivial⟩
    refine WP.next ?_; refine WP.condT rfl ?_; refine WP.seq ?_; refine WP.region [0, 1] rfl ?_; iterate 2 refine WP.mv rfl rfl ?_
    refine WP.nil ?_; refine WP.next ?_; refine WP.ret ?_; refine WP.fn .ret (.inr rfl) (res2 rfl rfl rfl) [] (Imm.le_trans hJ1 (Imm.le_trans hJ hJ3)) ?_; refine ⟨rfl, _, [], 120, rfl, RPrs.nil _, .inr ⟨fun h => ?_, rfl, rfl⟩⟩
    have h1 := h.1; have h2 := h.2.1; have h3 := h.2.2
    first | exact hd h1 | omega | (have hg := hg1 (by rw [← hg2]; exact (Rs.done_ok h1).1); rw [hg] at h3; rw [hc.2 h3] at hc1; cases hc1)
   ·refine WP.mv rfl rfl ?_
    refine WP.valG rfl rfl rfl rfl rfl rfl rfl (Yld.move rfl rfl) ?_; refine WP.valG rfl rfl rfl rfl rfl rfl rfl (Yld.not rfl rfl) ?_; refine WP.vl rfl (Yld.pickF rfl rfl rfl) ?_; refine WP.mv rfl rfl ?_; iterate 3 refine WP.passG rfl rfl rfl rfl rfl rfl rfl rfl ?_
    refine WP.vl rfl (Yld.pickT rfl rfl rfl) ?_; refine WP.nil ?_; refine WP.sub [(0, _), (4, _), (5, _), (6, _), (7, _), (9, _), (10, _), (25, _), (53, _)] ?_ ⟨rfl, rfl, rfl, rfl, rfl, rfl, rfl, rfl, rfl, trivial⟩
    refine WP.next ?_; refine WP.condT rfl ?_; refine WP.seq ?_; refine WP.region [0, 1] rfl ?_; iterate 2 refine WP.mv rfl rfl ?_
    refine WP.nil ?_; refine WP.next ?_; refine WP.ret ?_; refine WP.fn .ret (.inr rfl) (res2 rfl rfl rfl) [] (Imm.le_trans hJ1 (Imm.le_trans hJ hJ3)) ?_; refine ⟨rfl, _, [], 120, rfl, RPrs.nil _, .inr ⟨fun h => ?_, rfl, rfl⟩⟩
    have h1 := h.1; have h2 := h.2.1; have h3 := h.2.2
    first | exact hd h1 | omega | (have hg := hg1 (by rw [← hg2]; exact (Rs.done_ok h1).1); rw [hg] at h3; rw [hc.2 h3] at hc1; cases hc1)


end Go.Hp
