import Derived.Test.YtilgaelpbgfnnaaGreatRdB
import Derived.Test.YtilgaelpbgfnnaaGreatTxnQ
set_option linter.unusedVariables false
set_option linter.unusedSimpArgs false
namespace Go.Hp
open Go Go.Proofs

structure TkX where
 i : Nat
 J : Imm
 nv : List (Bool × Value)
 l : List (Bool × List UInt8)
 s : Rs
 v : Value
 Lr : Chunks
 Lo : Chunks
theorem NodesOk.snoc {V : Nat → Obj → Prop} {nv : List (Bool × Value)} {l : List (Bool × List UInt8)} {c : Bool} {u : Value} {d : List UInt8} (h : NodesOk V nv l) (hd : SlRd V u d.length 1 (bytesV d)) : NodesOk V (nv ++ [(c, u)]) (l ++ [(c, d)]) := by
 have hl := h.len
 refine ⟨by rw [List.length_append, List.length_append, hl]; rfl, fun i x hx => ?_⟩
 by_cases hi : i < nv.length
 ·rw [List.getElem?_append_left hi] at hx
  obtain ⟨d', h1, h2⟩ := h.at_ i x hx
  exact ⟨d', by rw [List.getElem?_append_left (by omega)]; exact h1, h2⟩
 ·rw [List.getElem?_append_right (by omega)] at hx
  have h0 : i - nv.length = 0 := by
   rcases Nat.eq_zero_or_pos (i - nv.length) with h0 | h0
   ·exact h0
   ·rw [List.getElem?_eq_none (by simp; omega)] at hx; cases hx
  rw [h0] at hx
  cases hx
  exact ⟨d, by rw [List.getElem?_append_right (by omega), ← hl, h0]; rfl, hd⟩
theorem tkL_succ (n : Nat) (s : Rs) : tkL (n + 1) s = ((decide (((rNum 1 s).1 : Int) = 1), (rByt 12671 (rNum 1 s).2).1) :: (tkL n (rByt 12671 (rNum 1 s).2).2).1, (tkL n (rByt 12671 (rNum 1 s).2).2).2) := rfl
theorem txn_takeNodes {I : Imm} {q : Nat} {s : Rs} {L : Chunks} (hq : IsRd I q s L) : Spec Tryz.prog 72 [.pointer (some ⟨q, 0, none⟩)] I L (fun v J L' => RNodes J v (tkN s).1 ∧ IsRd J q (tkN s).2 L') := by
 refine Spec.of Tryz.func72 rfl Tryz.ntmps72 (Nat.le_of_ble_eq_true rfl) (fun F => ?_)
 try simp only [nf]
 dsimp only [argsEnv]
 refine WP.seq ?_
 refine WP.region [0] rfl ?_
 refine WP.mv rfl rfl ?_
 refine WP.nil ?_
 refine WP.next ?_
 refine WP.seq ?_
 refine WP.region [0] rfl ?_
 refine WP.mv rfl rfl ?_
 refine WP.nil ?_
 refine WP.next ?_
 refine WP.seq ?_
 refine WP.seq ?_
 refine WP.region [0, 1, 2] rfl ?_
 refine WP.mv rfl rfl ?_
 refine WP.loud rfl rfl ?_
 refine Op.cl (code_RNum (most := 64) hq) rfl Tryz.func71 rfl rfl rfl rfl ?_
 rintro v J L1 - ⟨rfl, rfl, hq1⟩
 try simp only [nf]
 have hle := rNum_le 64 s
 have hbs := rNum_bs 64 s
 refine WP.mv rfl rfl ?_
 refine WP.nil ?_
 refine WP.sub [(0, _), (2, _), (3, _), (5, _), (6, _)] ?_ ⟨rfl, rfl, rfl, rfl, rfl, trivial⟩
 refine WP.next ?_
 refine WP.block ?_
 refine WP.loop (X := TkX) (fun u : TkX => [(0, .pointer (some ⟨q, 0, none⟩)), (3, u.v), (5, .int .u64 ((rNum 64 s).1 : Int)), (6, .int .u64 (u.i : Int))]) (fun u => u.J) (fun u : TkX => u.Lr ++ (u.Lo ++ F)) (fun u : TkX => I.le u.J ∧ u.i ≤ (rNum 64 s).1 ∧ u.s.bs.length ≤ s.bs.length ∧ IsRd u.J q u.s u.Lr ∧ Own 63 2 u.v (u.nv.flatMap ndV) u.i u.Lo ∧ NodesOk (Imv u.J) u.nv u.l ∧ tkN s = (u.l ++ (tkL ((rNum 64 s).1 - u.i) u.s).1, (tkL ((rNum 64 s).1 - u.i) u.s).2)) (fun u => (rNum 64 s).1 - u.i) ⟨0, I, [], [], (rNum 64 s).2, .slice none 0 0, L1, []⟩ ⟨Imm.le_refl _, Nat.zero_le _, hbs, hq1, .none0, ⟨rfl, fun i x h => by cases h⟩, rfl⟩ ⟨rfl, rfl, rfl, rfl, trivial⟩ rfl (by (try simp only [List.append_eq, List.cons_append, List.nil_append, List.append_assoc]); repeat (first | exact Rm.chunk | exact Rm.here | exact Rm.nil0 | apply Rm.skip | apply Rm.skipS | apply PX.cons | (apply PX.done; (repeat (first | exact Leave.done | apply Leave.drop | apply Leave.dropS)); done) | apply PX.app)) ?_
 rintro ⟨i, J, nv, l, s1, vo, Lr, Lo⟩ ⟨hJ, hi, hsb, hq1, ho, hno, heq⟩; dsimp only at hJ hi hsb hq1 ho hno heq; obtain ⟨Ao, co, rfl, _⟩ := ho.slice
 try dsimp only
 try simp only [nf]
 refine WP.seq ?_
 refine WP.region [0] rfl ?_
 refine WP.split rfl rfl rfl rfl (Yld.lss rfl rfl rfl) (fun hlt => ?_) (fun hlt => ?_)
 ·refine WP.nil ?_
  refine WP.next ?_
  refine WP.seq ?_
  refine WP.condT rfl ?_
  refine WP.skip ?_
  refine WP.next ?_
  refine WP.seq ?_
  refine WP.block ?_
  refine WP.region [0, 1, 2, 3, 4, 5, 6, 7, 8, 9] rfl ?_
  iterate 2 refine WP.mv rfl rfl ?_
  refine WP.loud rfl rfl ?_
  refine Op.cl (code_RNum (most := 1) hq1) rfl Tryz.func71 rfl rfl rfl rfl ?_
  rintro v J L2 - ⟨rfl, rfl, hq2⟩
  try simp only [nf]
  refine WP.vl rfl (Yld.eql rfl rfl rfl _ rfl) ?_
  refine WP.mv rfl rfl ?_
  refine WP.loud rfl rfl ?_
  refine Op.cl (code_RBytes (most := 12671) hq2 (by decide)) rfl Tryz.func128 rfl rfl rfl rfl ?_
  rintro v J L1 - ⟨rfl, Lr3, Ld, rfl, hq3, hod⟩
  try simp only [nf]
  obtain ⟨Ad, cd, rfl, _⟩ := hod.slice
  refine WP.vl rfl (Yld.buildS (pl := [(0, 0, 1), (1, 1, 1)]) rfl ty_zr_63 ty_zd_63 (by kernel_rfl) rfl (vs := [_, _]) rfl (segs := [(0, [_]), (1, [_])]) rfl rfl (by repeat (first | exact SetSeg.nil | apply SetSeg.one | exact SetAt.zero | apply SetAt.succ))) ?_
  refine WP.loud rfl rfl ?_
  refine Op.buildSlice rfl ty_sl_41 ty_el2_41 rfl rfl rfl rfl (vs := [_]) rfl (segs := [(0, ndV (decide (((rNum 1 s1).1 : Int) = 1), .slice Ad (rByt 12671 (rNum 1 s1).2).1.length cd))]) (cs := ndV (decide (((rNum 1 s1).1 : Int) = 1), .slice Ad (rByt 12671 (rNum 1 s1).2).1.length cd)) rfl rfl (.seg (Nat.le_refl _) rfl .nil) (fun bq => ?_)
  refine WP.loud rfl rfl ?_
  refine Op.append (m := 1) rfl ty_sl_41 ty_el_41 rfl rfl rfl rfl rfl ho (SlRd.lit (m := 1) (by repeat (first | exact There.h | exact There.i (by assumption) | apply There.t | apply There.s)) rfl (Nat.le_refl _)) (by repeat (first | exact Take.nil | with_reducible apply Take.cons | apply Take.app | exact Rm.chunk | exact Rm.here | exact Rm.nil0 | apply Rm.skip | apply Rm.skipS | (focus (apply Take.all; (repeat (first | exact Rm.chunk | exact Rm.here | exact Rm.nil0 | apply Rm.skip | apply Rm.skipS)); done)) | apply Take.cons)) rfl (by omega) (by omega) (fun vu Lu hu => ?_)
  try simp only [nf]
  obtain ⟨Au, cu, rfl, _⟩ := hu.slice
  refine WP.mv rfl rfl ?_
  refine WP.nil ?_
  refine WP.sub [(0, _), (3, _), (5, _), (6, _), (7, _)] ?_ ⟨rfl, rfl, rfl, rfl, rfl, trivial⟩
  refine WP.shO hod (fun J2 hJ2 hd9 => ?_)
  refine WP.leave ?_
  refine WP.next ?_
  refine WP.region [0, 1] rfl ?_
  refine WP.vl rfl (Yld.addU64N i 1 (by omega) rfl rfl rfl) ?_
  refine WP.mv rfl rfl ?_
  refine WP.nil ?_
  refine WP.sub [(0, _), (3, _), (5, _), (6, _), (7, _)] ?_ ⟨rfl, rfl, rfl, rfl, rfl, trivial⟩
  exact WP.again ⟨i + 1, J2, nv ++ [(decide (((rNum 1 s1).1 : Int) = 1), .slice Ad (rByt 12671 (rNum 1 s1).2).1.length cd)], l ++ [(decide (((rNum 1 s1).1 : Int) = 1), (rByt 12671 (rNum 1 s1).2).1)], (rByt 12671 (rNum 1 s1).2).2, .slice Au (i + 1) cu, Lr3, Lu⟩ ⟨Imm.le_trans hJ hJ2, (show i + 1 ≤ (rNum 64 s).1 by omega), by have h1 := rByt_bs 12671 (rNum 1 s1).2; have h2 := rNum_bs 1 s1; show (rByt 12671 (rNum 1 s1).2).2.bs.length ≤ _; omega, hq3.mono hJ2, by rw [List.flatMap_append]; exact hu, NodesOk.snoc (V := Imv J2) (u := .slice Ad (rByt 12671 (rNum 1 s1).2).1.length cd) (hno.mono (Imv.le hJ2)) hd9, by rw [heq, show (rNum 64 s).1 - i = ((rNum 64 s).1 - (i + 1)) + 1 by omega, tkL_succ, List.append_assoc]; rfl⟩ (show (rNum 64 s).1 - (i + 1) < (rNum 64 s).1 - i by omega) ⟨rfl, rfl, rfl, rfl, trivial⟩ rfl (by (try simp only [List.append_eq, List.cons_append, List.nil_append, List.append_assoc]); repeat (first | exact Rm.chunk | exact Rm.here | exact Rm.nil0 | apply Rm.skip | apply Rm.skipS | apply PX.cons | (apply PX.done; (repeat (first | exact Leave.done | apply Leave.drop | apply Leave.dropS)); done) | apply PX.app))
 ·have hn0 : i = (rNum 64 s).1 := by omega
  rw [hn0, Nat.sub_self] at heq
  have hlen : (tkN s).1 = l := by rw [heq]; exact List.append_nil l
  have hs2 : (tkN s).2 = s1 := by rw [heq]; rfl
  have hnl := hno.len
  have hll : l.length = i := by rw [← hlen]; unfold tkN; rw [tkL_len]; exact hn0.symm
  refine WP.shO ho (fun J3 hJ3 hnn => ?_)
  refine WP.nil ?_
  refine WP.next ?_
  refine WP.seq ?_
  refine WP.condF rfl ?_
  refine WP.exit ?_
  refine WP.thenE ?_
  refine WP.thenE ?_
  refine WP.hit ?_
  refine WP.next ?_
  refine WP.seq ?_
  refine WP.region [0, 1] rfl ?_
  iterate 2 refine WP.mv rfl rfl ?_
  refine WP.nil ?_
  refine WP.sub [(0, _), (2, _), (3, _), (5, _), (6, _), (7, _)] ?_ ⟨rfl, rfl, rfl, rfl, rfl, rfl, trivial⟩
  refine WP.next ?_
  refine WP.ret ?_
  refine WP.fn .ret (.inr rfl) (res1 rfl rfl) Lr (Imm.le_trans hJ hJ3) ?_
  exact ⟨by rw [hlen]; exact ⟨nv, by rw [hll]; exact hnn, hno.mono (Imv.le hJ3)⟩, by rw [hs2]; exact hq1.mono hJ3⟩

theorem txn_DecodeCommit {I : Imm} {b : List UInt8} {vb : Value} (hb : SlRd (Im I) vb b.length 1 (bytesV b)) (hl : b.length ≤ 140737488355328) : Spec Tryz.prog 34 [vb] I [] (fun v J L => L = [] ∧ ((okC b ∧ v = .tuple #[.int .i64 ((rNum 1099511627776 ⟨b, 0⟩).1 : Int), .int .i64 0]) ∨ (¬ okC b ∧ v = .tuple #[.int .i64 0, .int .i64 120]))) := by
 obtain ⟨Ab, cb, rfl, _, _, _⟩ := id hb
 refine Spec.of Tryz.func34 rfl Tryz.ntmps34 (Nat.le_of_ble_eq_true rfl) (fun F => ?_)
 try simp only [nf]
 dsimp only [argsEnv]
 refine WP.seq ?_
 refine WP.region [0, 1] rfl ?_
 iterate 2 refine WP.mv rfl rfl ?_
 refine WP.nil ?_
 refine WP.next ?_
 refine WP.seq ?_
 refine WP.region [0, 1, 2] rfl ?_
 refine WP.mv rfl rfl ?_
 refine WP.loud rfl rfl ?_
 refine Op.cl (code_NewReader hb hl) rfl Tryz.func70 rfl rfl rfl rfl ?_
 rintro v J1 L1 hJ1 ⟨q, rfl, hq⟩
 try simp only [nf]
 refine WP.mv rfl rfl ?_
 refine WP.nil ?_
 refine WP.sub [(0, _), (2, _), (3, _), (4, _)] ?_ ⟨rfl, rfl, rfl, rfl, trivial⟩
 refine WP.next ?_
 refine WP.seq ?_
 refine WP.region [0, 1, 2, 3] rfl ?_
 refine WP.mv rfl rfl ?_
 refine WP.loud rfl rfl ?_
 refine Op.cl (code_RNum (most := 1099511627776) hq) rfl Tryz.func71 rfl rfl rfl rfl ?_
 rintro v J L2 - ⟨rfl, rfl, hq⟩
 try simp only [nf]
 have hle := rNum_le 1099511627776 ⟨b, 0⟩
 refine WP.vl rfl (Yld.conv64 (a := (((rNum 1099511627776 ⟨b, 0⟩).1 : Nat) : Int)) rfl ty_un_40 ty_ik_3 rfl (by omega)) ?_
 refine WP.mv rfl rfl ?_
 refine WP.nil ?_
 refine WP.sub [(0, _), (2, _), (3, _), (4, _), (5, _)] ?_ ⟨rfl, rfl, rfl, rfl, rfl, trivial⟩
 refine WP.next ?_
 refine WP.seq ?_
 refine WP.seq ?_
 refine WP.region [0, 1, 2, 3, 4, 5, 6] rfl ?_
 refine WP.mv rfl rfl ?_
 refine WP.loud rfl rfl ?_
 refine Op.cl (code_RDone hq) rfl Tryz.func73 rfl rfl rfl rfl ?_
 rintro v J L3 - ⟨rfl, rfl, hq⟩
 try simp only [nf]
 refine WP.split rfl rfl rfl rfl (Yld.neq rfl rfl rfl) (fun hd => ?_) (fun hd => ?_)
 ·refine WP.mv rfl rfl ?_
  refine WP.passG rfl rfl rfl rfl rfl rfl rfl rfl ?_
  refine WP.passG rfl rfl rfl rfl rfl rfl rfl rfl ?_
  refine WP.vl rfl (Yld.pickT rfl rfl rfl) ?_
  refine WP.nil ?_
  refine WP.sub [(0, _), (2, _), (3, _), (4, _), (5, _), (17, _)] ?_ ⟨rfl, rfl, rfl, rfl, rfl, rfl, trivial⟩
  refine WP.next ?_
  refine WP.condT rfl ?_
  refine WP.seq ?_
  refine WP.region [0, 1] rfl ?_
  iterate 2 refine WP.mv rfl rfl ?_
  refine WP.nil ?_
  refine WP.next ?_
  refine WP.ret ?_
  refine WP.fn .ret (.inr rfl) (res2 rfl rfl rfl) [] hJ1 ?_
  exact ⟨rfl, .inr ⟨fun h => by have h1 := h.1; have h2 := h.2; first | exact hd h1 | omega, rfl⟩⟩
 ·refine WP.mv rfl rfl ?_
  refine WP.valG rfl rfl rfl rfl rfl rfl rfl (Yld.move rfl rfl) ?_
  refine WP.splitG rfl rfl rfl rfl rfl rfl rfl (Yld.lss rfl rfl rfl) (fun h1 => ?_) (fun h1 => ?_)
  ·refine WP.vl rfl (Yld.pickF rfl rfl rfl) ?_
   refine WP.nil ?_
   refine WP.sub [(0, _), (2, _), (3, _), (4, _), (5, _), (17, _)] ?_ ⟨rfl, rfl, rfl, rfl, rfl, rfl, trivial⟩
   refine WP.next ?_
   refine WP.condT rfl ?_
   refine WP.seq ?_
   refine WP.region [0, 1] rfl ?_
   iterate 2 refine WP.mv rfl rfl ?_
   refine WP.nil ?_
   refine WP.next ?_
   refine WP.ret ?_
   refine WP.fn .ret (.inr rfl) (res2 rfl rfl rfl) [] hJ1 ?_
   exact ⟨rfl, .inr ⟨fun h => by have h1 := h.1; have h2 := h.2; first | exact hd h1 | omega, rfl⟩⟩
  ·refine WP.vl rfl (Yld.pickF rfl rfl rfl) ?_
   refine WP.nil ?_
   refine WP.sub [(0, _), (2, _), (3, _), (4, _), (5, _), (17, _)] ?_ ⟨rfl, rfl, rfl, rfl, rfl, rfl, trivial⟩
   refine WP.next ?_
   refine WP.condF rfl ?_
   refine WP.skip ?_
   refine WP.next ?_
   refine WP.seq ?_
   refine WP.region [0, 1, 2] rfl ?_
   iterate 3 refine WP.mv rfl rfl ?_
   refine WP.nil ?_
   refine WP.sub [(0, _), (2, _), (3, _), (4, _), (5, _), (17, _)] ?_ ⟨rfl, rfl, rfl, rfl, rfl, rfl, trivial⟩
   refine WP.next ?_
   refine WP.ret ?_
   refine WP.fn .ret (.inr rfl) (res2 rfl rfl rfl) [] hJ1 ?_
   exact ⟨rfl, .inl ⟨⟨by simpa using hd, by omega⟩, rfl⟩⟩

theorem txn_DecodePage {I : Imm} {b : List UInt8} {vb : Value} (hb : SlRd (Im I) vb b.length 1 (bytesV b)) (hl : b.length ≤ 140737488355328) : Spec Tryz.prog 31 [vb] I [] (fun v J L => L = [] ∧ ∃ r vn, ∃ e : Int, v = .tuple #[.agg ([.int .i64 r.page, .int .i64 r.prev, vn]).toArray, .int .i64 e] ∧ RNodes J vn r.nodes ∧ ((okP b ∧ e = 0 ∧ r = (rdP b).1) ∨ (¬ okP b ∧ e = 120 ∧ r = ⟨0, 0, []⟩))) := by
 obtain ⟨Ab, cb, rfl, _, _, _⟩ := id hb
 refine Spec.of Tryz.func31 rfl Tryz.ntmps31 (Nat.le_of_ble_eq_true rfl) (fun F => ?_)
 try simp only [nf]
 dsimp only [argsEnv]
 refine WP.seq ?_
 refine WP.region [0, 1] rfl ?_
 refine WP.loud rfl rfl ?_
 refine Op.alloc rfl rfl rfl ty_zr_51 (fun b0 => ?_)
 refine WP.mv rfl rfl ?_
 refine WP.nil ?_
 refine WP.next ?_
 refine WP.seq ?_
 refine WP.region [0, 1, 2] rfl ?_
 refine WP.mv rfl rfl ?_
 refine WP.loud rfl rfl ?_
 refine Op.cl (code_NewReader hb hl) rfl Tryz.func70 rfl rfl rfl rfl ?_
 rintro v J1 L1 hJ1 ⟨q, rfl, hq⟩
 try simp only [nf]
 refine WP.mv rfl rfl ?_
 refine WP.nil ?_
 refine WP.sub [(0, _), (2, _), (3, _), (4, _)] ?_ ⟨rfl, rfl, rfl, rfl, trivial⟩
 refine WP.next ?_
 refine WP.seq ?_
 refine WP.region [0, 1, 2, 3, 4, 5, 6, 7, 8] rfl ?_
 refine WP.mv rfl rfl ?_
 refine WP.loud rfl rfl ?_
 refine Op.cl (code_RNum (most := 512) hq) rfl Tryz.func71 rfl rfl rfl rfl ?_
 rintro v J L2 - ⟨rfl, rfl, hq⟩
 try simp only [nf]
 have hle1 := rNum_le 512 ⟨b, 0⟩
 refine WP.vl rfl (Yld.conv64 (a := (((rNum 512 ⟨b, 0⟩).1 : Nat) : Int)) rfl ty_un_40 ty_ik_3 rfl (by omega)) ?_
 refine WP.mv rfl rfl ?_
 refine WP.loud rfl rfl ?_
 refine Op.cl (code_RNum (most := 1099511627776) hq) rfl Tryz.func71 rfl rfl rfl rfl ?_
 rintro v J L3 - ⟨rfl, rfl, hq⟩
 try simp only [nf]
 have hle2 := rNum_le 1099511627776 (rNum 512 ⟨b, 0⟩).2
 refine WP.vl rfl (Yld.conv64 (a := (((rNum 1099511627776 (rNum 512 ⟨b, 0⟩).2).1 : Nat) : Int)) rfl ty_un_40 ty_ik_3 rfl (by omega)) ?_
 refine WP.vl rfl (Yld.buildS (pl := [(0, 0, 1), (1, 1, 1)]) rfl ty_zr_51 ty_zd_51 (by kernel_rfl) rfl (vs := [_, _]) rfl (segs := [(0, [_]), (1, [_])]) rfl rfl (by repeat (first | exact SetSeg.nil | apply SetSeg.one | exact SetAt.zero | apply SetAt.succ))) ?_
 refine WP.loud rfl rfl ?_
 refine Op.alloc rfl rfl rfl ty_zr_51 (fun b5 => ?_)
 refine WP.loud rfl rfl ?_
 refine Op.sA rfl rfl ty_sz_51 rfl rfl rfl rfl rfl ?_
 refine WP.nil ?_
 refine WP.sub [(0, _), (2, _), (3, _), (4, _), (5, _)] ?_ ⟨rfl, rfl, rfl, rfl, rfl, trivial⟩
 refine WP.next ?_
 refine WP.seq ?_
 refine WP.region [0, 1, 2, 3] rfl ?_
 refine WP.mv rfl rfl ?_
 refine WP.loud rfl rfl ?_
 refine Op.cl (txn_takeNodes hq) rfl Tryz.func72 rfl rfl rfl rfl ?_
 rintro v J2 L4 hJ2 ⟨hrn, hq⟩
 try simp only [nf]
 obtain ⟨nv, hn, hno⟩ := id hrn.ex
 obtain ⟨An, cn, rfl, hcn⟩ := hn.slice'
 have hnl : (tkN (rNum 1099511627776 (rNum 512 ⟨b, 0⟩).2).2).1.length ≤ 64 := tkN_len _
 refine WP.vl rfl (Yld.fieldAddr rfl ty_fd_51_2 rfl) ?_
 refine WP.loud rfl rfl ?_
 refine Op.s1 rfl rfl ty_sz_41 rfl rfl rfl ?_
 refine WP.nil ?_
 refine WP.sub [(0, _), (2, _), (3, _), (4, _), (5, _)] ?_ ⟨rfl, rfl, rfl, rfl, rfl, trivial⟩
 refine WP.next ?_
 refine WP.seq ?_
 refine WP.seq ?_
 refine WP.region [0, 1, 2, 3, 4, 5, 6, 7, 8, 9, 10, 11, 12] rfl ?_
 refine WP.mv rfl rfl ?_
 refine WP.loud rfl rfl ?_
 refine Op.cl (code_RDone hq) rfl Tryz.func73 rfl rfl rfl rfl ?_
 rintro v J L5 - ⟨rfl, rfl, hq⟩
 try simp only [nf]
 refine WP.split rfl rfl rfl rfl (Yld.neq rfl rfl rfl) (fun hd => ?_) (fun hd => ?_)
 ·refine WP.mv rfl rfl ?_
  refine WP.passG rfl rfl rfl rfl rfl rfl rfl rfl ?_
  refine WP.passG rfl rfl rfl rfl rfl rfl rfl rfl ?_
  refine WP.passG rfl rfl rfl rfl rfl rfl rfl rfl ?_
  refine WP.vl rfl (Yld.pickT rfl rfl rfl) ?_
  refine WP.mv rfl rfl ?_
  refine WP.passG rfl rfl rfl rfl rfl rfl rfl rfl ?_
  refine WP.passG rfl rfl rfl rfl rfl rfl rfl rfl ?_
  refine WP.passG rfl rfl rfl rfl rfl rfl rfl rfl ?_
  refine WP.vl rfl (Yld.pickT rfl rfl rfl) ?_
  refine WP.nil ?_
  refine WP.sub [(0, _), (2, _), (3, _), (4, _), (5, _), (30, _)] ?_ ⟨rfl, rfl, rfl, rfl, rfl, rfl, trivial⟩
  refine WP.next ?_
  refine WP.condT rfl ?_
  refine WP.seq ?_
  refine WP.region [0, 1, 2] rfl ?_
  refine WP.vl rfl (Yld.buildS (pl := []) rfl ty_zr_51 ty_zd_51 (by kernel_rfl) rfl (vs := []) rfl (segs := []) rfl rfl (by repeat (first | exact SetSeg.nil | apply SetSeg.one | exact SetAt.zero | apply SetAt.succ))) ?_
  refine WP.loud rfl rfl ?_
  refine Op.sA rfl rfl ty_sz_51 rfl rfl rfl rfl rfl ?_
  refine WP.mv rfl rfl ?_
  refine WP.nil ?_
  refine WP.sub [(0, _), (2, _), (3, _), (4, _), (5, _), (30, _)] ?_ ⟨rfl, rfl, rfl, rfl, rfl, rfl, trivial⟩
  refine WP.next ?_
  refine WP.ret ?_
  refine WP.fn .ret (.inr rfl) (resT (rs := [.cell 2 51, .tmp 3]) (vs := [_, _]) rfl ⟨⟨_, _, _, _, rfl, (by repeat (first | exact There.h | exact There.i (by assumption) | apply There.t | apply There.s)), .inl ⟨ty_ag_51, by rfl, rfl⟩⟩, rfl, trivial⟩ rfl) [] (Imm.le_trans hJ1 hJ2) ?_
  exact ⟨rfl, ⟨0, 0, []⟩, _, 120, rfl, RNodes.nil _, .inr ⟨fun h => by have h1 := h.1; have h2 := h.2.1; have h3 := h.2.2; first | exact hd h1 | omega | (rw [hc.2 h3] at hc1; cases hc1), rfl, rfl⟩⟩
 ·refine WP.mv rfl rfl ?_
  refine WP.valG rfl rfl rfl rfl rfl rfl rfl (Yld.move rfl rfl) ?_
  refine WP.valG rfl rfl rfl rfl rfl rfl rfl (Yld.len rfl ty_sl_49 rfl) ?_
  refine WP.splitG rfl rfl rfl rfl rfl rfl rfl (Yld.gtr rfl rfl rfl) (fun hlong => ?_) (fun hlong => ?_)
  ·refine WP.vl rfl (Yld.pickF rfl rfl rfl) ?_
   refine WP.mv rfl rfl ?_
   refine WP.passG rfl rfl rfl rfl rfl rfl rfl rfl ?_
   refine WP.passG rfl rfl rfl rfl rfl rfl rfl rfl ?_
   refine WP.passG rfl rfl rfl rfl rfl rfl rfl rfl ?_
   refine WP.vl rfl (Yld.pickT rfl rfl rfl) ?_
   refine WP.nil ?_
   refine WP.sub [(0, _), (2, _), (3, _), (4, _), (5, _), (30, _)] ?_ ⟨rfl, rfl, rfl, rfl, rfl, rfl, trivial⟩
   refine WP.next ?_
   refine WP.condT rfl ?_
   refine WP.seq ?_
   refine WP.region [0, 1, 2] rfl ?_
   refine WP.vl rfl (Yld.buildS (pl := []) rfl ty_zr_51 ty_zd_51 (by kernel_rfl) rfl (vs := []) rfl (segs := []) rfl rfl (by repeat (first | exact SetSeg.nil | apply SetSeg.one | exact SetAt.zero | apply SetAt.succ))) ?_
   refine WP.loud rfl rfl ?_
   refine Op.sA rfl rfl ty_sz_51 rfl rfl rfl rfl rfl ?_
   refine WP.mv rfl rfl ?_
   refine WP.nil ?_
   refine WP.sub [(0, _), (2, _), (3, _), (4, _), (5, _), (30, _)] ?_ ⟨rfl, rfl, rfl, rfl, rfl, rfl, trivial⟩
   refine WP.next ?_
   refine WP.ret ?_
   refine WP.fn .ret (.inr rfl) (resT (rs := [.cell 2 51, .tmp 3]) (vs := [_, _]) rfl ⟨⟨_, _, _, _, rfl, (by repeat (first | exact There.h | exact There.i (by assumption) | apply There.t | apply There.s)), .inl ⟨ty_ag_51, by rfl, rfl⟩⟩, rfl, trivial⟩ rfl) [] (Imm.le_trans hJ1 hJ2) ?_
   exact ⟨rfl, ⟨0, 0, []⟩, _, 120, rfl, RNodes.nil _, .inr ⟨fun h => by have h1 := h.1; have h2 := h.2.1; have h3 := h.2.2; first | exact hd h1 | omega | (rw [hc.2 h3] at hc1; cases hc1), rfl, rfl⟩⟩
  ·refine WP.vl rfl (Yld.pickF rfl rfl rfl) ?_
   refine WP.mv rfl rfl ?_
   refine WP.valG rfl rfl rfl rfl rfl rfl rfl (Yld.ldg (vs := [.int .i64 ((rNum 512 ⟨b, 0⟩).1 : Int), .int .i64 ((rNum 1099511627776 (rNum 512 ⟨b, 0⟩).2).1 : Int), (.slice An (tkN (rNum 1099511627776 (rNum 512 ⟨b, 0⟩).2).2).1.length cn)]) rfl ty_ag_51 rfl rfl rfl) ?_
   refine WP.loudG rfl rfl rfl rfl rfl ?_
   refine Op.cl (txn_may (r := (rdP b).1) hrn (by show (tkN (rNum 1099511627776 (rNum 512 ⟨b, 0⟩).2).2).1.length ≤ _; omega)) rfl Tryz.func58 rfl rfl rfl rfl ?_
   rintro v J L1 - ⟨c, rfl, hc, rfl, rfl⟩
   try simp only [nf]
   by_cases hc1 : c = true
   ·rw [hc1]
    refine WP.valG rfl rfl rfl rfl rfl rfl rfl (Yld.not rfl rfl) ?_
    refine WP.vl rfl (Yld.pickF rfl rfl rfl) ?_
    refine WP.nil ?_
    refine WP.sub [(0, _), (2, _), (3, _), (4, _), (5, _), (30, _)] ?_ ⟨rfl, rfl, rfl, rfl, rfl, rfl, trivial⟩
    refine WP.next ?_
    refine WP.condF rfl ?_
    refine WP.skip ?_
    refine WP.next ?_
    refine WP.seq ?_
    refine WP.region [0, 1, 2] rfl ?_
    refine WP.vl rfl (Yld.ldg (vs := [.int .i64 ((rNum 512 ⟨b, 0⟩).1 : Int), .int .i64 ((rNum 1099511627776 (rNum 512 ⟨b, 0⟩).2).1 : Int), (.slice An (tkN (rNum 1099511627776 (rNum 512 ⟨b, 0⟩).2).2).1.length cn)]) rfl ty_ag_51 rfl rfl rfl) ?_
    refine WP.loud rfl rfl ?_
    refine Op.sA rfl rfl ty_sz_51 rfl rfl rfl rfl rfl ?_
    refine WP.mv rfl rfl ?_
    refine WP.nil ?_
    refine WP.sub [(0, _), (2, _), (3, _), (4, _), (5, _), (30, _)] ?_ ⟨rfl, rfl, rfl, rfl, rfl, rfl, trivial⟩
    refine WP.next ?_
    refine WP.ret ?_
    refine WP.fn .ret (.inr rfl) (resT (rs := [.cell 2 51, .tmp 3]) (vs := [_, _]) rfl ⟨⟨_, _, _, _, rfl, (by repeat (first | exact There.h | exact There.i (by assumption) | apply There.t | apply There.s)), .inl ⟨ty_ag_51, by rfl, rfl⟩⟩, rfl, trivial⟩ rfl) [] (Imm.le_trans hJ1 hJ2) ?_
    exact ⟨rfl, (rdP b).1, _, 0, rfl, hrn, .inl ⟨⟨Decidable.not_not.1 hd, by omega, hc.1 hc1⟩, rfl, rfl⟩⟩
   ·have hc1 : c = false := eq_false_of_ne_true hc1
    rw [hc1]
    refine WP.valG rfl rfl rfl rfl rfl rfl rfl (Yld.not rfl rfl) ?_
    refine WP.vl rfl (Yld.pickF rfl rfl rfl) ?_
    refine WP.nil ?_
    refine WP.sub [(0, _), (2, _), (3, _), (4, _), (5, _), (30, _)] ?_ ⟨rfl, rfl, rfl, rfl, rfl, rfl, trivial⟩
    refine WP.next ?_
    refine WP.condT rfl ?_
    refine WP.seq ?_
    refine WP.region [0, 1, 2] rfl ?_
    refine WP.vl rfl (Yld.buildS (pl := []) rfl ty_zr_51 ty_zd_51 (by kernel_rfl) rfl (vs := []) rfl (segs := []) rfl rfl (by repeat (first | exact SetSeg.nil | apply SetSeg.one | exact SetAt.zero | apply SetAt.succ))) ?_
    refine WP.loud rfl rfl ?_
    refine Op.sA rfl rfl ty_sz_51 rfl rfl rfl rfl rfl ?_
    refine WP.mv rfl rfl ?_
    refine WP.nil ?_
    refine WP.sub [(0, _), (2, _), (3, _), (4, _), (5, _), (30, _)] ?_ ⟨rfl, rfl, rfl, rfl, rfl, rfl, trivial⟩
    refine WP.next ?_
    refine WP.ret ?_
    refine WP.fn .ret (.inr rfl) (resT (rs := [.cell 2 51, .tmp 3]) (vs := [_, _]) rfl ⟨⟨_, _, _, _, rfl, (by repeat (first | exact There.h | exact There.i (by assumption) | apply There.t | apply There.s)), .inl ⟨ty_ag_51, by rfl, rfl⟩⟩, rfl, trivial⟩ rfl) [] (Imm.le_trans hJ1 hJ2) ?_
    exact ⟨rfl, ⟨0, 0, []⟩, _, 120, rfl, RNodes.nil _, .inr ⟨fun h => by have h1 := h.1; have h2 := h.2.1; have h3 := h.2.2; first | exact hd h1 | omega | (rw [hc.2 h3] at hc1; cases hc1), rfl, rfl⟩⟩


end Go.Hp
