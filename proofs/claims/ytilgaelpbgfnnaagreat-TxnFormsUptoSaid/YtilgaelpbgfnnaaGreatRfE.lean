import Derived.Test.YtilgaelpbgfnnaaGreatRfD
import Derived.Test.YtilgaelpbgfnnaaGreatRdF
set_option linter.unusedVariables false
set_option linter.unusedSimpArgs false
namespace Go.Hp
open Go Go.Proofs

/-- What an Encode answers. -/
def EncR (m : Prop) (b xs : List UInt8) (e : Int) : Prop := (m ∧ b.length ≤ 12671 ∧ e = 0 ∧ xs = b) ∨ (m ∧ 12671 < b.length ∧ e = 2 ∧ xs = []) ∨ (¬ m ∧ e = 120 ∧ xs = [])
theorem EncR.eq {m : Prop} {b xs ys : List UInt8} {e f : Int} (h : EncR m b xs e) (k : EncR m b ys f) : xs = ys ∧ e = f := by
 rcases h with ⟨h1, h2, rfl, rfl⟩ | ⟨h1, h2, rfl, rfl⟩ | ⟨h1, rfl, rfl⟩ <;> rcases k with ⟨k1, k2, rfl, rfl⟩ | ⟨k1, k2, rfl, rfl⟩ | ⟨k1, rfl, rfl⟩ <;> first | exact ⟨rfl, rfl⟩ | exact absurd k1 h1 | exact absurd h1 k1 | omega
structure NoX where
 i : Nat
 v : Value
 L : Chunks
theorem ref12_nodes {I : Imm} {bs : List UInt8} {v : Value} {Lv : Chunks} (ho : Own 5 1 v (bytesV bs) bs.length Lv) {vn : Value} {l : List (Bool × List UInt8)} (hv : RNodes I vn l) (hln : l.length ≤ 140737488351232) (hb : bs.length + ((numB l.length).length + (l.flatMap nodeB).length) ≤ 140737488355328) : Spec Tryz.prog 66 [v, vn] I Lv (fun r J L' => I = J ∧ Own 5 1 r (bytesV (bs ++ nodesB l)) (bs ++ nodesB l).length L') := by
 obtain ⟨nv, hn, hno⟩ := hv.ex
 obtain ⟨An, cn, rfl, hcn⟩ := hn.slice'
 obtain ⟨Av, cv, rfl, _⟩ := ho.slice
 refine Spec.of Tryz.func66 rfl Tryz.ntmps66 (Nat.le_of_ble_eq_true rfl) (fun F => ?_)
 try simp only [nf]
 dsimp only [argsEnv]
 refine WP.seq ?_; refine WP.region [0] rfl ?_; refine WP.mv rfl rfl ?_; refine WP.nil ?_; refine WP.next ?_; refine WP.seq ?_; refine WP.region [0, 1, 2, 3, 4] rfl ?_; refine WP.mv rfl rfl ?_; refine WP.vl rfl (Yld.len rfl ty_sl_41 rfl) ?_; refine WP.vl rfl (Yld.conv64u l.length rfl ty_un_3 ty_ik_40 rfl (by omega)) ?_; refine WP.loud rfl rfl ?_; refine Op.cl (ref1_Form (n := l.length) (by omega)) rfl Tryz.func64 rfl rfl rfl rfl ?_; rintro v J Lf - ⟨rfl, hf0⟩
 try simp only [nf]
 obtain ⟨Af, cf, rfl, _⟩ := hf0.slice
 refine WP.mv rfl rfl ?_; refine WP.nil ?_; refine WP.sub [(0, _), (1, _), (4, _), (5, _)] ?_ ⟨rfl, rfl, rfl, rfl, trivial⟩
 refine WP.next ?_; refine WP.seq ?_; refine WP.region [0, 1, 2, 3] rfl ?_; iterate 2 refine WP.mv rfl rfl ?_
 refine WP.loud rfl rfl ?_; refine Op.append (m := (numB l.length).length) rfl ty_sl_49 ty_el_49 rfl rfl rfl rfl rfl ho (hf0.rd (by intro p hp; simp [hp])) (by repeat (first | exact Take.nil | with_reducible apply Take.cons | apply Take.app | exact Rm.chunk | exact Rm.here | exact Rm.nil0 | apply Rm.skip | apply Rm.skipS | (focus (apply Take.all; (repeat (first | exact Rm.chunk | exact Rm.here | exact Rm.nil0 | apply Rm.skip | apply Rm.skipS)); done)) | apply Take.cons)) (bytesV_one _) (by omega) (by omega) (fun v2 L2 ho2 => ?_)
 try simp only [nf]
 rw [← bytesV_app, ← List.length_append] at ho2
 obtain ⟨Av2, cv2, rfl, _⟩ := ho2.slice
 refine WP.mv rfl rfl ?_; refine WP.nil ?_; refine WP.sub [(0, _), (1, _), (4, _), (5, _)] ?_ ⟨rfl, rfl, rfl, rfl, trivial⟩
 refine WP.next ?_; iterate 2 refine WP.seq ?_
 refine WP.region [0] rfl ?_; refine WP.mv rfl rfl ?_; refine WP.nil ?_; refine WP.next ?_; refine WP.block ?_; refine WP.loop (X := NoX) (fun u : NoX => [(0, u.v), (1, .slice An l.length cn), (6, .int .i64 (u.i : Int))]) (fun _ => I) (fun u : NoX => u.L ++ F) (fun u : NoX => u.i ≤ l.length ∧ Own 5 1 u.v (bytesV (bs ++ (numB l.length ++ (l.take u.i).flatMap nodeB))) (bs ++ (numB l.length ++ (l.take u.i).flatMap nodeB)).length u.L) (fun u => l.length - u.i) ⟨0, _, L2⟩ ⟨Nat.zero_le _, by simpa using ho2⟩ ⟨rfl, rfl, rfl, trivial⟩ rfl (by (try simp only [List.append_eq, List.cons_append, List.nil_append, List.append_assoc]); repeat (first | exact Rm.chunk | exact Rm.here | exact Rm.nil0 | apply Rm.skip | apply Rm.skipS | apply PX.cons | (apply PX.done; (repeat (first | exact Leave.done | apply Leave.drop | apply Leave.dropS)); done) | apply PX.app)) ?_; rintro ⟨i, vo, Lo⟩ ⟨hle, ho3⟩; dsimp only at hle ho3; obtain ⟨Ao, co, rfl, _⟩ := ho3.slice
 try dsimp only
 try simp only [nf]
 iterate 2 refine WP.seq ?_
 refine WP.region [0, 1, 2, 3] rfl ?_; iterate 2 refine WP.mv rfl rfl ?_
 refine WP.vl rfl (Yld.len rfl ty_sl_41 rfl) ?_; refine WP.split rfl rfl rfl rfl (Yld.lss rfl rfl rfl) (fun hlt => ?_) (fun hlt => ?_)
 ·have hni : i < l.length := by omega
  have hin : i < nv.length := by rw [hno.len]; exact hni
  obtain ⟨d, hd1, hd2⟩ := hno.at_ i _ (List.getElem?_eq_getElem hin)
  obtain ⟨bn, kn, Tn, frn, arn, rfl, hbn, hseg, _⟩ := hn.elem hni
  have hf := flat_seg ndV_len hin []
  rw [List.append_nil, Nat.zero_add] at hf
  rw [hf] at hseg
  obtain ⟨hc1, hc2⟩ := nd_cells hseg
  have hle1 : l[i] = (nv[i].1, d) := by rw [List.getElem?_eq_getElem hni] at hd1; exact Option.some.inj hd1
  have hpre := flat_pre nodeB hni
  have hnb : (nodeB l[i]).length = (numB (if nv[i].1 then 1 else 0)).length + ((numB d.length).length + d.length) := by rw [hle1]; unfold nodeB; rw [List.length_append, List.length_append]
  have hb1n : (numB (if nv[i].1 then 1 else 0)).length = 1 := by rw [numB_lo (by split <;> decide)]; rfl
  have hbl : (bs ++ (numB l.length ++ (l.take i).flatMap nodeB)).length = bs.length + ((numB l.length).length + ((l.take i).flatMap nodeB).length) := by rw [List.length_append, List.length_append]
  refine WP.nil ?_; refine WP.sub [(0, _), (1, _), (6, _), (19, _)] ?_ ⟨rfl, rfl, rfl, rfl, trivial⟩
  refine WP.next ?_; refine WP.condT rfl ?_; refine WP.skip ?_; refine WP.next ?_; refine WP.seq ?_; refine WP.block ?_; refine WP.seq ?_; refine WP.region [0] rfl ?_; refine WP.mv rfl rfl ?_; refine WP.nil ?_; refine WP.next ?_; iterate 2 refine WP.seq ?_
  refine WP.region [0, 1, 2, 3, 4] rfl ?_; iterate 2 refine WP.mv rfl rfl ?_
  refine WP.vl rfl (Yld.indexAddr (i := i) rfl ty_sl_41 rfl rfl hni) ?_; refine WP.vl rfl (Yld.fieldAddr rfl ty_fd_63_0 rfl) ?_; refine WP.splitB rfl rfl rfl rfl (Yld.loadC (v := .bool nv[i].1) rfl ty_sc_4 rfl (There.i hbn) hc1) (fun hb => ?_) (fun hb => ?_)
  ·refine WP.nil ?_
   refine WP.sub [(0, _), (1, _), (6, _), (7, _), (19, _), (26, _)] ?_ ⟨rfl, rfl, rfl, rfl, rfl, rfl, trivial⟩
   refine WP.next ?_; refine WP.condT rfl ?_; refine WP.region [0] rfl ?_; refine WP.mv rfl rfl ?_; refine WP.nil ?_; refine WP.next ?_; refine WP.seq ?_; refine WP.region [0, 1, 2, 3, 4, 5, 6, 7, 8] rfl ?_; iterate 2 refine WP.mv rfl rfl ?_
   refine WP.vl rfl (Yld.indexAddr (i := i) rfl ty_sl_41 rfl rfl hni) ?_; refine WP.vl rfl (Yld.fieldAddr rfl ty_fd_63_1 rfl) ?_; refine WP.vl rfl (Yld.loadC (v := nv[i].2) rfl ty_sc_49 rfl (There.i hbn) hc2) ?_; refine WP.vl rfl (Yld.lenR hd2 rfl ty_sl_49 rfl) ?_; refine WP.vl rfl (Yld.conv64u d.length rfl ty_un_3 ty_ik_40 rfl (by omega)) ?_; refine WP.loud rfl rfl ?_; refine Op.cl (ref1_Form (n := d.length) (by omega)) rfl Tryz.func64 rfl rfl rfl rfl ?_; rintro v J Lf1 - ⟨rfl, hf1⟩
   try simp only [nf]
   obtain ⟨Ag, cg, rfl, _⟩ := hf1.slice
   refine WP.mv rfl rfl ?_; refine WP.nil ?_; refine WP.sub [(0, _), (1, _), (6, _), (7, _), (8, _), (19, _), (26, _)] ?_ ⟨rfl, rfl, rfl, rfl, rfl, rfl, rfl, trivial⟩
   refine WP.next ?_; refine WP.seq ?_; refine WP.region [0, 1, 2, 3, 4] rfl ?_; iterate 2 refine WP.mv rfl rfl ?_
   refine WP.loud rfl rfl ?_; refine Op.buildSlice rfl ty_sl_49 ty_el2_49 rfl rfl rfl rfl (vs := [_]) rfl (segs := [(0, [_])]) (cs := bytesV [1]) rfl rfl (by repeat (first | exact SetSeg.nil | apply SetSeg.one | exact SetAt.zero | apply SetAt.succ)) (fun bq => ?_)
   refine WP.loud rfl rfl ?_; refine Op.append (m := 1) rfl ty_sl_49 ty_el_49 rfl rfl rfl rfl rfl ho3 (SlRd.lit (m := 1) (by repeat (first | exact There.h | exact There.i (by assumption) | apply There.t | apply There.s)) rfl (Nat.le_refl _)) (by repeat (first | exact Take.nil | with_reducible apply Take.cons | apply Take.app | exact Rm.chunk | exact Rm.here | exact Rm.nil0 | apply Rm.skip | apply Rm.skipS | (focus (apply Take.all; (repeat (first | exact Rm.chunk | exact Rm.here | exact Rm.nil0 | apply Rm.skip | apply Rm.skipS)); done)) | apply Take.cons)) (bytesV_one _) (by omega) (by omega) (fun v4 L4 ho4 => ?_)
   try simp only [nf]
   obtain ⟨Av4, cv4, rfl, _⟩ := ho4.slice
   have hlb : ((bs ++ (numB l.length ++ (l.take i).flatMap nodeB)) ++ [1]).length = (bs ++ (numB l.length ++ (l.take i).flatMap nodeB)).length + 1 := List.length_append
   replace ho4 : Own 5 1 (.slice Av4 ((bs ++ (numB l.length ++ (l.take i).flatMap nodeB)).length + 1) cv4) (bytesV ((bs ++ (numB l.length ++ (l.take i).flatMap nodeB)) ++ [1])) ((bs ++ (numB l.length ++ (l.take i).flatMap nodeB)) ++ [1]).length L4 := by rw [hlb, bytesV_app]; exact ho4
   refine WP.mv rfl rfl ?_; refine WP.nil ?_; refine WP.sub [(0, _), (1, _), (6, _), (7, _), (8, _), (19, _), (26, _)] ?_ ⟨rfl, rfl, rfl, rfl, rfl, rfl, rfl, trivial⟩
   refine WP.next ?_; refine WP.seq ?_; refine WP.region [0, 1, 2, 3] rfl ?_; iterate 2 refine WP.mv rfl rfl ?_
   refine WP.loud rfl rfl ?_; refine Op.append (m := (numB d.length).length) rfl ty_sl_49 ty_el_49 rfl rfl rfl rfl rfl ho4 (hf1.rd (by intro p hp; simp [hp])) (by repeat (first | exact Take.nil | with_reducible apply Take.cons | apply Take.app | exact Rm.chunk | exact Rm.here | exact Rm.nil0 | apply Rm.skip | apply Rm.skipS | (focus (apply Take.all; (repeat (first | exact Rm.chunk | exact Rm.here | exact Rm.nil0 | apply Rm.skip | apply Rm.skipS)); done)) | apply Take.cons)) (bytesV_one _) (by omega) (by omega) (fun v5 L5 ho5 => ?_)
   try simp only [nf]
   rw [← bytesV_app, ← List.length_append] at ho5
   obtain ⟨Av5, cv5, rfl, _⟩ := ho5.slice
   refine WP.mv rfl rfl ?_; refine WP.nil ?_; refine WP.sub [(0, _), (1, _), (6, _), (7, _), (8, _), (19, _), (26, _)] ?_ ⟨rfl, rfl, rfl, rfl, rfl, rfl, rfl, trivial⟩
   refine WP.next ?_; refine WP.region [0, 1, 2, 3, 4, 5, 6, 7] rfl ?_; iterate 3 refine WP.mv rfl rfl ?_
   refine WP.vl rfl (Yld.indexAddr (i := i) rfl ty_sl_41 rfl rfl hni) ?_; refine WP.vl rfl (Yld.fieldAddr rfl ty_fd_63_1 rfl) ?_; refine WP.vl rfl (Yld.loadC (v := nv[i].2) rfl ty_sc_49 rfl (There.i hbn) hc2) ?_; refine WP.loud rfl rfl ?_; have hl5 : ((bs ++ (numB l.length ++ (l.take i).flatMap nodeB)) ++ [1] ++ numB d.length).length = ((bs ++ (numB l.length ++ (l.take i).flatMap nodeB)) ++ [1]).length + (numB d.length).length := List.length_append
   refine Op.append (m := d.length) rfl ty_sl_49 ty_el_49 rfl rfl rfl rfl rfl ho5 (hd2.mono (fun b o h => .inr h)) (by repeat (first | exact Take.nil | with_reducible apply Take.cons | apply Take.app | exact Rm.chunk | exact Rm.here | exact Rm.nil0 | apply Rm.skip | apply Rm.skipS | (focus (apply Take.all; (repeat (first | exact Rm.chunk | exact Rm.here | exact Rm.nil0 | apply Rm.skip | apply Rm.skipS)); done)) | apply Take.cons)) (bytesV_one _) (by omega) (by omega) (fun v6 L6 ho6 => ?_)
   try simp only [nf]
   rw [← bytesV_app, ← List.length_append] at ho6
   obtain ⟨Av6, cv6, rfl, _⟩ := ho6.slice
   refine WP.mv rfl rfl ?_; refine WP.nil ?_; refine WP.sub [(0, _), (1, _), (6, _), (7, _), (8, _), (19, _), (26, _)] ?_ ⟨rfl, rfl, rfl, rfl, rfl, rfl, rfl, trivial⟩
   refine WP.leave ?_; refine WP.next ?_; refine WP.region [0, 1, 2] rfl ?_; refine WP.mv rfl rfl ?_; refine WP.vl rfl (Yld.add64 rfl rfl rfl (by omega)) ?_; refine WP.mv rfl rfl ?_; refine WP.nil ?_; refine WP.sub [(0, _), (1, _), (6, _), (7, _), (8, _), (19, _), (26, _)] ?_ ⟨rfl, rfl, rfl, rfl, rfl, rfl, rfl, trivial⟩
   exact WP.again ⟨i + 1, _, L6⟩ ⟨hni, by dsimp only; rw [show (bs ++ (numB l.length ++ (l.take (i + 1)).flatMap nodeB)) = (bs ++ (numB l.length ++ (l.take i).flatMap nodeB)) ++ [1] ++ numB d.length ++ d by rw [flat_succ nodeB hni, hle1]; unfold nodeB; dsimp only; rw [hb, show numB (if true = true then 1 else 0) = [1] from numB_lo (by decide)]; simp]; exact ho6⟩ (show l.length - (i + 1) < l.length - i by omega) ⟨rfl, rfl, rfl, trivial⟩ rfl (by (try simp only [List.append_eq, List.cons_append, List.nil_append, List.append_assoc]); repeat (first | exact Rm.chunk | exact Rm.here | exact Rm.nil0 | apply Rm.skip | apply Rm.skipS | apply PX.cons | (apply PX.done; (repeat (first | exact Leave.done | apply Leave.drop | apply Leave.dropS)); done) | apply PX.app))
  ·refine WP.nil ?_
   refine WP.sub [(0, _), (1, _), (6, _), (7, _), (19, _), (26, _)] ?_ ⟨rfl, rfl, rfl, rfl, rfl, rfl, trivial⟩
   refine WP.next ?_; refine WP.condF rfl ?_; refine WP.skip ?_; refine WP.next ?_; refine WP.seq ?_; refine WP.region [0, 1, 2, 3, 4, 5, 6, 7, 8] rfl ?_; iterate 2 refine WP.mv rfl rfl ?_
   refine WP.vl rfl (Yld.indexAddr (i := i) rfl ty_sl_41 rfl rfl hni) ?_; refine WP.vl rfl (Yld.fieldAddr rfl ty_fd_63_1 rfl) ?_; refine WP.vl rfl (Yld.loadC (v := nv[i].2) rfl ty_sc_49 rfl (There.i hbn) hc2) ?_; refine WP.vl rfl (Yld.lenR hd2 rfl ty_sl_49 rfl) ?_; refine WP.vl rfl (Yld.conv64u d.length rfl ty_un_3 ty_ik_40 rfl (by omega)) ?_; refine WP.loud rfl rfl ?_; refine Op.cl (ref1_Form (n := d.length) (by omega)) rfl Tryz.func64 rfl rfl rfl rfl ?_; rintro v J Lf1 - ⟨rfl, hf1⟩
   try simp only [nf]
   obtain ⟨Ag, cg, rfl, _⟩ := hf1.slice
   refine WP.mv rfl rfl ?_; refine WP.nil ?_; refine WP.sub [(0, _), (1, _), (6, _), (7, _), (8, _), (19, _), (26, _)] ?_ ⟨rfl, rfl, rfl, rfl, rfl, rfl, rfl, trivial⟩
   refine WP.next ?_; refine WP.seq ?_; refine WP.region [0, 1, 2, 3, 4] rfl ?_; iterate 2 refine WP.mv rfl rfl ?_
   refine WP.loud rfl rfl ?_; refine Op.buildSlice rfl ty_sl_49 ty_el2_49 rfl rfl rfl rfl (vs := [_]) rfl (segs := [(0, [_])]) (cs := bytesV [0]) rfl rfl (by repeat (first | exact SetSeg.nil | apply SetSeg.one | exact SetAt.zero | apply SetAt.succ)) (fun bq => ?_)
   refine WP.loud rfl rfl ?_; refine Op.append (m := 1) rfl ty_sl_49 ty_el_49 rfl rfl rfl rfl rfl ho3 (SlRd.lit (m := 1) (by repeat (first | exact There.h | exact There.i (by assumption) | apply There.t | apply There.s)) rfl (Nat.le_refl _)) (by repeat (first | exact Take.nil | with_reducible apply Take.cons | apply Take.app | exact Rm.chunk | exact Rm.here | exact Rm.nil0 | apply Rm.skip | apply Rm.skipS | (focus (apply Take.all; (repeat (first | exact Rm.chunk | exact Rm.here | exact Rm.nil0 | apply Rm.skip | apply Rm.skipS)); done)) | apply Take.cons)) (bytesV_one _) (by omega) (by omega) (fun v4 L4 ho4 => ?_)
   try simp only [nf]
   obtain ⟨Av4, cv4, rfl, _⟩ := ho4.slice
   have hlb : ((bs ++ (numB l.length ++ (l.take i).flatMap nodeB)) ++ [0]).length = (bs ++ (numB l.length ++ (l.take i).flatMap nodeB)).length + 1 := List.length_append
   replace ho4 : Own 5 1 (.slice Av4 ((bs ++ (numB l.length ++ (l.take i).flatMap nodeB)).length + 1) cv4) (bytesV ((bs ++ (numB l.length ++ (l.take i).flatMap nodeB)) ++ [0])) ((bs ++ (numB l.length ++ (l.take i).flatMap nodeB)) ++ [0]).length L4 := by rw [hlb, bytesV_app]; exact ho4
   refine WP.mv rfl rfl ?_; refine WP.nil ?_; refine WP.sub [(0, _), (1, _), (6, _), (7, _), (8, _), (19, _), (26, _)] ?_ ⟨rfl, rfl, rfl, rfl, rfl, rfl, rfl, trivial⟩
   refine WP.next ?_; refine WP.seq ?_; refine WP.region [0, 1, 2, 3] rfl ?_; iterate 2 refine WP.mv rfl rfl ?_
   refine WP.loud rfl rfl ?_; refine Op.append (m := (numB d.length).length) rfl ty_sl_49 ty_el_49 rfl rfl rfl rfl rfl ho4 (hf1.rd (by intro p hp; simp [hp])) (by repeat (first | exact Take.nil | with_reducible apply Take.cons | apply Take.app | exact Rm.chunk | exact Rm.here | exact Rm.nil0 | apply Rm.skip | apply Rm.skipS | (focus (apply Take.all; (repeat (first | exact Rm.chunk | exact Rm.here | exact Rm.nil0 | apply Rm.skip | apply Rm.skipS)); done)) | apply Take.cons)) (bytesV_one _) (by omega) (by omega) (fun v5 L5 ho5 => ?_)
   try simp only [nf]
   rw [← bytesV_app, ← List.length_append] at ho5
   obtain ⟨Av5, cv5, rfl, _⟩ := ho5.slice
   refine WP.mv rfl rfl ?_; refine WP.nil ?_; refine WP.sub [(0, _), (1, _), (6, _), (7, _), (8, _), (19, _), (26, _)] ?_ ⟨rfl, rfl, rfl, rfl, rfl, rfl, rfl, trivial⟩
   refine WP.next ?_; refine WP.region [0, 1, 2, 3, 4, 5, 6, 7] rfl ?_; iterate 3 refine WP.mv rfl rfl ?_
   refine WP.vl rfl (Yld.indexAddr (i := i) rfl ty_sl_41 rfl rfl hni) ?_; refine WP.vl rfl (Yld.fieldAddr rfl ty_fd_63_1 rfl) ?_; refine WP.vl rfl (Yld.loadC (v := nv[i].2) rfl ty_sc_49 rfl (There.i hbn) hc2) ?_; refine WP.loud rfl rfl ?_; have hl5 : ((bs ++ (numB l.length ++ (l.take i).flatMap nodeB)) ++ [0] ++ numB d.length).length = ((bs ++ (numB l.length ++ (l.take i).flatMap nodeB)) ++ [0]).length + (numB d.length).length := List.length_append
   refine Op.append (m := d.length) rfl ty_sl_49 ty_el_49 rfl rfl rfl rfl rfl ho5 (hd2.mono (fun b o h => .inr h)) (by repeat (first | exact Take.nil | with_reducible apply Take.cons | apply Take.app | exact Rm.chunk | exact Rm.here | exact Rm.nil0 | apply Rm.skip | apply Rm.skipS | (focus (apply Take.all; (repeat (first | exact Rm.chunk | exact Rm.here | exact Rm.nil0 | apply Rm.skip | apply Rm.skipS)); done)) | apply Take.cons)) (bytesV_one _) (by omega) (by omega) (fun v6 L6 ho6 => ?_)
   try simp only [nf]
   rw [← bytesV_app, ← List.length_append] at ho6
   obtain ⟨Av6, cv6, rfl, _⟩ := ho6.slice
   refine WP.mv rfl rfl ?_; refine WP.nil ?_; refine WP.sub [(0, _), (1, _), (6, _), (7, _), (8, _), (19, _), (26, _)] ?_ ⟨rfl, rfl, rfl, rfl, rfl, rfl, rfl, trivial⟩
   refine WP.leave ?_; refine WP.next ?_; refine WP.region [0, 1, 2] rfl ?_; refine WP.mv rfl rfl ?_; refine WP.vl rfl (Yld.add64 rfl rfl rfl (by omega)) ?_; refine WP.mv rfl rfl ?_; refine WP.nil ?_; refine WP.sub [(0, _), (1, _), (6, _), (7, _), (8, _), (19, _), (26, _)] ?_ ⟨rfl, rfl, rfl, rfl, rfl, rfl, rfl, trivial⟩
   exact WP.again ⟨i + 1, _, L6⟩ ⟨hni, by dsimp only; rw [show (bs ++ (numB l.length ++ (l.take (i + 1)).flatMap nodeB)) = (bs ++ (numB l.length ++ (l.take i).flatMap nodeB)) ++ [0] ++ numB d.length ++ d by rw [flat_succ nodeB hni, hle1]; unfold nodeB; dsimp only; rw [hb, show numB (if false = true then 1 else 0) = [0] from numB_lo (by decide)]; simp]; exact ho6⟩ (show l.length - (i + 1) < l.length - i by omega) ⟨rfl, rfl, rfl, trivial⟩ rfl (by (try simp only [List.append_eq, List.cons_append, List.nil_append, List.append_assoc]); repeat (first | exact Rm.chunk | exact Rm.here | exact Rm.nil0 | apply Rm.skip | apply Rm.skipS | apply PX.cons | (apply PX.done; (repeat (first | exact Leave.done | apply Leave.drop | apply Leave.dropS)); done) | apply PX.app))
 ·refine WP.nil ?_
  refine WP.sub [(0, _), (1, _), (6, _), (19, _)] ?_ ⟨rfl, rfl, rfl, rfl, trivial⟩
  refine WP.next ?_; refine WP.condF rfl ?_; refine WP.exit ?_; iterate 2 refine WP.thenE ?_
  refine WP.hit ?_; refine WP.next ?_; refine WP.seq ?_; refine WP.region [0, 1] rfl ?_; iterate 2 refine WP.mv rfl rfl ?_
  refine WP.nil ?_; refine WP.sub [(0, _), (1, _), (4, _), (6, _), (19, _)] ?_ ⟨rfl, rfl, rfl, rfl, rfl, trivial⟩
  refine WP.next ?_; refine WP.ret ?_; refine WP.fn .ret (.inr rfl) (res1 rfl rfl) Lo (Imm.le_refl _) ?_; obtain rfl : i = l.length := by omega
  rw [List.take_length] at ho3 ⊢
  exact ⟨rfl, ho3⟩

theorem ref12_whole {I : Imm} {bs : List UInt8} {v : Value} {Lv : Chunks} (ho : Own 5 1 v (bytesV bs) bs.length Lv) : Spec Tryz.prog 65 [v] I Lv (fun r J L' => I = J ∧ ((12671 < bs.length ∧ r = .tuple #[.slice none 0 0, .int .i64 2] ∧ L' = []) ∨ (bs.length ≤ 12671 ∧ ∃ vb, r = .tuple #[vb, .int .i64 0] ∧ Own 5 1 vb (bytesV bs) bs.length L'))) := by
 obtain ⟨Av, cv, rfl, _⟩ := ho.slice
 refine Spec.of Tryz.func65 rfl Tryz.ntmps65 (Nat.le_of_ble_eq_true rfl) (fun F => ?_)
 try simp only [nf]
 dsimp only [argsEnv]
 refine WP.seq ?_; refine WP.region [0, 1] rfl ?_; iterate 2 refine WP.mv rfl rfl ?_
 refine WP.nil ?_; refine WP.next ?_; iterate 2 refine WP.seq ?_
 refine WP.region [0, 1, 2] rfl ?_; refine WP.mv rfl rfl ?_; refine WP.vl rfl (Yld.len rfl ty_sl_49 rfl) ?_; refine WP.split rfl rfl rfl rfl (Yld.gtr rfl rfl rfl) (fun h1 => ?_) (fun h1 => ?_)
 ·refine WP.nil ?_
  refine WP.sub [(0, _), (2, _), (3, _), (6, _)] ?_ ⟨rfl, rfl, rfl, rfl, trivial⟩
  refine WP.next ?_; refine WP.condT rfl ?_; refine WP.seq ?_; refine WP.region [0, 1] rfl ?_; iterate 2 refine WP.mv rfl rfl ?_
  refine WP.nil ?_; refine WP.next ?_; refine WP.ret ?_; refine WP.fn .ret (.inr rfl) (res2 rfl rfl rfl) [] (Imm.le_refl _) ?_; exact ⟨rfl, .inl ⟨by omega, rfl, rfl⟩⟩
 ·refine WP.nil ?_
  refine WP.sub [(0, _), (2, _), (3, _), (6, _)] ?_ ⟨rfl, rfl, rfl, rfl, trivial⟩
  refine WP.next ?_; refine WP.condF rfl ?_; refine WP.skip ?_; refine WP.next ?_; refine WP.seq ?_; refine WP.region [0, 1, 2] rfl ?_; iterate 3 refine WP.mv rfl rfl ?_
  refine WP.nil ?_; refine WP.sub [(0, _), (2, _), (3, _), (6, _)] ?_ ⟨rfl, rfl, rfl, rfl, trivial⟩
  refine WP.next ?_; refine WP.ret ?_; refine WP.fn .ret (.inr rfl) (res2 rfl rfl rfl) Lv (Imm.le_refl _) ?_; exact ⟨rfl, .inr ⟨by omega, _, rfl, ho⟩⟩

theorem ref12_EncodePage {I : Imm} {r : Pr} {vn : Value} (hr : RNodes I vn r.nodes) (hln : r.nodes.length ≤ 140737488351232) (hsz : 30 + (r.nodes.flatMap nodeB).length ≤ 140737488355328) : Spec Tryz.prog 26 [.agg ([.int .i64 r.page, .int .i64 r.prev, vn]).toArray] I [] (fun v J L' => I = J ∧ (∃ vb xs, ∃ e : Int, v = .tuple #[vb, .int .i64 e] ∧ Own 5 1 vb (bytesV xs) xs.length L' ∧ EncR (r.may) (pageB r) xs e)) := by
 obtain ⟨nv, hn, hno⟩ := id hr.ex
 obtain ⟨An, cn, rfl, hcn⟩ := hn.slice'
 refine Spec.of Tryz.func26 rfl Tryz.ntmps26 (Nat.le_of_ble_eq_true rfl) (fun F => ?_)
 try simp only [nf]
 dsimp only [argsEnv]
 refine WP.seq ?_; refine WP.region [0, 1, 2] rfl ?_; refine WP.loud rfl rfl ?_; refine Op.box rfl rfl rfl rfl rfl (fun b1 => ?_)
 iterate 2 refine WP.mv rfl rfl ?_
 refine WP.nil ?_; refine WP.next ?_; refine WP.seq ?_; refine WP.region [0, 1, 2] rfl ?_; refine WP.vl rfl (Yld.ldg (vs := [.int .i64 r.page, .int .i64 r.prev, .slice An r.nodes.length cn]) rfl ty_ag_51 rfl rfl rfl) ?_; refine WP.loud rfl rfl ?_; refine Op.cl (ref12_May hr hln) rfl Tryz.func63 rfl rfl rfl rfl ?_; rintro v J L1 - ⟨c, rfl, hc, rfl, rfl⟩
 try simp only [nf]
 by_cases hc1 : c = true
 ·rw [hc1]
  refine WP.mv rfl rfl ?_; refine WP.nil ?_; refine WP.sub [(0, _), (1, _), (2, _), (3, _), (4, _)] ?_ ⟨rfl, rfl, rfl, rfl, rfl, trivial⟩
  refine WP.next ?_; iterate 2 refine WP.seq ?_
  refine WP.region [0, 1] rfl ?_; refine WP.mv rfl rfl ?_; refine WP.vl rfl (Yld.not rfl rfl) ?_; refine WP.nil ?_; refine WP.sub [(0, _), (1, _), (2, _), (3, _), (4, _), (10, _)] ?_ ⟨rfl, rfl, rfl, rfl, rfl, rfl, trivial⟩
  refine WP.next ?_; refine WP.condF rfl ?_; refine WP.skip ?_; refine WP.next ?_; refine WP.seq ?_; obtain ⟨⟨hp1, hp2⟩, hp3, hp4, _⟩ := hc.1 hc1
  have e1 : r.page = (r.page.toNat : Int) := by omega
  have e2 : r.prev = (r.prev.toNat : Int) := by omega
  have n1 := numB_10 (n := r.page.toNat) (by omega); have n2 := numB_10 (n := r.prev.toNat) (by omega); have n3 := numB_10 (n := r.nodes.length) (by omega)
  refine WP.region [0, 1, 2, 3, 4] rfl ?_; refine WP.vl rfl (Yld.fieldAddr rfl ty_fd_51_0 rfl) ?_; refine WP.vl rfl (Yld.ld rfl ty_sc_3 rfl rfl) ?_; refine WP.vl rfl (Yld.conv64u r.page.toNat rfl ty_un_3 ty_ik_40 (congrArg (fun z => some (Value.int .i64 z)) e1) (by omega)) ?_; refine WP.loud rfl rfl ?_; refine Op.cl (ref1_Form (n := r.page.toNat) (by omega)) rfl Tryz.func64 rfl rfl rfl rfl ?_; rintro v J L4 - ⟨rfl, ho1⟩
  try simp only [nf]
  obtain ⟨A1, c1, rfl, _⟩ := ho1.slice
  refine WP.mv rfl rfl ?_; refine WP.nil ?_; refine WP.sub [(0, _), (1, _), (2, _), (3, _), (4, _), (5, _), (10, _)] ?_ ⟨rfl, rfl, rfl, rfl, rfl, rfl, rfl, trivial⟩
  refine WP.next ?_; refine WP.seq ?_; refine WP.region [0, 1, 2, 3, 4] rfl ?_; refine WP.vl rfl (Yld.fieldAddr rfl ty_fd_51_1 rfl) ?_; refine WP.vl rfl (Yld.ld rfl ty_sc_3 rfl rfl) ?_; refine WP.vl rfl (Yld.conv64u r.prev.toNat rfl ty_un_3 ty_ik_40 (congrArg (fun z => some (Value.int .i64 z)) e2) (by omega)) ?_; refine WP.loud rfl rfl ?_; refine Op.cl (ref1_Form (n := r.prev.toNat) (by omega)) rfl Tryz.func64 rfl rfl rfl rfl ?_; rintro v J L5 - ⟨rfl, ho2⟩
  try simp only [nf]
  obtain ⟨A2, c2, rfl, _⟩ := ho2.slice
  refine WP.mv rfl rfl ?_; refine WP.nil ?_; refine WP.sub [(0, _), (1, _), (2, _), (3, _), (4, _), (5, _), (6, _), (10, _)] ?_ ⟨rfl, rfl, rfl, rfl, rfl, rfl, rfl, rfl, trivial⟩
  refine WP.next ?_; refine WP.seq ?_; refine WP.region [0, 1, 2, 3] rfl ?_; iterate 2 refine WP.mv rfl rfl ?_
  refine WP.loud rfl rfl ?_; refine Op.append (m := (numB r.prev.toNat).length) rfl ty_sl_49 ty_el_49 rfl rfl rfl rfl rfl ho1 (ho2.rd (by intro p hp; simp [hp])) (by repeat (first | exact Take.nil | with_reducible apply Take.cons | apply Take.app | exact Rm.chunk | exact Rm.here | exact Rm.nil0 | apply Rm.skip | apply Rm.skipS | (focus (apply Take.all; (repeat (first | exact Rm.chunk | exact Rm.here | exact Rm.nil0 | apply Rm.skip | apply Rm.skipS)); done)) | apply Take.cons)) (bytesV_one _) (by omega) (by omega) (fun v6 L6 ho6 => ?_)
  try simp only [nf]
  rw [← bytesV_app, ← List.length_append] at ho6
  obtain ⟨Av6, cv6, rfl, _⟩ := ho6.slice
  refine WP.mv rfl rfl ?_; refine WP.nil ?_; refine WP.sub [(0, _), (1, _), (2, _), (3, _), (4, _), (5, _), (6, _), (10, _)] ?_ ⟨rfl, rfl, rfl, rfl, rfl, rfl, rfl, rfl, trivial⟩
  refine WP.next ?_; refine WP.seq ?_; refine WP.region [0, 1, 2, 3, 4, 5, 6, 7, 8] rfl ?_; refine WP.mv rfl rfl ?_; refine WP.vl rfl (Yld.fieldAddr rfl ty_fd_51_2 rfl) ?_; refine WP.vl rfl (Yld.ld (v := .slice An r.nodes.length cn) rfl ty_sc_41 rfl rfl) ?_; refine WP.loud rfl rfl ?_; refine Op.cl (ref12_nodes ho6 hr hln (by rw [List.length_append]; omega)) rfl Tryz.func66 rfl rfl rfl rfl ?_; rintro v J L7 - ⟨rfl, ho7⟩
  try simp only [nf]
  have epb : numB r.page.toNat ++ numB r.prev.toNat ++ nodesB r.nodes = pageB r := by unfold pageB; rw [List.append_assoc]
  rw [epb] at ho7
  refine WP.loud rfl rfl ?_; refine Op.cl (ref12_whole ho7) rfl Tryz.func65 rfl rfl rfl rfl ?_; rintro v J L9 - ⟨rfl, hwh⟩
  try simp only [nf]
  obtain ⟨vA, vE, rfl⟩ : ∃ vA vE, v = .tuple #[vA, vE] := by rcases hwh with ⟨_, rfl, _⟩ | ⟨_, vb, rfl, _⟩ <;> exact ⟨_, _, rfl⟩
  iterate 2 refine WP.vl rfl (Yld.extract rfl rfl rfl) ?_
  iterate 2 refine WP.mv rfl rfl ?_
  refine WP.nil ?_; refine WP.sub [(0, _), (1, _), (2, _), (3, _), (4, _), (5, _), (6, _), (10, _)] ?_ ⟨rfl, rfl, rfl, rfl, rfl, rfl, rfl, rfl, trivial⟩
  refine WP.next ?_; refine WP.ret ?_; refine WP.fn .ret (.inr rfl) (res2 rfl rfl rfl) L9 (Imm.le_refl _) ?_; rcases hwh with ⟨h1, he, rfl⟩ | ⟨h1, vb, he, hob⟩
  ·exact ⟨rfl, _, [], 2, he, .none0, .inr (.inl ⟨hc.1 hc1, h1, rfl, rfl⟩)⟩
  ·exact ⟨rfl, _, _, 0, he, hob, .inl ⟨hc.1 hc1, h1, rfl, rfl⟩⟩
 ·have hc1 : c = false := eq_false_of_ne_true hc1
  rw [hc1]
  refine WP.mv rfl rfl ?_; refine WP.nil ?_; refine WP.sub [(0, _), (1, _), (2, _), (3, _), (4, _)] ?_ ⟨rfl, rfl, rfl, rfl, rfl, trivial⟩
  refine WP.next ?_; iterate 2 refine WP.seq ?_
  refine WP.region [0, 1] rfl ?_; refine WP.mv rfl rfl ?_; refine WP.vl rfl (Yld.not rfl rfl) ?_; refine WP.nil ?_; refine WP.sub [(0, _), (1, _), (2, _), (3, _), (4, _), (10, _)] ?_ ⟨rfl, rfl, rfl, rfl, rfl, rfl, trivial⟩
  refine WP.next ?_; refine WP.condT rfl ?_; refine WP.seq ?_; refine WP.region [0, 1] rfl ?_; iterate 2 refine WP.mv rfl rfl ?_
  refine WP.nil ?_; refine WP.next ?_; refine WP.ret ?_; refine WP.fn .ret (.inr rfl) (res2 rfl rfl rfl) [] (Imm.le_refl _) ?_; exact ⟨rfl, _, [], 120, rfl, .none0, .inr (.inr ⟨fun h => (by rw [hc.2 h] at hc1; cases hc1), rfl, rfl⟩)⟩

theorem ref12_EncodeGroup {I : Imm} {l : List (Pr × Value)} {v : Value} (hv : RPrs I v l) (hln : l.length ≤ 140737488351232) (hnl : ∀ x ∈ l, x.1.nodes.length ≤ 140737488351232) (hsz : mayG (prs l) → (groupB (prs l)).length ≤ 140737488355328) : Spec Tryz.prog 28 [v] I [] (fun v J L' => I = J ∧ (∃ vb xs, ∃ e : Int, v = .tuple #[vb, .int .i64 e] ∧ Own 5 1 vb (bytesV xs) xs.length L' ∧ EncR (mayG (prs l)) (groupB (prs l)) xs e)) := by
 obtain ⟨Ap, cp, rfl, hcp, _, _⟩ := id hv.rd
 refine Spec.of Tryz.func28 rfl Tryz.ntmps28 (Nat.le_of_ble_eq_true rfl) (fun F => ?_)
 try simp only [nf]
 dsimp only [argsEnv]
 refine WP.seq ?_; refine WP.region [0, 1] rfl ?_; iterate 2 refine WP.mv rfl rfl ?_
 refine WP.nil ?_; refine WP.next ?_; refine WP.seq ?_; refine WP.region [0, 1, 2] rfl ?_; refine WP.mv rfl rfl ?_; refine WP.loud rfl rfl ?_; refine Op.cl (ref12_MayGroup hv hln hnl) rfl Tryz.func68 rfl rfl rfl rfl ?_; rintro v J L1 - ⟨c, rfl, hc, rfl, rfl⟩
 try simp only [nf]
 by_cases hc1 : c = true
 ·rw [hc1]
  refine WP.mv rfl rfl ?_; refine WP.nil ?_; refine WP.sub [(0, _), (2, _), (3, _), (4, _)] ?_ ⟨rfl, rfl, rfl, rfl, trivial⟩
  refine WP.next ?_; iterate 2 refine WP.seq ?_
  refine WP.region [0, 1] rfl ?_; refine WP.mv rfl rfl ?_; refine WP.vl rfl (Yld.not rfl rfl) ?_; refine WP.nil ?_; refine WP.sub [(0, _), (2, _), (3, _), (4, _), (11, _)] ?_ ⟨rfl, rfl, rfl, rfl, rfl, trivial⟩
  refine WP.next ?_; refine WP.condF rfl ?_; refine WP.skip ?_; refine WP.next ?_; refine WP.seq ?_; have hmg := hc.1 hc1
  have hsz := hsz hmg
  have hl8 := hmg.2.1
  rw [prs_len] at hl8
  have hsz2 : (numB l.length).length + ((prs l).flatMap grB).length ≤ 140737488355328 := by rw [← prs_len l, ← List.length_append]; exact hsz
  refine WP.region [0, 1, 2, 3, 4] rfl ?_; refine WP.mv rfl rfl ?_; refine WP.vl rfl (Yld.len rfl ty_sl_52 rfl) ?_; refine WP.vl rfl (Yld.convN8 l.length rfl ty_un_3 ty_ik_5 rfl) ?_; refine WP.loud rfl rfl ?_; refine Op.buildSlice rfl ty_sl_49 ty_el2_49 rfl rfl rfl rfl (vs := [_]) rfl (segs := [(0, [_])]) (cs := bytesV [UInt8.ofNat l.length]) rfl rfl (by repeat (first | exact SetSeg.nil | apply SetSeg.one | exact SetAt.zero | apply SetAt.succ)) (fun b5 => ?_)
  refine WP.mv rfl rfl ?_; refine WP.nil ?_; refine WP.sub [(0, _), (2, _), (3, _), (4, _), (5, _), (11, _)] ?_ ⟨rfl, rfl, rfl, rfl, rfl, rfl, trivial⟩
  have ho5 : Own 5 1 (.slice (some ⟨b5, 0, none⟩) 1 1) (bytesV (numB l.length)) (numB l.length).length [(b5, row 5 (bytesV [UInt8.ofNat l.length]))] := by rw [numB_lo (by omega)]; exact own_lit rfl
  refine WP.next ?_; iterate 2 refine WP.seq ?_
  refine WP.region [0] rfl ?_; refine WP.mv rfl rfl ?_; refine WP.nil ?_; refine WP.next ?_; refine WP.block ?_; refine WP.loop (X := NoX) (fun u : NoX => [(0, .slice Ap l.length cp), (5, u.v), (6, .int .i64 (u.i : Int))]) (fun _ => I) (fun u : NoX => u.L ++ F) (fun u : NoX => u.i ≤ l.length ∧ Own 5 1 u.v (bytesV (numB l.length ++ ((prs l).take u.i).flatMap grB)) (numB l.length ++ ((prs l).take u.i).flatMap grB).length u.L) (fun u => l.length - u.i) ⟨0, _, _⟩ ⟨Nat.zero_le _, by rw [List.take_zero, List.flatMap_nil, List.append_nil]; exact ho5⟩ ⟨rfl, rfl, rfl, trivial⟩ rfl (by (try simp only [List.append_eq, List.cons_append, List.nil_append, List.append_assoc]); repeat (first | exact Rm.chunk | exact Rm.here | exact Rm.nil0 | apply Rm.skip | apply Rm.skipS | apply PX.cons | (apply PX.done; (repeat (first | exact Leave.done | apply Leave.drop | apply Leave.dropS)); done) | apply PX.app)) ?_; rintro ⟨i, vo, Lo⟩ ⟨hle, ho3⟩; dsimp only at hle ho3; obtain ⟨Ao, co, rfl, _⟩ := ho3.slice
  try dsimp only
  try simp only [nf]
  iterate 2 refine WP.seq ?_
  refine WP.region [0, 1, 2, 3] rfl ?_; iterate 2 refine WP.mv rfl rfl ?_
  refine WP.vl rfl (Yld.len rfl ty_sl_52 rfl) ?_; refine WP.split rfl rfl rfl rfl (Yld.lss rfl rfl rfl) (fun hlt => ?_) (fun hlt => ?_)
  ·have hi : i < l.length := by omega
   obtain ⟨bl, kl, Tl, fl, arl, ea, hbl, hcl⟩ := hv.at_ hi
   have hr1 : l[i].2.oneCell' = true := by obtain ⟨nv, ⟨A, c, e, _⟩, _⟩ := (hv.el _ (List.getElem_mem hi)).ex; rw [e]; rfl
   obtain ⟨hp1, hp2, hp3⟩ := pr_cells hcl
   have hpi : i < (prs l).length := by rw [prs_len]; exact hi
   have hpre := flat_pre grB hpi
   rw [prs_at hi] at hpre
   have hx : (grB l[i].1).length = (numB l[i].1.page.toNat).length + ((numB l[i].1.nodes.length).length + (l[i].1.nodes.flatMap nodeB).length) := by unfold grB nodesB; rw [List.length_append, List.length_append]
   have hgi := (gAt_prs hi hpi).1 (hmg.2.2 i hpi)
   have hlen := hnl _ (List.getElem_mem hi)
   have hpo : pageOk l[i].1.page := by rcases hgi.2.2 with h | h; exact h.2.2; exact h.1
   obtain ⟨hpo1, hpo2⟩ := hpo
   have e1 : l[i].1.page = (l[i].1.page.toNat : Int) := by omega
   have hbl9 : (numB l.length ++ ((prs l).take i).flatMap grB).length = (numB l.length).length + (((prs l).take i).flatMap grB).length := List.length_append
   refine WP.nil ?_; refine WP.sub [(0, _), (5, _), (6, _), (19, _)] ?_ ⟨rfl, rfl, rfl, rfl, trivial⟩
   refine WP.next ?_; refine WP.condT rfl ?_; refine WP.skip ?_; refine WP.next ?_; refine WP.seq ?_; refine WP.block ?_; refine WP.seq ?_; refine WP.region [0, 1, 2, 3, 4, 5, 6, 7] rfl ?_; iterate 2 refine WP.mv rfl rfl ?_
   refine WP.vl rfl (Yld.indexAddr (i := i) rfl ty_sl_52 (congrArg (fun a => some (Value.slice a l.length cp)) ea) rfl hi) ?_; refine WP.vl rfl (Yld.fieldAddr rfl ty_fd_51_0 rfl) ?_; refine WP.vl rfl (Yld.loadC (v := .int .i64 l[i].1.page) rfl ty_sc_3 rfl (There.i hbl) hp1) ?_; refine WP.vl rfl (Yld.conv64u l[i].1.page.toNat rfl ty_un_3 ty_ik_40 (congrArg (fun z => some (Value.int .i64 z)) e1) (by omega)) ?_; refine WP.loud rfl rfl ?_; refine Op.cl (ref1_Form (n := l[i].1.page.toNat) (by omega)) rfl Tryz.func64 rfl rfl rfl rfl ?_; rintro v J L8 - ⟨rfl, hf1⟩
   try simp only [nf]
   obtain ⟨Ag, cg, rfl, _⟩ := hf1.slice
   refine WP.mv rfl rfl ?_; refine WP.nil ?_; refine WP.sub [(0, _), (5, _), (6, _), (7, _), (19, _)] ?_ ⟨rfl, rfl, rfl, rfl, rfl, trivial⟩
   refine WP.next ?_; refine WP.seq ?_; refine WP.region [0, 1, 2, 3] rfl ?_; iterate 2 refine WP.mv rfl rfl ?_
   refine WP.loud rfl rfl ?_; refine Op.append (m := (numB l[i].1.page.toNat).length) rfl ty_sl_49 ty_el_49 rfl rfl rfl rfl rfl ho3 (hf1.rd (by intro p hp; simp [hp])) (by repeat (first | exact Take.nil | with_reducible apply Take.cons | apply Take.app | exact Rm.chunk | exact Rm.here | exact Rm.nil0 | apply Rm.skip | apply Rm.skipS | (focus (apply Take.all; (repeat (first | exact Rm.chunk | exact Rm.here | exact Rm.nil0 | apply Rm.skip | apply Rm.skipS)); done)) | apply Take.cons)) (bytesV_one _) (by omega) (by omega) (fun v5 L5 ho5 => ?_)
   try simp only [nf]
   rw [← bytesV_app, ← List.length_append] at ho5
   obtain ⟨Av5, cv5, rfl, _⟩ := ho5.slice
   refine WP.mv rfl rfl ?_; refine WP.nil ?_; refine WP.sub [(0, _), (5, _), (6, _), (7, _), (19, _)] ?_ ⟨rfl, rfl, rfl, rfl, rfl, trivial⟩
   refine WP.next ?_; refine WP.region [0, 1, 2, 3, 4, 5, 6, 7] rfl ?_; iterate 3 refine WP.mv rfl rfl ?_
   refine WP.vl rfl (Yld.indexAddr (i := i) rfl ty_sl_52 (congrArg (fun a => some (Value.slice a l.length cp)) ea) rfl hi) ?_; refine WP.vl rfl (Yld.fieldAddr rfl ty_fd_51_2 rfl) ?_; refine WP.vl rfl (Yld.loadC (v := l[i].2) rfl ty_sc_41 rfl (There.i hbl) hp3) ?_; refine WP.loud rfl rfl ?_; refine Op.cl (ref12_nodes ho5 (hv.el _ (List.getElem_mem hi)) hlen (by rw [List.length_append]; omega)) rfl Tryz.func66 rfl rfl rfl rfl ?_; rintro v J L10 - ⟨rfl, ho10⟩
   try simp only [nf]
   obtain ⟨A10, c10, rfl, _⟩ := ho10.slice
   refine WP.mv rfl rfl ?_; refine WP.nil ?_; refine WP.sub [(0, _), (5, _), (6, _), (7, _), (19, _)] ?_ ⟨rfl, rfl, rfl, rfl, rfl, trivial⟩
   refine WP.leave ?_; refine WP.next ?_; refine WP.region [0, 1, 2] rfl ?_; refine WP.mv rfl rfl ?_; refine WP.vl rfl (Yld.add64 rfl rfl rfl (by omega)) ?_; refine WP.mv rfl rfl ?_; refine WP.nil ?_; refine WP.sub [(0, _), (5, _), (6, _), (7, _), (19, _)] ?_ ⟨rfl, rfl, rfl, rfl, rfl, trivial⟩
   exact WP.again ⟨i + 1, _, L10⟩ ⟨hi, by dsimp only; rw [flat_succ grB hpi, prs_at hi, show grB l[i].1 = numB l[i].1.page.toNat ++ nodesB l[i].1.nodes from rfl, ← List.append_assoc, ← List.append_assoc]; exact ho10⟩ (show l.length - (i + 1) < l.length - i by omega) ⟨rfl, rfl, rfl, trivial⟩ rfl (by (try simp only [List.append_eq, List.cons_append, List.nil_append, List.append_assoc]); repeat (first | exact Rm.chunk | exact Rm.here | exact Rm.nil0 | apply Rm.skip | apply Rm.skipS | apply PX.cons | (apply PX.done; (repeat (first | exact Leave.done | apply Leave.drop | apply Leave.dropS)); done) | apply PX.app))
  ·refine WP.nil ?_
   refine WP.sub [(0, _), (5, _), (6, _), (19, _)] ?_ ⟨rfl, rfl, rfl, rfl, trivial⟩
   refine WP.next ?_; refine WP.condF rfl ?_; refine WP.exit ?_; iterate 2 refine WP.thenE ?_
   refine WP.hit ?_; refine WP.next ?_; refine WP.seq ?_; obtain rfl : i = l.length := by omega
   have eg : (numB l.length ++ ((prs l).take l.length).flatMap grB) = groupB (prs l) := by rw [List.take_of_length_le (by rw [prs_len]; exact Nat.le_refl _)]; show _ = numB (prs l).length ++ (prs l).flatMap grB; rw [prs_len]
   rw [eg] at ho3 ⊢
   refine WP.region [0, 1, 2, 3, 4, 5] rfl ?_; refine WP.mv rfl rfl ?_; refine WP.loud rfl rfl ?_; refine Op.cl (ref12_whole ho3) rfl Tryz.func65 rfl rfl rfl rfl ?_; rintro v J L9 - ⟨rfl, hwh⟩
   try simp only [nf]
   obtain ⟨vA, vE, rfl⟩ : ∃ vA vE, v = .tuple #[vA, vE] := by rcases hwh with ⟨_, rfl, _⟩ | ⟨_, vb, rfl, _⟩ <;> exact ⟨_, _, rfl⟩
   iterate 2 refine WP.vl rfl (Yld.extract rfl rfl rfl) ?_
   iterate 2 refine WP.mv rfl rfl ?_
   refine WP.nil ?_; refine WP.sub [(0, _), (2, _), (3, _), (5, _), (6, _), (19, _)] ?_ ⟨rfl, rfl, rfl, rfl, rfl, rfl, trivial⟩
   refine WP.next ?_; refine WP.ret ?_; refine WP.fn .ret (.inr rfl) (res2 rfl rfl rfl) L9 (Imm.le_refl _) ?_; rcases hwh with ⟨h1, he, rfl⟩ | ⟨h1, vb, he, hob⟩
   ·exact ⟨rfl, _, [], 2, he, .none0, .inr (.inl ⟨hc.1 hc1, h1, rfl, rfl⟩)⟩
   ·exact ⟨rfl, _, _, 0, he, hob, .inl ⟨hc.1 hc1, h1, rfl, rfl⟩⟩
 ·have hc1 : c = false := eq_false_of_ne_true hc1
  rw [hc1]
  refine WP.mv rfl rfl ?_; refine WP.nil ?_; refine WP.sub [(0, _), (2, _), (3, _), (4, _)] ?_ ⟨rfl, rfl, rfl, rfl, trivial⟩
  refine WP.next ?_; iterate 2 refine WP.seq ?_
  refine WP.region [0, 1] rfl ?_; refine WP.mv rfl rfl ?_; refine WP.vl rfl (Yld.not rfl rfl) ?_; refine WP.nil ?_; refine WP.sub [(0, _), (2, _), (3, _), (4, _), (11, _)] ?_ ⟨rfl, rfl, rfl, rfl, rfl, trivial⟩
  refine WP.next ?_; refine WP.condT rfl ?_; refine WP.seq ?_; refine WP.region [0, 1] rfl ?_; iterate 2 refine WP.mv rfl rfl ?_
  refine WP.nil ?_; refine WP.next ?_; refine WP.ret ?_; refine WP.fn .ret (.inr rfl) (res2 rfl rfl rfl) [] (Imm.le_refl _) ?_; exact ⟨rfl, _, [], 120, rfl, .none0, .inr (.inr ⟨fun h => (by rw [hc.2 h] at hc1; cases hc1), rfl, rfl⟩)⟩

theorem ref12_EncodeCommit {I : Imm} {t : Int} : Spec Tryz.prog 30 [.int .i64 t] I [] (fun v J L' => I = J ∧ (∃ vb xs, ∃ e : Int, v = .tuple #[vb, .int .i64 e] ∧ Own 5 1 vb (bytesV xs) xs.length L' ∧ EncR ((1 ≤ t ∧ t ≤ 1099511627776)) (numB t.toNat) xs e)) := by
 refine Spec.of Tryz.func30 rfl Tryz.ntmps30 (Nat.le_of_ble_eq_true rfl) (fun F => ?_)
 try simp only [nf]
 dsimp only [argsEnv]
 refine WP.seq ?_; refine WP.region [0, 1] rfl ?_; iterate 2 refine WP.mv rfl rfl ?_
 refine WP.nil ?_; refine WP.next ?_; iterate 2 refine WP.seq ?_
 refine WP.region [0, 1, 2, 3, 4, 5] rfl ?_; refine WP.mv rfl rfl ?_; refine WP.split rfl rfl rfl rfl (Yld.lss rfl rfl rfl) (fun h1 => ?_) (fun h1 => ?_)
 ·refine WP.mv rfl rfl ?_
  iterate 2 refine WP.passG rfl rfl rfl rfl rfl rfl rfl rfl ?_
  refine WP.vl rfl (Yld.pickT rfl rfl rfl) ?_; refine WP.nil ?_; refine WP.sub [(0, _), (2, _), (3, _), (9, _)] ?_ ⟨rfl, rfl, rfl, rfl, trivial⟩
  refine WP.next ?_; refine WP.condT rfl ?_; refine WP.seq ?_; refine WP.region [0, 1] rfl ?_; iterate 2 refine WP.mv rfl rfl ?_
  refine WP.nil ?_; refine WP.next ?_; refine WP.ret ?_; refine WP.fn .ret (.inr rfl) (res2 rfl rfl rfl) [] (Imm.le_refl _) ?_; exact ⟨rfl, _, [], 120, rfl, .none0, .inr (.inr ⟨fun h => by omega, rfl, rfl⟩)⟩
 ·refine WP.mv rfl rfl ?_
  refine WP.valG rfl rfl rfl rfl rfl rfl rfl (Yld.move rfl rfl) ?_; refine WP.splitG rfl rfl rfl rfl rfl rfl rfl (Yld.gtr rfl rfl rfl) (fun h2 => ?_) (fun h2 => ?_)
  ·refine WP.vl rfl (Yld.pickF rfl rfl rfl) ?_
   refine WP.nil ?_; refine WP.sub [(0, _), (2, _), (3, _), (9, _)] ?_ ⟨rfl, rfl, rfl, rfl, trivial⟩
   refine WP.next ?_; refine WP.condT rfl ?_; refine WP.seq ?_; refine WP.region [0, 1] rfl ?_; iterate 2 refine WP.mv rfl rfl ?_
   refine WP.nil ?_; refine WP.next ?_; refine WP.ret ?_; refine WP.fn .ret (.inr rfl) (res2 rfl rfl rfl) [] (Imm.le_refl _) ?_; exact ⟨rfl, _, [], 120, rfl, .none0, .inr (.inr ⟨fun h => by omega, rfl, rfl⟩)⟩
  ·refine WP.vl rfl (Yld.pickF rfl rfl rfl) ?_
   refine WP.nil ?_; refine WP.sub [(0, _), (2, _), (3, _), (9, _)] ?_ ⟨rfl, rfl, rfl, rfl, trivial⟩
   refine WP.next ?_; refine WP.condF rfl ?_; refine WP.skip ?_; refine WP.next ?_; refine WP.seq ?_; have e1 : t = (t.toNat : Int) := by omega
   have n1 := numB_10 (n := t.toNat) (by omega)
   refine WP.region [0, 1, 2, 3, 4] rfl ?_; refine WP.mv rfl rfl ?_; refine WP.vl rfl (Yld.conv64u t.toNat rfl ty_un_3 ty_ik_40 (congrArg (fun z => some (Value.int .i64 z)) e1) (by omega)) ?_; refine WP.loud rfl rfl ?_; refine Op.cl (ref1_Form (n := t.toNat) (by omega)) rfl Tryz.func64 rfl rfl rfl rfl ?_; rintro v J Lc - ⟨rfl, hc⟩
   try simp only [nf]
   obtain ⟨Ac, cc, rfl, _⟩ := hc.slice
   iterate 2 refine WP.mv rfl rfl ?_
   refine WP.nil ?_; refine WP.sub [(0, _), (2, _), (3, _), (9, _)] ?_ ⟨rfl, rfl, rfl, rfl, trivial⟩
   refine WP.next ?_; refine WP.ret ?_; refine WP.fn .ret (.inr rfl) (res2 rfl rfl rfl) Lc (Imm.le_refl _) ?_; exact ⟨rfl, _, _, 0, rfl, hc, .inl ⟨⟨by omega, by omega⟩, by omega, rfl, rfl⟩⟩


end Go.Hp
