import Derived.Test.YtcnfcdlapbjgeaaCrcB
set_option linter.unusedVariables false
set_option linter.unusedSimpArgs false
namespace Go.Hp
open Go Go.Proofs
theorem slices_Grow {I : Imm} {m : Nat} (h0 : 0 < m) (hm : m ≤ 140737488355328) : Spec Try.prog 71 [.slice none 0 0, .int .i64 (m : Int)] I [] (fun v J L => I = J ∧ Own 5 1 v [] 0 L) := by
 refine Spec.of Try.func71 rfl Try.ntmps71 (Nat.le_of_ble_eq_true rfl) (fun F => ?_)
 try simp only [nf]
 dsimp only [argsEnv]
 refine WP.seq ?_
 refine WP.region [0] rfl ?_
 refine WP.mv rfl rfl ?_
 refine WP.nil ?_
 refine WP.next ?_
 refine WP.seq ?_
 refine WP.seq ?_
 refine WP.region [0, 1] rfl ?_
 refine WP.mv rfl rfl ?_
 refine WP.vl rfl (Yld.lss rfl rfl rfl false (decide_eq_false (by omega))) ?_
 refine WP.nil ?_
 refine WP.sub [(0, _), (1, _), (4, _), (6, _)] ?_ ⟨rfl, rfl, rfl, rfl, trivial⟩
 refine WP.next ?_
 refine WP.condF rfl ?_
 refine WP.skip ?_
 refine WP.next ?_
 refine WP.seq ?_
 refine WP.seq ?_
 refine WP.region [0, 1, 2, 3, 4, 5, 6, 7] rfl ?_
 iterate 2 refine WP.mv rfl rfl ?_
 refine WP.vl rfl (Yld.cap rfl ty_sl_46 rfl) ?_
 refine WP.mv rfl rfl ?_
 refine WP.vl rfl (Yld.len rfl ty_sl_46 rfl) ?_
 refine WP.vl rfl (Yld.sub64 rfl rfl rfl (by omega)) ?_
 refine WP.vl rfl (Yld.sub64 rfl rfl rfl (by omega)) ?_
 refine WP.mv rfl rfl ?_
 refine WP.nil ?_
 refine WP.sub [(0, _), (1, _), (4, _), (6, _)] ?_ ⟨rfl, rfl, rfl, rfl, trivial⟩
 refine WP.next ?_
 refine WP.seq ?_
 refine WP.region [0, 1] rfl ?_
 refine WP.mv rfl rfl ?_
 refine WP.vl rfl (Yld.gtr rfl rfl rfl true (decide_eq_true (by omega))) ?_
 refine WP.nil ?_
 refine WP.sub [(0, _), (1, _), (4, _), (6, _), (16, _)] ?_ ⟨rfl, rfl, rfl, rfl, rfl, trivial⟩
 refine WP.next ?_
 refine WP.condT rfl ?_
 refine WP.region [0, 1, 2, 3, 4, 5, 6, 7, 8, 9] rfl ?_
 iterate 2 refine WP.mv rfl rfl ?_
 refine WP.vl rfl (Yld.cap rfl ty_sl_46 rfl) ?_
 refine WP.vl rfl (Yld.slice (h := 0) rfl ty_sl_46 rfl Env.lim0 (Env.limS rfl) (Nat.le_refl _) (Nat.le_refl _)) ?_
 refine WP.mv rfl rfl ?_
 refine WP.loud rfl rfl ?_
 refine Op.appendZ (m := m) rfl ty_sl_46 Try.underlying3 ty_el_46 rfl rfl rfl rfl (congrArg (fun z => some (Value.int .i64 z)) (by omega)) h0 (by decide) (by omega) (by omega) (fun bg cg sg h1 h2 => ?_)
 refine WP.mv rfl rfl ?_
 refine WP.vl rfl (Yld.len rfl ty_sl_46 rfl) ?_
 refine WP.vl rfl (Yld.slice (h := 0) rfl ty_sl_46 rfl Env.lim0 (Env.limS rfl) (Nat.le_refl _) (Nat.zero_le _)) ?_
 refine WP.mv rfl rfl ?_
 refine WP.nil ?_
 refine WP.sub [(0, _), (1, _), (4, _), (6, _), (16, _)] ?_ ⟨rfl, rfl, rfl, rfl, rfl, trivial⟩
 refine WP.next ?_
 refine WP.seq ?_
 refine WP.region [0, 1] rfl ?_
 iterate 2 refine WP.mv rfl rfl ?_
 refine WP.nil ?_
 refine WP.sub [(0, _), (1, _), (4, _), (6, _), (16, _)] ?_ ⟨rfl, rfl, rfl, rfl, rfl, trivial⟩
 refine WP.next ?_
 refine WP.ret ?_
 refine WP.fn .ret (.inr rfl) (res1 rfl rfl) [(bg, row 5 _)] (Imm.le_refl _) ?_
 have e : (if cg = 0 then (some ⟨bg, 0, none⟩ : Option Addr) else (some ⟨bg, 0, none⟩ : Option Addr).map (·.add (0 * 1))) = some ⟨bg, 0, none⟩ := by split <;> simp [add_at]
 refine ⟨rfl, ?_⟩
 simp only [subSl, e, Nat.sub_zero]
 exact Own.blk (T := 5) (sz := 1) (xs := []) (sp := sg) rfl (by simpa using h2) (Nat.zero_le _)


theorem fst_at {ls : List (Value × List UInt8)} {i : Nat} (h : i < ls.length) : (ls.map (·.1))[0 + i * 1]? = some ls[i].1 := by simp [h]
def total (ls : List (Value × List UInt8)) : Nat := (ls.flatMap (·.2)).length
theorem total_take_le (ls : List (Value × List UInt8)) (i : Nat) : total (ls.take i) ≤ total ls := by
 unfold total
 conv => rhs; rw [← List.take_append_drop i ls, List.flatMap_append, List.length_append]
 exact Nat.le_add_right _ _
theorem total_succ {ls : List (Value × List UInt8)} {i : Nat} (h : i < ls.length) : total (ls.take (i + 1)) = total (ls.take i) + ls[i].2.length := by
 unfold total
 rw [List.take_succ_eq_append_getElem h, List.flatMap_append, List.length_append]; simp
structure CX where
 i : Nat
 v : Value
 L : Chunks
structure CX.ok (ls : List (Value × List UInt8)) (t : CX) : Prop where
 le : t.i ≤ ls.length
 ow : Own 5 1 t.v (bytesV ((ls.take t.i).flatMap (·.2))) (total (ls.take t.i)) t.L
theorem slices_Concat {I : Imm} {bx : Nat} {ls : List (Value × List UInt8)} (hls : ∀ e ∈ ls, SlRd (fun b o => I.blk b = some o) e.1 e.2.length 1 (bytesV e.2)) (h0 : 0 < total ls) (hm : total ls ≤ 140737488355328) (hn : ls.length ≤ 1152921504606846976) : Spec Try.prog 68 [.slice (some ⟨bx, 0, none⟩) ls.length ls.length] I [(bx, row 46 (ls.map (·.1)))] (fun v J L => I = J ∧ Own 5 1 v (bytesV (ls.flatMap (·.2))) (total ls) L) := by
 refine Spec.of Try.func68 rfl Try.ntmps68 (Nat.le_of_ble_eq_true rfl) (fun F => ?_)
 try simp only [nf]
 dsimp only [argsEnv]
 refine WP.seq ?_
 refine WP.region [0] rfl ?_
 refine WP.mv rfl rfl ?_
 refine WP.nil ?_
 refine WP.next ?_
 refine WP.seq ?_
 refine WP.region [0] rfl ?_
 refine WP.mv rfl rfl ?_
 refine WP.nil ?_
 refine WP.next ?_
 refine WP.seq ?_
 refine WP.seq ?_
 refine WP.region [0, 1, 2] rfl ?_
 refine WP.mv rfl rfl ?_
 refine WP.vl rfl (Yld.len rfl ty_sl_22 rfl) ?_
 refine WP.mv rfl rfl ?_
 refine WP.nil ?_
 refine WP.next ?_
 refine WP.block ?_
 refine WP.loop (X := Nat) (fun i : Nat => [(0, .slice (some ⟨bx, 0, none⟩) ls.length ls.length), (3, .int .i64 (total (ls.take i) : Int)), (9, .slice (some ⟨bx, 0, none⟩) ls.length ls.length), (10, .int .i64 (ls.length : Int)), (11, .int .i64 (i : Int))]) (fun _ => I) (fun _ => (bx, row 46 (ls.map (·.1))) :: F) (fun i => i ≤ ls.length) (fun i => ls.length - i) 0 (Nat.zero_le _) ⟨rfl, rfl, rfl, rfl, rfl, trivial⟩ rfl (by (try dsimp only); repeat (first | exact Rm.chunk | exact Rm.here | exact Rm.nil0 | apply Rm.skip | apply Rm.skipS | apply PX.cons | (apply PX.done; (repeat (first | exact Leave.done | apply Leave.drop | apply Leave.dropS)); done) | apply PX.app)) ?_
 intro i hi0
 try dsimp only
 try simp only [nf]
 refine WP.seq ?_
 refine WP.region [0] rfl ?_
 refine WP.split rfl rfl rfl rfl (Yld.lss rfl rfl rfl) (fun hlt => ?_) (fun hlt => ?_)
 ·have hi : i < ls.length := by omega
  have htl := total_take_le ls (i + 1)
  have hts := total_succ hi
  refine WP.nil ?_
  refine WP.next ?_
  refine WP.seq ?_
  refine WP.condT rfl ?_
  refine WP.skip ?_
  refine WP.next ?_
  refine WP.seq ?_
  refine WP.block ?_
  refine WP.seq ?_
  refine WP.region [0, 1, 2] rfl ?_
  refine WP.vl rfl (Yld.indexAddr rfl ty_sl_22 rfl rfl (by omega)) ?_
  refine WP.vl rfl (Yld.ld rfl ty_sc_46 rfl (fst_at hi)) ?_
  refine WP.mv rfl rfl ?_
  refine WP.nil ?_
  refine WP.sub [(0, _), (3, _), (5, _), (9, _), (10, _), (11, _), (12, _)] ?_ ⟨rfl, rfl, rfl, rfl, rfl, rfl, rfl, trivial⟩
  refine WP.next ?_
  refine WP.seq ?_
  refine WP.region [0, 1, 2, 3, 4] rfl ?_
  iterate 2 refine WP.mv rfl rfl ?_
  refine WP.vl rfl (Yld.lenR (hls _ (List.getElem_mem hi)) rfl ty_sl_46 rfl) ?_
  refine WP.vl rfl (Yld.add64 rfl rfl rfl (by omega)) ?_
  refine WP.mv rfl rfl ?_
  refine WP.nil ?_
  refine WP.sub [(0, _), (3, _), (5, _), (9, _), (10, _), (11, _), (12, _)] ?_ ⟨rfl, rfl, rfl, rfl, rfl, rfl, rfl, trivial⟩
  refine WP.next ?_
  refine WP.seq ?_
  refine WP.region [0, 1] rfl ?_
  refine WP.mv rfl rfl ?_
  refine WP.vl rfl (Yld.lss rfl rfl rfl false (decide_eq_false (by omega))) ?_
  refine WP.nil ?_
  refine WP.sub [(0, _), (3, _), (5, _), (9, _), (10, _), (11, _), (12, _), (20, _)] ?_ ⟨rfl, rfl, rfl, rfl, rfl, rfl, rfl, rfl, trivial⟩
  refine WP.next ?_
  refine WP.condF rfl ?_
  refine WP.skip ?_
  refine WP.leave ?_
  refine WP.next ?_
  refine WP.region [0, 1] rfl ?_
  refine WP.vl rfl (Yld.add64 rfl rfl rfl (by omega)) ?_
  refine WP.mv rfl rfl ?_
  refine WP.nil ?_
  refine WP.sub [(0, _), (3, _), (5, _), (9, _), (10, _), (11, _), (12, _), (20, _)] ?_ ⟨rfl, rfl, rfl, rfl, rfl, rfl, rfl, rfl, trivial⟩
  exact WP.ag (i + 1) hi (by omega) ⟨rfl, (congrArg (fun z => some (Value.int .i64 z)) (by rw [total_succ hi]; omega)), rfl, rfl, rfl, trivial⟩ rfl
 ·obtain rfl : i = ls.length := by omega
  rw [List.take_length]
  refine WP.nil ?_
  refine WP.next ?_
  refine WP.seq ?_
  refine WP.condF rfl ?_
  refine WP.exit ?_
  refine WP.thenE ?_
  refine WP.thenE ?_
  refine WP.hit ?_
  refine WP.next ?_
  refine WP.seq ?_
  refine WP.region [0, 1, 2] rfl ?_
  refine WP.mv rfl rfl ?_
  refine WP.loud rfl rfl ?_
  refine Op.cl (slices_Grow (m := total ls) h0 hm) rfl Try.func71 rfl rfl rfl rfl ?_
  rintro v J Lg - ⟨rfl, hgrow⟩
  try simp only [nf]
  refine WP.mv rfl rfl ?_
  refine WP.nil ?_
  refine WP.sub [(0, _), (3, _), (6, _), (9, _), (10, _), (11, _), (12, _)] ?_ ⟨rfl, rfl, rfl, rfl, rfl, rfl, rfl, trivial⟩
  refine WP.next ?_
  refine WP.seq ?_
  refine WP.seq ?_
  refine WP.region [0, 1, 2] rfl ?_
  refine WP.mv rfl rfl ?_
  refine WP.vl rfl (Yld.len rfl ty_sl_22 rfl) ?_
  refine WP.mv rfl rfl ?_
  refine WP.nil ?_
  refine WP.next ?_
  refine WP.block ?_
  refine WP.loop (X := CX) (fun t : CX => [(6, t.v), (25, .slice (some ⟨bx, 0, none⟩) ls.length ls.length), (26, .int .i64 (ls.length : Int)), (27, .int .i64 (t.i : Int))]) (fun _ => I) (fun t => (bx, row 46 (ls.map (·.1))) :: (t.L ++ F)) (fun t => t.ok ls) (fun t => ls.length - t.i) ⟨0, v, Lg⟩ ⟨Nat.zero_le _, hgrow⟩ ⟨rfl, rfl, rfl, rfl, trivial⟩ rfl (by (try dsimp only); repeat (first | exact Rm.chunk | exact Rm.here | exact Rm.nil0 | apply Rm.skip | apply Rm.skipS | apply PX.cons | (apply PX.done; (repeat (first | exact Leave.done | apply Leave.drop | apply Leave.dropS)); done) | apply PX.app)) ?_
  rintro ⟨i, vg, Lg⟩ ⟨hle, hgrow⟩
  try dsimp only
  try simp only [nf]
  refine WP.seq ?_
  refine WP.region [0] rfl ?_
  refine WP.split rfl rfl rfl rfl (Yld.lss rfl rfl rfl) (fun hlt => ?_) (fun hlt => ?_)
  ·simp only at hle hgrow
   have hi : i < ls.length := by first | omega | (simp only at hlt; omega)
   have htl := total_take_le ls (i + 1)
   have hts := total_succ hi
   refine WP.nil ?_
   refine WP.next ?_
   refine WP.seq ?_
   refine WP.condT rfl ?_
   refine WP.skip ?_
   refine WP.next ?_
   refine WP.seq ?_
   refine WP.block ?_
   refine WP.seq ?_
   refine WP.region [0, 1, 2] rfl ?_
   refine WP.vl rfl (Yld.indexAddr rfl ty_sl_22 rfl rfl (by omega)) ?_
   refine WP.vl rfl (Yld.ld rfl ty_sc_46 rfl (fst_at hi)) ?_
   refine WP.mv rfl rfl ?_
   refine WP.nil ?_
   refine WP.sub [(6, _), (8, _), (25, _), (26, _), (27, _), (28, _)] ?_ ⟨rfl, rfl, rfl, rfl, rfl, rfl, trivial⟩
   refine WP.next ?_
   refine WP.region [0, 1, 2, 3] rfl ?_
   iterate 2 refine WP.mv rfl rfl ?_
   refine WP.loud rfl rfl ?_
   refine Op.append rfl ty_sl_46 ty_el_46 rfl rfl rfl rfl rfl hgrow ((hls _ (List.getElem_mem hi)).mono (fun b o h => .inr h)) (by repeat (first | exact Take.nil | with_reducible apply Take.cons | apply Take.app | exact Rm.chunk | exact Rm.here | exact Rm.nil0 | apply Rm.skip | apply Rm.skipS | (focus (apply Take.all; (repeat (first | exact Rm.chunk | exact Rm.here | exact Rm.nil0 | apply Rm.skip | apply Rm.skipS)); done)) | apply Take.cons)) (bytesV_one _) (by omega) (by omega) (fun v' Lo' hown => ?_)
   have hown' : Own 5 1 v' (bytesV ((ls.take (i + 1)).flatMap (·.2))) (total (ls.take (i + 1))) Lo' := by rw [hts, List.take_succ_eq_append_getElem hi, List.flatMap_append, bytesV_app]; simpa using hown
   try simp only [nf]
   refine WP.mv rfl rfl ?_
   refine WP.nil ?_
   refine WP.sub [(6, _), (8, _), (25, _), (26, _), (27, _), (28, _)] ?_ ⟨rfl, rfl, rfl, rfl, rfl, rfl, trivial⟩
   refine WP.leave ?_
   refine WP.next ?_
   refine WP.region [0, 1] rfl ?_
   refine WP.vl rfl (Yld.add64 rfl rfl rfl (by omega)) ?_
   refine WP.mv rfl rfl ?_
   refine WP.nil ?_
   refine WP.sub [(6, _), (8, _), (25, _), (26, _), (27, _), (28, _)] ?_ ⟨rfl, rfl, rfl, rfl, rfl, rfl, trivial⟩
   exact WP.ag ⟨i + 1, v', Lo'⟩ ⟨hi, hown'⟩ (by simp only; omega) ⟨rfl, rfl, rfl, rfl, trivial⟩ rfl
  ·simp only at hle hgrow
   obtain rfl : i = ls.length := by first | omega | (simp only at hlt; omega)
   rw [List.take_length] at hgrow
   refine WP.nil ?_
   refine WP.next ?_
   refine WP.seq ?_
   refine WP.condF rfl ?_
   refine WP.exit ?_
   refine WP.thenE ?_
   refine WP.thenE ?_
   refine WP.hit ?_
   refine WP.next ?_
   refine WP.seq ?_
   refine WP.region [0, 1] rfl ?_
   iterate 2 refine WP.mv rfl rfl ?_
   refine WP.nil ?_
   refine WP.sub [(2, _), (6, _), (25, _), (26, _), (27, _), (28, _)] ?_ ⟨rfl, rfl, rfl, rfl, rfl, rfl, trivial⟩
   refine WP.next ?_
   refine WP.ret ?_
   refine WP.fn .ret (.inr rfl) (res1 rfl rfl) (Lg ++ []) (Imm.le_refl _) ?_
   exact ⟨rfl, by simpa using hgrow⟩


end Go.Hp
