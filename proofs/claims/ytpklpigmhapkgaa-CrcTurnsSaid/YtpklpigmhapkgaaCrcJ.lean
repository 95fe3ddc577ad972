import Derived.Test.YtpklpigmhapkgaaCrcI
set_option linter.unusedVariables false
set_option linter.unusedSimpArgs false
namespace Go.Hp
open Go Go.Proofs
theorem crc_CrcJoins {I : Imm} {a b t : List UInt8} {va vb vt : Value} (ha : SlRd (fun b o => I.blk b = some o) va a.length 1 (bytesV a)) (hb : SlRd (fun b o => I.blk b = some o) vb b.length 1 (bytesV b)) (ht : SlRd (fun b o => I.blk b = some o) vt t.length 1 (bytesV t)) (la : a.length ≤ 1048576) (lb : b.length ≤ 1048576) (lt : t.length ≤ 1048576) : Spec Try.prog 5 [va, vb, vt] I [] (fun v J L => v = .bool true ∧ I = J ∧ L = []) := by
  refine Spec.of Try.func5 rfl Try.ntmps5 (Nat.le_of_ble_eq_true rfl) (fun F => ?_)
  try simp only [List.cons_append, List.nil_append, List.append_assoc]
  dsimp only [argsEnv]
  refine WP.seq ?_
  refine WP.region [0] rfl ?_
  refine WP.val rfl rfl rfl rfl (Yld.assign rfl rfl) ?_
  refine WP.nil ?_
  refine WP.next ?_
  refine WP.seq ?_
  refine WP.region [0, 1] rfl ?_
  refine WP.loud rfl rfl ?_
  refine Op.call (crc_awake _) rfl Try.func8 rfl rfl rfl rfl (by repeat (first | exact Take.nil | apply Take.cons | apply Take.app | exact Rm.chunk | exact Rm.here | apply Rm.skip | apply Rm.skipS | apply Take.all)) ?_
  rintro v J L1 hJ ⟨rfl, rfl, rfl⟩
  clear hJ; try simp only [List.cons_append, List.nil_append, List.append_assoc]
  refine WP.val rfl rfl rfl rfl (Yld.assign rfl rfl) ?_
  refine WP.nil ?_
  refine WP.sub [(0, _), (1, _), (2, _), (6, _), (7, _)] ?_ ⟨rfl, rfl, rfl, rfl, rfl, trivial⟩
  refine WP.next ?_
  refine WP.seq ?_
  refine WP.region [0, 1, 2] rfl ?_
  refine WP.val rfl rfl rfl rfl (Yld.move rfl rfl) ?_
  refine WP.loud rfl rfl ?_
  refine Op.append rfl ty_sl_23 ty_el_23 rfl rfl rfl rfl rfl .none0 (ha.mono (fun b o h => .inr h)) (by repeat (first | exact Take.nil | apply Take.cons | apply Take.app | exact Rm.chunk | exact Rm.here | apply Rm.skip | apply Rm.skipS | apply Take.all)) (bytesV_one _) (by omega) (by omega) (fun vp Lp hp => ?_)
  try simp only [List.cons_append, List.nil_append, List.append_assoc]
  refine WP.val rfl rfl rfl rfl (Yld.assign rfl rfl) ?_
  refine WP.nil ?_
  refine WP.sub [(0, _), (1, _), (2, _), (6, _), (7, _), (8, _)] ?_ ⟨rfl, rfl, rfl, rfl, rfl, rfl, trivial⟩
  refine WP.next ?_
  refine WP.seq ?_
  refine WP.region [0, 1, 2, 3] rfl ?_
  refine WP.val rfl rfl rfl rfl (Yld.move rfl rfl) ?_
  refine WP.val rfl rfl rfl rfl (Yld.move rfl rfl) ?_
  refine WP.loud rfl rfl ?_
  refine Op.append rfl ty_sl_23 ty_el_23 rfl rfl rfl rfl rfl hp (hb.mono (fun b o h => .inr h)) (by repeat (first | exact Take.nil | apply Take.cons | apply Take.app | exact Rm.chunk | exact Rm.here | apply Rm.skip | apply Rm.skipS | apply Take.all)) (bytesV_one _) (by omega) (by omega) (fun vq Lq hq => ?_)
  try simp only [List.cons_append, List.nil_append, List.append_assoc]
  refine WP.val rfl rfl rfl rfl (Yld.assign rfl rfl) ?_
  refine WP.nil ?_
  refine WP.sub [(0, _), (1, _), (2, _), (6, _), (7, _), (8, _)] ?_ ⟨rfl, rfl, rfl, rfl, rfl, rfl, trivial⟩
  rw [List.nil_append, Nat.zero_add, ← bytesV_app, ← List.length_append] at hq
  refine WP.shareOwn hq (by repeat (first | exact Take.nil | apply Take.cons | apply Take.app | exact Rm.chunk | exact Rm.here | apply Rm.skip | apply Rm.skipS | apply Take.all)) (fun J1 hJ1 r8 => ?_)
  have ha := ha.mono (im_mono hJ1)
  have hb := hb.mono (im_mono hJ1)
  have ht := ht.mono (im_mono hJ1)
  refine WP.next ?_
  refine WP.seq ?_
  refine WP.region [0, 1, 2, 3, 4, 5, 6, 7, 8, 9, 10, 11, 12, 13, 14, 15] rfl ?_
  refine WP.val rfl rfl rfl rfl (Yld.move rfl rfl) ?_
  refine WP.loud rfl rfl ?_
  refine Op.call (crc_Of ha (by omega)) rfl Try.func10 rfl rfl rfl rfl (by repeat (first | exact Take.nil | apply Take.cons | apply Take.app | exact Rm.chunk | exact Rm.here | apply Rm.skip | apply Rm.skipS | apply Take.all)) ?_
  rintro v J L1 hJ ⟨rfl, rfl, rfl⟩
  clear hJ; try simp only [List.cons_append, List.nil_append, List.append_assoc]
  refine WP.val rfl rfl rfl rfl (Yld.move rfl rfl) ?_
  refine WP.loud rfl rfl ?_
  refine Op.call (crc_Add hb (by omega) (s := crcOf a)) rfl Try.func11 rfl rfl rfl rfl (by repeat (first | exact Take.nil | apply Take.cons | apply Take.app | exact Rm.chunk | exact Rm.here | apply Rm.skip | apply Rm.skipS | apply Take.all)) ?_
  rintro v J L1 hJ ⟨rfl, rfl, rfl⟩
  clear hJ; try simp only [List.cons_append, List.nil_append, List.append_assoc]
  refine WP.val rfl rfl rfl rfl (Yld.move rfl rfl) ?_
  refine WP.loud rfl rfl ?_
  refine Op.call (crc_Of r8 (by rw [List.length_append]; omega)) rfl Try.func10 rfl rfl rfl rfl (by repeat (first | exact Take.nil | apply Take.cons | apply Take.app | exact Rm.chunk | exact Rm.here | apply Rm.skip | apply Rm.skipS | apply Take.all)) ?_
  rintro v J L1 hJ ⟨rfl, rfl, rfl⟩
  clear hJ; try simp only [List.cons_append, List.nil_append, List.append_assoc]
  refine WP.val rfl rfl rfl rfl (Yld.eql rfl rfl rfl true (decide_eq_true (by rw [crc_joins]))) ?_
  refine WP.val rfl rfl rfl rfl (Yld.move rfl rfl) ?_
  refine WP.valG rfl rfl rfl rfl rfl rfl rfl (Yld.move rfl rfl) ?_
  refine WP.loudG rfl rfl rfl rfl rfl ?_
  refine Op.call (crc_Of ha (by omega)) rfl Try.func10 rfl rfl rfl rfl (by repeat (first | exact Take.nil | apply Take.cons | apply Take.app | exact Rm.chunk | exact Rm.here | apply Rm.skip | apply Rm.skipS | apply Take.all)) ?_
  rintro v J L1 hJ ⟨rfl, rfl, rfl⟩
  clear hJ; try simp only [List.cons_append, List.nil_append, List.append_assoc]
  refine WP.loudG rfl rfl rfl rfl rfl ?_
  refine Op.call (crc_Add (show SlRd _ (.slice none 0 0) ([] : List UInt8).length 1 (bytesV []) from ⟨none, 0, rfl, Nat.le_refl _, rfl, .inl rfl⟩) (Nat.zero_le _) (s := crcOf a)) rfl Try.func11 rfl rfl rfl rfl (by repeat (first | exact Take.nil | apply Take.cons | apply Take.app | exact Rm.chunk | exact Rm.here | apply Rm.skip | apply Rm.skipS | apply Take.all)) ?_
  rintro v J L1 hJ ⟨rfl, rfl, rfl⟩
  clear hJ; try simp only [List.cons_append, List.nil_append, List.append_assoc]
  refine WP.valG rfl rfl rfl rfl rfl rfl rfl (Yld.move rfl rfl) ?_
  refine WP.loudG rfl rfl rfl rfl rfl ?_
  refine Op.call (crc_Of ha (by omega)) rfl Try.func10 rfl rfl rfl rfl (by repeat (first | exact Take.nil | apply Take.cons | apply Take.app | exact Rm.chunk | exact Rm.here | apply Rm.skip | apply Rm.skipS | apply Take.all)) ?_
  rintro v J L1 hJ ⟨rfl, rfl, rfl⟩
  clear hJ; try simp only [List.cons_append, List.nil_append, List.append_assoc]
  refine WP.valG rfl rfl rfl rfl rfl rfl rfl (Yld.eql rfl rfl rfl true (decide_eq_true (by rw [crc_joins0]))) ?_
  refine WP.val rfl rfl rfl rfl (Yld.pickT rfl rfl rfl) ?_
  refine WP.val rfl rfl rfl rfl (Yld.assign rfl rfl) ?_
  refine WP.nil ?_
  refine WP.sub [(0, _), (1, _), (2, _), (6, _), (7, _), (8, _), (9, _)] ?_ ⟨rfl, rfl, rfl, rfl, rfl, rfl, rfl, trivial⟩
  refine WP.next ?_
  refine WP.seq ?_
  refine WP.region [0, 1, 2] rfl ?_
  refine WP.val rfl rfl rfl rfl (Yld.move rfl rfl) ?_
  refine WP.loud rfl rfl ?_
  refine Op.call (crc_Frame ha (by omega)) rfl Try.func15 rfl rfl rfl rfl (by repeat (first | exact Take.nil | apply Take.cons | apply Take.app | exact Rm.chunk | exact Rm.here | apply Rm.skip | apply Rm.skipS | apply Take.all)) ?_
  rintro v J Lf hJ ⟨rfl, hf⟩
  clear hJ; try simp only [List.cons_append, List.nil_append, List.append_assoc]
  try simp only [List.cons_append, List.nil_append, List.append_assoc]
  refine WP.val rfl rfl rfl rfl (Yld.assign rfl rfl) ?_
  refine WP.nil ?_
  refine WP.sub [(0, _), (1, _), (2, _), (6, _), (7, _), (8, _), (9, _), (10, _)] ?_ ⟨rfl, rfl, rfl, rfl, rfl, rfl, rfl, rfl, trivial⟩
  refine WP.shareOwn hf (by repeat (first | exact Take.nil | apply Take.cons | apply Take.app | exact Rm.chunk | exact Rm.here | apply Rm.skip | apply Rm.skipS | apply Take.all)) (fun J2 hJ2 rf => ?_)
  have ha := ha.mono (im_mono hJ2)
  have hb := hb.mono (im_mono hJ2)
  have ht := ht.mono (im_mono hJ2)
  refine WP.next ?_
  refine WP.seq ?_
  refine WP.region [0, 1, 2] rfl ?_
  refine WP.val rfl rfl rfl rfl (Yld.move rfl rfl) ?_
  refine WP.loud rfl rfl ?_
  refine Op.call (crc_Frame hb (by omega)) rfl Try.func15 rfl rfl rfl rfl (by repeat (first | exact Take.nil | apply Take.cons | apply Take.app | exact Rm.chunk | exact Rm.here | apply Rm.skip | apply Rm.skipS | apply Take.all)) ?_
  rintro v J Lg hJ ⟨rfl, hg⟩
  clear hJ; try simp only [List.cons_append, List.nil_append, List.append_assoc]
  try simp only [List.cons_append, List.nil_append, List.append_assoc]
  refine WP.val rfl rfl rfl rfl (Yld.assign rfl rfl) ?_
  refine WP.nil ?_
  refine WP.sub [(0, _), (1, _), (2, _), (6, _), (7, _), (8, _), (9, _), (10, _), (11, _)] ?_ ⟨rfl, rfl, rfl, rfl, rfl, rfl, rfl, rfl, rfl, trivial⟩
  have rf := rf.mono (fun b o h => h)
  refine WP.shareOwn hg (by repeat (first | exact Take.nil | apply Take.cons | apply Take.app | exact Rm.chunk | exact Rm.here | apply Rm.skip | apply Rm.skipS | apply Take.all)) (fun J3 hJ3 rg => ?_)
  have ha := ha.mono (im_mono hJ3)
  have hb := hb.mono (im_mono hJ3)
  have ht := ht.mono (im_mono hJ3)
  have rf := rf.mono (im_mono hJ3)
  have fla := frame_len a
  have flb := frame_len b
  refine WP.next ?_
  refine WP.seq ?_
  refine WP.region [0, 1, 2] rfl ?_
  refine WP.val rfl rfl rfl rfl (Yld.move rfl rfl) ?_
  refine WP.loud rfl rfl ?_
  refine Op.append rfl ty_sl_23 ty_el_23 rfl rfl rfl rfl rfl .none0 (rf.mono (fun b o h => .inr h)) (by repeat (first | exact Take.nil | apply Take.cons | apply Take.app | exact Rm.chunk | exact Rm.here | apply Rm.skip | apply Rm.skipS | apply Take.all)) (bytesV_one _) (by omega) (by omega) (fun vx Lx hx => ?_)
  try simp only [List.cons_append, List.nil_append, List.append_assoc]
  refine WP.val rfl rfl rfl rfl (Yld.assign rfl rfl) ?_
  refine WP.nil ?_
  refine WP.sub [(0, _), (1, _), (2, _), (6, _), (7, _), (8, _), (9, _), (10, _), (11, _), (12, _)] ?_ ⟨rfl, rfl, rfl, rfl, rfl, rfl, rfl, rfl, rfl, rfl, trivial⟩
  refine WP.next ?_
  refine WP.seq ?_
  refine WP.region [0, 1, 2, 3] rfl ?_
  refine WP.val rfl rfl rfl rfl (Yld.move rfl rfl) ?_
  refine WP.val rfl rfl rfl rfl (Yld.move rfl rfl) ?_
  refine WP.loud rfl rfl ?_
  refine Op.append rfl ty_sl_23 ty_el_23 rfl rfl rfl rfl rfl hx (rg.mono (fun b o h => .inr h)) (by repeat (first | exact Take.nil | apply Take.cons | apply Take.app | exact Rm.chunk | exact Rm.here | apply Rm.skip | apply Rm.skipS | apply Take.all)) (bytesV_one _) (by omega) (by omega) (fun vy Ly hy => ?_)
  try simp only [List.cons_append, List.nil_append, List.append_assoc]
  refine WP.val rfl rfl rfl rfl (Yld.assign rfl rfl) ?_
  refine WP.nil ?_
  refine WP.sub [(0, _), (1, _), (2, _), (6, _), (7, _), (8, _), (9, _), (10, _), (11, _), (12, _)] ?_ ⟨rfl, rfl, rfl, rfl, rfl, rfl, rfl, rfl, rfl, rfl, trivial⟩
  refine WP.next ?_
  refine WP.seq ?_
  refine WP.region [0, 1, 2, 3] rfl ?_
  refine WP.val rfl rfl rfl rfl (Yld.move rfl rfl) ?_
  refine WP.val rfl rfl rfl rfl (Yld.move rfl rfl) ?_
  refine WP.loud rfl rfl ?_
  refine Op.append rfl ty_sl_23 ty_el_23 rfl rfl rfl rfl rfl hy (ht.mono (fun b o h => .inr h)) (by repeat (first | exact Take.nil | apply Take.cons | apply Take.app | exact Rm.chunk | exact Rm.here | apply Rm.skip | apply Rm.skipS | apply Take.all)) (bytesV_one _) (by omega) (by omega) (fun vz Lz hz => ?_)
  try simp only [List.cons_append, List.nil_append, List.append_assoc]
  refine WP.val rfl rfl rfl rfl (Yld.assign rfl rfl) ?_
  refine WP.nil ?_
  refine WP.sub [(0, _), (1, _), (2, _), (6, _), (7, _), (8, _), (9, _), (10, _), (11, _), (12, _)] ?_ ⟨rfl, rfl, rfl, rfl, rfl, rfl, rfl, rfl, rfl, rfl, trivial⟩
  have ez : [] ++ bytesV (frame a) ++ bytesV (frame b) ++ bytesV t = bytesV (frame a ++ (frame b ++ t)) := by simp [bytesV]
  have el : 0 + (frame a).length + (frame b).length + t.length = (frame a ++ (frame b ++ t)).length := by simp; omega
  rw [ez, el] at hz
  refine WP.shareOwn hz (by repeat (first | exact Take.nil | apply Take.cons | apply Take.app | exact Rm.chunk | exact Rm.here | apply Rm.skip | apply Rm.skipS | apply Take.all)) (fun J4 hJ4 rz => ?_)
  have ha := ha.mono (im_mono hJ4)
  have hb := hb.mono (im_mono hJ4)
  have ht := ht.mono (im_mono hJ4)
  refine WP.next ?_
  refine WP.seq ?_
  refine WP.region [0, 1, 2, 3, 4, 5, 6, 7, 8, 9, 10] rfl ?_
  refine WP.val rfl rfl rfl rfl (Yld.move rfl rfl) ?_
  refine WP.val rfl rfl rfl rfl (Yld.move rfl rfl) ?_
  refine WP.val rfl rfl rfl rfl (Yld.lenR ha rfl ty_sl_23 rfl) ?_
  refine WP.loud rfl rfl ?_
  refine Op.call (crc_Unframe rz (by simp only [List.length_append]; omega) (most := (a.length : Int))) rfl Try.func17 rfl rfl rfl rfl (by repeat (first | exact Take.nil | apply Take.cons | apply Take.app | exact Rm.chunk | exact Rm.here | apply Rm.skip | apply Rm.skipS | apply Take.all)) ?_
  rintro v J L1 hJ ⟨rfl, w1, w2, M1, M2, rfl, o1, o2, rfl⟩
  clear hJ; try simp only [List.cons_append, List.nil_append, List.append_assoc]
  rw [unframe_frame a _ (by omega)] at o1 o2 ⊢
  try dsimp only at o1 o2 ⊢
  try simp only [List.cons_append, List.nil_append, List.append_assoc]
  refine WP.val rfl rfl rfl rfl (Yld.move rfl rfl) ?_
  refine WP.val rfl rfl rfl rfl (Yld.extract rfl rfl rfl) ?_
  refine WP.val rfl rfl rfl rfl (Yld.extract rfl rfl rfl) ?_
  refine WP.val rfl rfl rfl rfl (Yld.extract rfl rfl rfl) ?_
  refine WP.val rfl rfl rfl rfl (Yld.assign rfl rfl) ?_
  refine WP.val rfl rfl rfl rfl (Yld.assign rfl rfl) ?_
  refine WP.val rfl rfl rfl rfl (Yld.assign rfl rfl) ?_
  refine WP.nil ?_
  refine WP.sub [(0, _), (1, _), (2, _), (6, _), (7, _), (8, _), (9, _), (10, _), (11, _), (12, _), (13, _), (14, _), (15, _)] ?_ ⟨rfl, rfl, rfl, rfl, rfl, rfl, rfl, rfl, rfl, rfl, rfl, rfl, rfl, trivial⟩
  refine WP.shareOwn o1 (by repeat (first | exact Take.nil | apply Take.cons | apply Take.app | exact Rm.chunk | exact Rm.here | apply Rm.skip | apply Rm.skipS | apply Take.all)) (fun J5 hJ5 q1 => ?_)
  have ha := ha.mono (im_mono hJ5)
  have hb := hb.mono (im_mono hJ5)
  have ht := ht.mono (im_mono hJ5)
  refine WP.shareOwn o2 (by repeat (first | exact Take.nil | apply Take.cons | apply Take.app | exact Rm.chunk | exact Rm.here | apply Rm.skip | apply Rm.skipS | apply Take.all)) (fun J6 hJ6 q2 => ?_)
  have ha := ha.mono (im_mono hJ6)
  have hb := hb.mono (im_mono hJ6)
  have ht := ht.mono (im_mono hJ6)
  have q1 := q1.mono (im_mono hJ6)
  refine WP.next ?_
  refine WP.seq ?_
  refine WP.region [0, 1, 2, 3, 4, 5, 6, 7, 8, 9, 10] rfl ?_
  refine WP.val rfl rfl rfl rfl (Yld.move rfl rfl) ?_
  refine WP.val rfl rfl rfl rfl (Yld.move rfl rfl) ?_
  refine WP.val rfl rfl rfl rfl (Yld.lenR hb rfl ty_sl_23 rfl) ?_
  refine WP.loud rfl rfl ?_
  refine Op.call (crc_Unframe q2 (by simp only [List.length_append]; omega) (most := (b.length : Int))) rfl Try.func17 rfl rfl rfl rfl (by repeat (first | exact Take.nil | apply Take.cons | apply Take.app | exact Rm.chunk | exact Rm.here | apply Rm.skip | apply Rm.skipS | apply Take.all)) ?_
  rintro v J L1 hJ ⟨rfl, w3, w4, M3, M4, rfl, o3, o4, rfl⟩
  clear hJ; try simp only [List.cons_append, List.nil_append, List.append_assoc]
  rw [unframe_frame b _ (by omega)] at o3 o4 ⊢
  try dsimp only at o3 o4 ⊢
  try simp only [List.cons_append, List.nil_append, List.append_assoc]
  refine WP.val rfl rfl rfl rfl (Yld.move rfl rfl) ?_
  refine WP.val rfl rfl rfl rfl (Yld.extract rfl rfl rfl) ?_
  refine WP.val rfl rfl rfl rfl (Yld.extract rfl rfl rfl) ?_
  refine WP.val rfl rfl rfl rfl (Yld.extract rfl rfl rfl) ?_
  refine WP.val rfl rfl rfl rfl (Yld.assign rfl rfl) ?_
  refine WP.val rfl rfl rfl rfl (Yld.assign rfl rfl) ?_
  refine WP.val rfl rfl rfl rfl (Yld.assign rfl rfl) ?_
  refine WP.nil ?_
  refine WP.sub [(0, _), (1, _), (2, _), (6, _), (7, _), (8, _), (9, _), (10, _), (11, _), (12, _), (13, _), (14, _), (15, _), (16, _), (17, _), (18, _)] ?_ ⟨rfl, rfl, rfl, rfl, rfl, rfl, rfl, rfl, rfl, rfl, rfl, rfl, rfl, rfl, rfl, rfl, trivial⟩
  refine WP.shareOwn o3 (by repeat (first | exact Take.nil | apply Take.cons | apply Take.app | exact Rm.chunk | exact Rm.here | apply Rm.skip | apply Rm.skipS | apply Take.all)) (fun J7 hJ7 q3 => ?_)
  have ha := ha.mono (im_mono hJ7)
  have hb := hb.mono (im_mono hJ7)
  have ht := ht.mono (im_mono hJ7)
  refine WP.shareOwn o4 (by repeat (first | exact Take.nil | apply Take.cons | apply Take.app | exact Rm.chunk | exact Rm.here | apply Rm.skip | apply Rm.skipS | apply Take.all)) (fun J8 hJ8 q4 => ?_)
  have ha := ha.mono (im_mono hJ8)
  have hb := hb.mono (im_mono hJ8)
  have ht := ht.mono (im_mono hJ8)
  have q1 := (q1.mono (im_mono hJ7)).mono (im_mono hJ8)
  have q3 := q3.mono (im_mono hJ8)
  refine WP.next ?_
  refine WP.seq ?_
  refine WP.region [0, 1, 2, 3, 4, 5, 6, 7, 8, 9, 10, 11, 12, 13, 14, 15, 16, 17, 18, 19, 20, 21, 22, 23, 24, 25, 26, 27, 28, 29, 30, 31, 32, 33] rfl ?_
  refine WP.val rfl rfl rfl rfl (Yld.move rfl rfl) ?_
  refine WP.val rfl rfl rfl rfl (Yld.move rfl rfl) ?_
  refine WP.valG rfl rfl rfl rfl rfl rfl rfl (Yld.move rfl rfl) ?_
  refine WP.val rfl rfl rfl rfl (Yld.pickT rfl rfl rfl) ?_
  refine WP.val rfl rfl rfl rfl (Yld.move rfl rfl) ?_
  refine WP.valG rfl rfl rfl rfl rfl rfl rfl (Yld.move rfl rfl) ?_
  refine WP.valG rfl rfl rfl rfl rfl rfl rfl (Yld.eql rfl rfl rfl true (decide_eq_true (by rfl))) ?_
  refine WP.val rfl rfl rfl rfl (Yld.pickT rfl rfl rfl) ?_
  refine WP.val rfl rfl rfl rfl (Yld.move rfl rfl) ?_
  refine WP.valG rfl rfl rfl rfl rfl rfl rfl (Yld.move rfl rfl) ?_
  refine WP.valG rfl rfl rfl rfl rfl rfl rfl (Yld.eql rfl rfl rfl true (decide_eq_true (by rfl))) ?_
  refine WP.val rfl rfl rfl rfl (Yld.pickT rfl rfl rfl) ?_
  refine WP.val rfl rfl rfl rfl (Yld.move rfl rfl) ?_
  refine WP.valG rfl rfl rfl rfl rfl rfl rfl (Yld.move rfl rfl) ?_
  refine WP.valG rfl rfl rfl rfl rfl rfl rfl (Yld.str (e := 5) rfl (by kernel_rfl) (by kernel_rfl) (by kernel_rfl) rfl (q1.mono (fun b o h => .inr h))) ?_
  refine WP.valG rfl rfl rfl rfl rfl rfl rfl (Yld.move rfl rfl) ?_
  refine WP.valG rfl rfl rfl rfl rfl rfl rfl (Yld.str (e := 5) rfl (by kernel_rfl) (by kernel_rfl) (by kernel_rfl) rfl (ha.mono (fun b o h => .inr h))) ?_
  refine WP.valG rfl rfl rfl rfl rfl rfl rfl (Yld.eqlStr rfl rfl rfl true (by simp)) ?_
  refine WP.val rfl rfl rfl rfl (Yld.pickT rfl rfl rfl) ?_
  refine WP.val rfl rfl rfl rfl (Yld.move rfl rfl) ?_
  refine WP.valG rfl rfl rfl rfl rfl rfl rfl (Yld.move rfl rfl) ?_
  refine WP.valG rfl rfl rfl rfl rfl rfl rfl (Yld.str (e := 5) rfl (by kernel_rfl) (by kernel_rfl) (by kernel_rfl) rfl (q3.mono (fun b o h => .inr h))) ?_
  refine WP.valG rfl rfl rfl rfl rfl rfl rfl (Yld.move rfl rfl) ?_
  refine WP.valG rfl rfl rfl rfl rfl rfl rfl (Yld.str (e := 5) rfl (by kernel_rfl) (by kernel_rfl) (by kernel_rfl) rfl (hb.mono (fun b o h => .inr h))) ?_
  refine WP.valG rfl rfl rfl rfl rfl rfl rfl (Yld.eqlStr rfl rfl rfl true (by simp)) ?_
  refine WP.val rfl rfl rfl rfl (Yld.pickT rfl rfl rfl) ?_
  refine WP.val rfl rfl rfl rfl (Yld.move rfl rfl) ?_
  refine WP.valG rfl rfl rfl rfl rfl rfl rfl (Yld.move rfl rfl) ?_
  refine WP.valG rfl rfl rfl rfl rfl rfl rfl (Yld.str (e := 5) rfl (by kernel_rfl) (by kernel_rfl) (by kernel_rfl) rfl (q4.mono (fun b o h => .inr h))) ?_
  refine WP.valG rfl rfl rfl rfl rfl rfl rfl (Yld.move rfl rfl) ?_
  refine WP.valG rfl rfl rfl rfl rfl rfl rfl (Yld.str (e := 5) rfl (by kernel_rfl) (by kernel_rfl) (by kernel_rfl) rfl (ht.mono (fun b o h => .inr h))) ?_
  refine WP.valG rfl rfl rfl rfl rfl rfl rfl (Yld.eqlStr rfl rfl rfl true (by simp)) ?_
  refine WP.val rfl rfl rfl rfl (Yld.pickT rfl rfl rfl) ?_
  refine WP.val rfl rfl rfl rfl (Yld.assign rfl rfl) ?_
  refine WP.nil ?_
  refine WP.sub [(0, _), (1, _), (2, _), (6, _), (7, _), (8, _), (9, _), (10, _), (11, _), (12, _), (13, _), (14, _), (15, _), (16, _), (17, _), (18, _)] ?_ ⟨rfl, rfl, rfl, rfl, rfl, rfl, rfl, rfl, rfl, rfl, rfl, rfl, rfl, rfl, rfl, rfl, trivial⟩
  refine WP.back (Imm.le_trans hJ1 (Imm.le_trans hJ2 (Imm.le_trans hJ3 (Imm.le_trans hJ4 (Imm.le_trans hJ5 (Imm.le_trans hJ6 (Imm.le_trans hJ7 hJ8))))))) ?_
  refine WP.next ?_
  refine WP.ret ?_
  refine WP.fin .ret (.inr rfl) (res1 rfl rfl) [] (by repeat (first | exact Take.nil | apply Take.cons | apply Take.app | exact Rm.chunk | exact Rm.here | apply Rm.skip | apply Rm.skipS | apply Take.all)) (by repeat (first | exact Leave.done | apply Leave.drop | apply Leave.dropS)) (Imm.le_refl _) ?_
  exact ⟨rfl, rfl, rfl⟩


end Go.Hp
