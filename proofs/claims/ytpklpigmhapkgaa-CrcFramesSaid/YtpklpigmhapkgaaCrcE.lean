import Derived.Test.YtpklpigmhapkgaaCrcD
set_option linter.unusedVariables false
set_option linter.unusedSimpArgs false
namespace Go.Hp
open Go Go.Proofs

def frame (bs : List UInt8) : List UInt8 := four (BitVec.ofNat 32 bs.length) ++ (four (crcAdd (crcOf (four (BitVec.ofNat 32 bs.length))) bs) ++ bs)
theorem im_mono {I J : Imm} (h : I.le J) (b : Nat) (o : Obj) (hb : I.blk b = some o) : J.blk b = some o := h.2 b o hb
theorem crc_Frame {I : Imm} {bs : List UInt8} {vb : Value} (hb : SlRd (fun b o => I.blk b = some o) vb bs.length 1 (bytesV bs)) (hbl : bs.length ≤ 140737488355320) : Spec Try.prog 15 [vb] I [] (fun v J L => I = J ∧ Own 5 1 v (bytesV (frame bs)) (frame bs).length L) := by
  refine Spec.of Try.func15 rfl Try.ntmps15 (Nat.le_of_ble_eq_true rfl) (fun F => ?_)
  try simp only [List.cons_append, List.nil_append, List.append_assoc]
  dsimp only [argsEnv]
  refine WP.seq ?_
  refine WP.region [0] rfl ?_
  refine WP.val rfl rfl rfl rfl (Yld.assign rfl rfl) ?_
  refine WP.nil ?_
  refine WP.next ?_
  refine WP.seq ?_
  refine WP.region [0, 1, 2, 3, 4] rfl ?_
  refine WP.val rfl rfl rfl rfl (Yld.move rfl rfl) ?_
  refine WP.val rfl rfl rfl rfl (Yld.lenR hb rfl ty_sl_23 rfl) ?_
  refine WP.val rfl rfl rfl rfl (Yld.conv64_32 bs.length rfl ty_un_3 ty_ik_22 rfl) ?_
  refine WP.loud rfl rfl ?_
  refine Op.call crc_put rfl Try.func20 rfl rfl rfl rfl (by repeat (first | exact Take.nil | apply Take.cons | apply Take.app | exact Rm.chunk | exact Rm.here | apply Rm.skip | apply Rm.skipS | apply Take.all)) ?_
  rintro v J L1 hJ ⟨rfl, b1, rfl, rfl⟩
  clear hJ; try simp only [List.cons_append, List.nil_append, List.append_assoc]
  refine WP.share (fun J1 hJ1 hb1 => ?_)
  have hb' := hb.mono (im_mono hJ1)
  refine WP.val rfl rfl rfl rfl (Yld.assign rfl rfl) ?_
  refine WP.nil ?_
  refine WP.sub [(0, _), (2, _), (3, _)] ?_ ⟨rfl, rfl, rfl, trivial⟩
  refine WP.next ?_
  refine WP.seq ?_
  refine WP.region [0, 1, 2, 3, 4, 5, 6, 7, 8, 9] rfl ?_
  refine WP.val rfl rfl rfl rfl (Yld.move rfl rfl) ?_
  refine WP.val rfl rfl rfl rfl (Yld.move rfl rfl) ?_
  refine WP.loud rfl rfl ?_
  refine Op.call (crc_Of (Im_lit (l := four (BitVec.ofNat 32 bs.length)) (sp := []) (c := 4) (by rw [List.append_nil]; exact hb1) (Nat.le_refl _)) (Nat.le_of_ble_eq_true rfl)) rfl Try.func10 rfl rfl rfl rfl (by repeat (first | exact Take.nil | apply Take.cons | apply Take.app | exact Rm.chunk | exact Rm.here | apply Rm.skip | apply Rm.skipS | apply Take.all)) ?_
  rintro v J L1 hJ ⟨rfl, rfl, rfl⟩
  clear hJ; try simp only [List.cons_append, List.nil_append, List.append_assoc]
  refine WP.val rfl rfl rfl rfl (Yld.move rfl rfl) ?_
  refine WP.loud rfl rfl ?_
  refine Op.call (crc_Add hb' (by omega) (s := crcOf (four (BitVec.ofNat 32 bs.length)))) rfl Try.func11 rfl rfl rfl rfl (by repeat (first | exact Take.nil | apply Take.cons | apply Take.app | exact Rm.chunk | exact Rm.here | apply Rm.skip | apply Rm.skipS | apply Take.all)) ?_
  rintro v J L1 hJ ⟨rfl, rfl, rfl⟩
  clear hJ; try simp only [List.cons_append, List.nil_append, List.append_assoc]
  refine WP.loud rfl rfl ?_
  refine Op.call crc_put rfl Try.func20 rfl rfl rfl rfl (by repeat (first | exact Take.nil | apply Take.cons | apply Take.app | exact Rm.chunk | exact Rm.here | apply Rm.skip | apply Rm.skipS | apply Take.all)) ?_
  rintro v J L1 hJ ⟨rfl, b2, rfl, rfl⟩
  clear hJ; try simp only [List.cons_append, List.nil_append, List.append_assoc]
  refine WP.share (fun J2 hJ2 hb2 => ?_)
  have hb'' := hb'.mono (im_mono hJ2)
  have hb1' := hJ2.2 _ _ hb1
  refine WP.val rfl rfl rfl rfl (Yld.move rfl rfl) ?_
  refine WP.loud rfl rfl ?_
  refine Op.buildSlice rfl ty_sl_42 ty_el2_42 rfl rfl rfl rfl (vs := [_, _, _]) rfl (segs := [(0, [_]), (1, [_]), (2, [vb])]) (cs := ([(.slice (some ⟨b1, 0, none⟩) 4 4, four (BitVec.ofNat 32 bs.length)), (.slice (some ⟨b2, 0, none⟩) 4 4, four (crcAdd (crcOf (four (BitVec.ofNat 32 bs.length))) bs)), (vb, bs)]).map (·.1)) rfl (by obtain ⟨_, _, rfl, _⟩ := hb; rfl) (by repeat (first | exact SetSeg.nil | apply SetSeg.one | exact SetAt.zero | apply SetAt.succ)) (fun bx => ?_)
  refine WP.loud rfl rfl ?_
  refine Op.call (slices_Concat (bx := bx) (ls := [(.slice (some ⟨b1, 0, none⟩) 4 4, four (BitVec.ofNat 32 bs.length)), (.slice (some ⟨b2, 0, none⟩) 4 4, four (crcAdd (crcOf (four (BitVec.ofNat 32 bs.length))) bs)), (vb, bs)]) (by intro e he; simp only [List.mem_cons, List.not_mem_nil, or_false] at he; rcases he with rfl | rfl | rfl; exact (Im_lit (l := four (BitVec.ofNat 32 bs.length)) (sp := []) (c := 4) (by rw [List.append_nil]; exact hb1') (Nat.le_refl _)); exact (Im_lit (l := four (crcAdd (crcOf (four (BitVec.ofNat 32 bs.length))) bs)) (sp := []) (c := 4) (by rw [List.append_nil]; exact hb2) (Nat.le_refl _)); exact hb'') (by simp [total, four] <;> omega) (by simp [total, four] <;> omega) (Nat.le_of_ble_eq_true rfl)) rfl Try.func21 rfl rfl rfl rfl (by repeat (first | exact Take.nil | apply Take.cons | apply Take.app | exact Rm.chunk | exact Rm.here | apply Rm.skip | apply Rm.skipS | apply Take.all)) ?_
  rintro v J Lo hJ ⟨rfl, hown⟩
  clear hJ; try simp only [List.cons_append, List.nil_append, List.append_assoc]
  refine WP.back (Imm.le_trans hJ1 hJ2) ?_
  refine WP.val rfl rfl rfl rfl (Yld.assign rfl rfl) ?_
  refine WP.nil ?_
  refine WP.sub [(0, _), (2, _), (3, _)] ?_ ⟨rfl, rfl, rfl, trivial⟩
  refine WP.next ?_
  refine WP.ret ?_
  refine WP.fin .ret (.inr rfl) (res1 rfl rfl) (Lo ++ []) (by repeat (first | exact Take.nil | apply Take.cons | apply Take.app | exact Rm.chunk | exact Rm.here | apply Rm.skip | apply Rm.skipS | apply Take.all)) (by repeat (first | exact Leave.done | apply Leave.drop | apply Leave.dropS)) (Imm.le_refl _) ?_
  refine ⟨rfl, ?_⟩
  have e : ([(.slice (some ⟨b1, 0, none⟩) 4 4, four (BitVec.ofNat 32 bs.length)), (.slice (some ⟨b2, 0, none⟩) 4 4, four (crcAdd (crcOf (four (BitVec.ofNat 32 bs.length))) bs)), (vb, bs)] : List (Value × List UInt8)).flatMap (·.2) = frame bs := by simp [frame]
  have e2 : total ([(.slice (some ⟨b1, 0, none⟩) 4 4, four (BitVec.ofNat 32 bs.length)), (.slice (some ⟨b2, 0, none⟩) 4 4, four (crcAdd (crcOf (four (BitVec.ofNat 32 bs.length))) bs)), (vb, bs)] : List (Value × List UInt8)) = (frame bs).length := by unfold total; rw [e]
  rw [e, e2] at hown
  simpa using hown


end Go.Hp
