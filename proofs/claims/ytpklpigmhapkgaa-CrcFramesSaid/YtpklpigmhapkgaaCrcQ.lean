import Derived.Test.YtpklpigmhapkgaaCrcP
set_option linter.unusedVariables false
set_option linter.unusedSimpArgs false
namespace Go.Hp
open Go Go.Proofs
theorem crc_lent {I : Imm} {bs : List UInt8} {vb : Value} (hb : SlRd (fun b o => I.blk b = some o) vb bs.length 1 (bytesV bs)) (hbl : bs.length ≤ 140737488351232) : Spec Try.prog 9 [vb] I [] (fun v J L => I = J ∧ ∃ b c sp, v = .slice (some ⟨b, 0, none⟩) bs.length c ∧ bs.length + 2 ≤ c ∧ L = [(b, row 5 (bytesV (bs ++ [77, 78]) ++ sp))]) := by
  refine Spec.of Try.func9 rfl Try.ntmps9 (Nat.le_of_ble_eq_true rfl) (fun F => ?_)
  try simp only [List.cons_append, List.nil_append, List.append_assoc]
  dsimp only [argsEnv]
  refine WP.seq ?_
  refine WP.region [0] rfl ?_
  refine WP.val rfl rfl rfl rfl (Yld.assign rfl rfl) ?_
  refine WP.nil ?_
  refine WP.next ?_
  refine WP.seq ?_
  refine WP.region [0, 1, 2] rfl ?_
  refine WP.val rfl rfl rfl rfl (Yld.move rfl rfl) ?_
  refine WP.loud rfl rfl ?_
  refine Op.append rfl ty_sl_23 ty_el_23 rfl rfl rfl rfl rfl .none0 (hb.mono (fun b o h => .inr h)) (by repeat (first | exact Take.nil | apply Take.cons | apply Take.app | exact Rm.chunk | exact Rm.here | apply Rm.skip | apply Rm.skipS | apply Take.all)) (bytesV_one _) (by omega) (by omega) (fun vp Lp hp => ?_)
  try simp only [List.cons_append, List.nil_append, List.append_assoc]
  refine WP.val rfl rfl rfl rfl (Yld.assign rfl rfl) ?_
  refine WP.nil ?_
  refine WP.sub [(0, _), (2, _), (3, _)] ?_ ⟨rfl, rfl, rfl, trivial⟩
  refine WP.next ?_
  refine WP.seq ?_
  refine WP.region [0, 1, 2, 3] rfl ?_
  refine WP.val rfl rfl rfl rfl (Yld.move rfl rfl) ?_
  refine WP.loud rfl rfl ?_
  refine Op.buildSlice rfl ty_sl_23 ty_el2_23 rfl rfl rfl rfl (vs := [_, _]) rfl (segs := [(0, [_]), (1, [_])]) (cs := bytesV [77, 78]) rfl rfl (by repeat (first | exact SetSeg.nil | apply SetSeg.one | exact SetAt.zero | apply SetAt.succ)) (fun bz => ?_)
  refine WP.loud rfl rfl ?_
  refine Op.append rfl ty_sl_23 ty_el_23 rfl rfl rfl rfl rfl hp (SlRd.lit (by repeat (first | exact There.h | exact There.i (by assumption) | apply There.t | apply There.s)) rfl (Nat.le_refl _)) (by repeat (first | exact Take.nil | apply Take.cons | apply Take.app | exact Rm.chunk | exact Rm.here | apply Rm.skip | apply Rm.skipS | apply Take.all)) (bytesV_one _) (by omega) (by omega) (fun vq Lq hq => ?_)
  rw [List.nil_append, Nat.zero_add, ← bytesV_app] at hq
  obtain ⟨bl, cl, sl, rfl, rfl, hq1, hq2⟩ := hq.get (by omega)
  try simp only [List.cons_append, List.nil_append, List.append_assoc]
  refine WP.val rfl rfl rfl rfl (Yld.assign rfl rfl) ?_
  refine WP.nil ?_
  refine WP.sub [(0, _), (2, _), (3, _)] ?_ ⟨rfl, rfl, rfl, trivial⟩
  refine WP.next ?_
  refine WP.seq ?_
  refine WP.region [0, 1, 2, 3, 4] rfl ?_
  refine WP.val rfl rfl rfl rfl (Yld.move rfl rfl) ?_
  refine WP.val rfl rfl rfl rfl (Yld.move rfl rfl) ?_
  refine WP.val rfl rfl rfl rfl (Yld.lenR hb rfl ty_sl_23 rfl) ?_
  refine WP.val rfl rfl rfl rfl (Yld.slice (h := bs.length) rfl ty_sl_23 rfl Env.lim0 (Env.limS rfl) (Nat.zero_le _) (by omega)) ?_
  refine WP.val rfl rfl rfl rfl (Yld.assign rfl rfl) ?_
  refine WP.nil ?_
  refine WP.sub [(0, _), (2, _), (3, _)] ?_ ⟨rfl, rfl, rfl, trivial⟩
  refine WP.next ?_
  refine WP.ret ?_
  refine WP.fin .ret (.inr rfl) (res1 rfl rfl) [(bl, row 5 (bytesV (bs ++ [77, 78]) ++ sl))] (by repeat (first | exact Take.nil | apply Take.cons | apply Take.app | exact Rm.chunk | exact Rm.here | apply Rm.skip | apply Rm.skipS | apply Take.all)) (by repeat (first | exact Leave.done | apply Leave.drop | apply Leave.dropS)) (Imm.le_refl _) ?_
  refine ⟨rfl, bl, cl, sl, ?_, by omega, rfl⟩
  simp only [subSl, Nat.sub_zero]
  rw [if_neg (by omega)]
  rfl

theorem crc_still {I : Imm} {bs : List UInt8} {vb : Value} (hb : SlRd (fun b o => I.blk b = some o) vb bs.length 1 (bytesV bs)) (hbl : bs.length ≤ 1152921504606846976) {b c : Nat} {sp : List Value} (hc : bs.length + 2 ≤ c) (hbl : I.blk b = some (row 5 (bytesV (bs ++ [77, 78]) ++ sp))) : Spec Try.prog 12 [.slice (some ⟨b, 0, none⟩) bs.length c, vb] I [] (fun v J L => v = .bool true ∧ I = J ∧ L = []) := by
  refine Spec.of Try.func12 rfl Try.ntmps12 (Nat.le_of_ble_eq_true rfl) (fun F => ?_)
  try simp only [List.cons_append, List.nil_append, List.append_assoc]
  dsimp only [argsEnv]
  refine WP.seq ?_
  refine WP.region [0] rfl ?_
  refine WP.val rfl rfl rfl rfl (Yld.assign rfl rfl) ?_
  refine WP.nil ?_
  refine WP.next ?_
  refine WP.seq ?_
  refine WP.region [0, 1, 2, 3, 4, 5] rfl ?_
  refine WP.val rfl rfl rfl rfl (Yld.move rfl rfl) ?_
  refine WP.val rfl rfl rfl rfl (Yld.move rfl rfl) ?_
  refine WP.val rfl rfl rfl rfl (Yld.lenR hb rfl ty_sl_23 rfl) ?_
  refine WP.val rfl rfl rfl rfl (Yld.add64 rfl rfl rfl (by omega)) ?_
  refine WP.val rfl rfl rfl rfl (Yld.slice (h := bs.length + 2) rfl ty_sl_23 rfl Env.lim0 (Env.limS rfl) (Nat.zero_le _) (by omega)) ?_
  refine WP.val rfl rfl rfl rfl (Yld.assign rfl rfl) ?_
  refine WP.nil ?_
  refine WP.sub [(0, _), (1, _), (4, _), (5, _)] ?_ ⟨rfl, rfl, rfl, rfl, trivial⟩
  refine WP.next ?_
  refine WP.seq ?_
  have hl2 : SlRd (fun b o => I.blk b = some o) (.slice (some ⟨b, 0, none⟩) (bs.length) c) bs.length 1 (bytesV bs) := ⟨_, _, rfl, by omega, by rw [bytesV_len, Nat.mul_one], .inr ⟨b, 0, _, (0, 0), _, rfl, hbl, by simp [bytesV_app, bytesV_len]⟩⟩
  rw [show subSl 1 0 (bs.length + 2) (.slice (some ⟨b, 0, none⟩) bs.length c) = .slice (some ⟨b, 0, none⟩) (bs.length + 2) c from by simp only [subSl, Nat.sub_zero]; rw [if_neg (by omega)]; rfl]
  refine WQ.startAll Trymixed (by kernel_rfl) _ rfl ?_
  refine WQ.val rfl rfl rfl (Yld.move rfl rfl) ?_
  refine WQ.val rfl rfl rfl (Yld.move rfl rfl) ?_
  refine WQ.val rfl rfl rfl (Yld.lenR hb rfl ty_sl_23 rfl) ?_
  refine WQ.val rfl rfl rfl (Yld.slice (h := bs.length) rfl ty_sl_23 rfl Env.lim0 (Env.limS rfl) (Nat.zero_le _) (by omega)) ?_
  refine WQ.val rfl rfl rfl (Yld.str (e := 5) rfl (by kernel_rfl) (by kernel_rfl) (by kernel_rfl) (congrArg some (show subSl 1 0 bs.length (.slice (some ⟨b, 0, none⟩) bs.length c) = .slice (some ⟨b, 0, none⟩) bs.length c from by simp only [subSl, Nat.sub_zero]; rw [if_neg (by omega)]; rfl)) (hl2.mono (fun b o h => .inr h))) ?_
  refine WQ.val rfl rfl rfl (Yld.move rfl rfl) ?_
  refine WQ.val rfl rfl rfl (Yld.str (e := 5) rfl (by kernel_rfl) (by kernel_rfl) (by kernel_rfl) rfl (hb.mono (fun b o h => .inr h))) ?_
  refine WQ.val rfl rfl rfl (Yld.eqlStr rfl rfl rfl true (by simp)) ?_
  refine WQ.val rfl rfl rfl (Yld.move rfl rfl) ?_
  refine WQ.valG rfl rfl rfl rfl rfl rfl (Yld.move rfl rfl) ?_
  refine WQ.valG rfl rfl rfl rfl rfl rfl (Yld.move rfl rfl) ?_
  refine WQ.valG rfl rfl rfl rfl rfl rfl (Yld.lenR hb rfl ty_sl_23 rfl) ?_
  refine WQ.valG rfl rfl rfl rfl rfl rfl (Yld.indexAddr (i := bs.length) rfl ty_sl_23 rfl rfl (by omega)) ?_
  refine WQ.valG rfl rfl rfl rfl rfl rfl (Yld.load rfl ty_sc_5 rfl (There.i hbl) (show _ = some (byteV 77) from by rw [byte_at (l := bs ++ [77, 78]) (k := bs.length) (by simp)]; simp)) ?_
  refine WQ.valG rfl rfl rfl rfl rfl rfl (Yld.eql rfl rfl rfl true (decide_eq_true (by rfl))) ?_
  refine WQ.val rfl rfl rfl (Yld.pickT rfl rfl rfl) ?_
  refine WQ.val rfl rfl rfl (Yld.move rfl rfl) ?_
  refine WQ.valG rfl rfl rfl rfl rfl rfl (Yld.move rfl rfl) ?_
  refine WQ.valG rfl rfl rfl rfl rfl rfl (Yld.move rfl rfl) ?_
  refine WQ.valG rfl rfl rfl rfl rfl rfl (Yld.lenR hb rfl ty_sl_23 rfl) ?_
  refine WQ.valG rfl rfl rfl rfl rfl rfl (Yld.add64 rfl rfl rfl (by omega)) ?_
  refine WQ.valG rfl rfl rfl rfl rfl rfl (Yld.indexAddr (i := bs.length + 1) rfl ty_sl_23 rfl rfl (by omega)) ?_
  refine WQ.valG rfl rfl rfl rfl rfl rfl (Yld.load rfl ty_sc_5 rfl (There.i hbl) (show _ = some (byteV 78) from by rw [byte_at (l := bs ++ [77, 78]) (k := bs.length + 1) (by simp)]; simp)) ?_
  refine WQ.valG rfl rfl rfl rfl rfl rfl (Yld.eql rfl rfl rfl true (decide_eq_true (by rfl))) ?_
  refine WQ.val rfl rfl rfl (Yld.pickT rfl rfl rfl) ?_
  refine WQ.val rfl rfl rfl (Yld.assign rfl rfl) ?_
  refine WQ.nil ?_
  refine WP.sub [(0, _), (1, _), (4, _), (5, _)] ?_ ⟨rfl, rfl, rfl, rfl, trivial⟩
  refine WP.next ?_
  refine WP.ret ?_
  refine WP.fin .ret (.inr rfl) (res1 rfl rfl) [] (by repeat (first | exact Take.nil | apply Take.cons | apply Take.app | exact Rm.chunk | exact Rm.here | apply Rm.skip | apply Rm.skipS | apply Take.all)) (by repeat (first | exact Leave.done | apply Leave.drop | apply Leave.dropS)) (Imm.le_refl _) ?_
  exact ⟨rfl, rfl, rfl⟩


theorem bit_odd {z : BitVec 32} (h : ((z % 2#32).toNat : Int) = 1) : bit z = (z / 2#32) ^^^ 2197175160#32 := by
  have h1 : z.getLsbD 0 = true := by
    rw [← low_bit, BitVec.ushiftRight_zero]; omega
  have e : z / 2#32 = z >>> 1 := by apply BitVec.eq_of_toNat_eq; rw [BitVec.toNat_udiv, BitVec.toNat_ushiftRight, Nat.shiftRight_eq_div_pow]; rfl
  unfold bit
  rw [if_pos, e]
  apply BitVec.eq_of_getLsbD_eq
  intro i hi
  rw [BitVec.getLsbD_and]
  by_cases h0 : i = 0
  · subst h0; rw [h1]; rfl
  · rw [one32 h0, Bool.and_false]
theorem bit_evenD {z : BitVec 32} (h : ¬ ((z % 2#32).toNat : Int) = 1) : bit z = z / 2#32 := by
  have e : z / 2#32 = z >>> 1 := by apply BitVec.eq_of_toNat_eq; rw [BitVec.toNat_udiv, BitVec.toNat_ushiftRight, Nat.shiftRight_eq_div_pow]; rfl
  rw [bit_even, e]
  cases hb : z.getLsbD 0 with
  | false => rfl
  | true => have := (low_bit z 0).2 hb; rw [BitVec.ushiftRight_zero] at this; exact absurd (by omega) h
theorem crc_refAdd {I : Imm} {bs : List UInt8} {vb : Value} (hb : SlRd (fun b o => I.blk b = some o) vb bs.length 1 (bytesV bs)) (hbl : bs.length ≤ 1152921504606846976) {s : BitVec 32} : Spec Try.prog 14 [.int .u32 ((s).toNat : Int), vb] I [] (fun v J L => v = .int .u32 ((crcAdd s bs).toNat : Int) ∧ I = J ∧ L = []) := by
  refine Spec.of Try.func14 rfl Try.ntmps14 (Nat.le_of_ble_eq_true rfl) (fun F => ?_)
  try simp only [List.cons_append, List.nil_append, List.append_assoc]
  dsimp only [argsEnv]
  refine WP.seq ?_
  refine WP.region [0] rfl ?_
  refine WP.val rfl rfl rfl rfl (Yld.assign rfl rfl) ?_
  refine WP.nil ?_
  refine WP.next ?_
  refine WP.seq ?_
  refine WP.region [0, 1, 2] rfl ?_
  refine WP.val rfl rfl rfl rfl (Yld.move rfl rfl) ?_
  refine WP.val rfl rfl rfl rfl (Yld.not32 s rfl rfl) ?_
  refine WP.val rfl rfl rfl rfl (Yld.assign rfl rfl) ?_
  refine WP.nil ?_
  refine WP.sub [(0, _), (1, _), (4, _), (5, _)] ?_ ⟨rfl, rfl, rfl, rfl, trivial⟩
  refine WP.next ?_
  refine WP.seq ?_
  refine WP.seq ?_
  refine WP.region [0] rfl ?_
  refine WP.val rfl rfl rfl rfl (Yld.assign rfl rfl) ?_
  refine WP.nil ?_
  refine WP.next ?_
  refine WP.block ?_
  refine WP.loop (X := Nat) (fun i : Nat => [(1, vb), (5, .int .u32 ((((bs.take i).foldl byteStep (~~~s))).toNat : Int)), (6, .int .i64 (i : Int))]) (fun _ => I) (fun _ => F) (fun i => i ≤ bs.length) (fun i => bs.length - i) 0 (Nat.zero_le _) ⟨rfl, rfl, rfl, trivial⟩ rfl (by (try dsimp only); repeat (first | exact Rm.chunk | exact Rm.here | apply Rm.skip | apply Rm.skipS | apply PX.cons | (apply PX.done; (repeat (first | exact Leave.done | apply Leave.drop | apply Leave.dropS)); done) | apply PX.app)) ?_
  intro i hi0
  try dsimp only
  try simp only [List.cons_append, List.nil_append, List.append_assoc]
  refine WP.seq ?_
  refine WP.seq ?_
  refine WP.region [0, 1, 2, 3] rfl ?_
  refine WP.val rfl rfl rfl rfl (Yld.move rfl rfl) ?_
  refine WP.val rfl rfl rfl rfl (Yld.move rfl rfl) ?_
  refine WP.val rfl rfl rfl rfl (Yld.lenR hb rfl ty_sl_23 rfl) ?_
  refine WP.split rfl rfl rfl rfl (Yld.lss rfl rfl rfl) (fun hlt => ?_) (fun hlt => ?_)
  · have hi : i < bs.length := by omega
    obtain ⟨bb, kb, cb, Tb, frb, arrb, rfl, hcb, hbb, hb4⟩ := hb.get (by omega)
    have eb := take_cells hb4 i (byteV bs[i]) (by simp [bytesV, hi]) (by rw [bytesV_len]; exact hi)
    rw [Array.getElem?_toList] at eb
    refine WP.nil ?_
    refine WP.sub [(1, _), (5, _), (6, _), (13, _)] ?_ ⟨rfl, rfl, rfl, rfl, trivial⟩
    refine WP.next ?_
    refine WP.condT rfl ?_
    refine WP.skip ?_
    refine WP.next ?_
    refine WP.seq ?_
    refine WP.block ?_
    refine WP.seq ?_
    refine WP.region [0, 1, 2, 3, 4, 5, 6, 7] rfl ?_
    refine WP.val rfl rfl rfl rfl (Yld.move rfl rfl) ?_
    refine WP.val rfl rfl rfl rfl (Yld.move rfl rfl) ?_
    refine WP.val rfl rfl rfl rfl (Yld.move rfl rfl) ?_
    refine WP.val rfl rfl rfl rfl (Yld.indexAddr (i := i) rfl ty_sl_23 rfl rfl hi) ?_
    refine WP.val rfl rfl rfl rfl (Yld.loadC rfl ty_sc_5 rfl (There.i hbb) (by rw [Nat.mul_one]; exact eb)) ?_
    refine WP.val rfl rfl rfl rfl (Yld.conv8_32 bs[i] rfl ty_un_5 ty_ik_22 rfl) ?_
    refine WP.val rfl rfl rfl rfl (Yld.xor32 ((bs.take i).foldl byteStep (~~~s)) (bs[i].toBitVec.setWidth 32) rfl rfl rfl) ?_
    refine WP.val rfl rfl rfl rfl (Yld.assign rfl rfl) ?_
    refine WP.nil ?_
    refine WP.sub [(1, _), (5, _), (6, _), (13, _)] ?_ ⟨rfl, rfl, rfl, rfl, trivial⟩
    refine WP.next ?_
    refine WP.seq ?_
    refine WP.region [0] rfl ?_
    refine WP.val rfl rfl rfl rfl (Yld.assign rfl rfl) ?_
    refine WP.nil ?_
    refine WP.next ?_
    refine WP.block ?_
    refine WP.loop (X := Nat) (fun k : Nat => [(1, .slice (some ⟨bb, kb, none⟩) bs.length cb), (5, .int .u32 (((bits k (((bs.take i).foldl byteStep (~~~s)) ^^^ bs[i].toBitVec.setWidth 32))).toNat : Int)), (6, .int .i64 (i : Int)), (7, .int .i64 (k : Int))]) (fun _ => I) (fun _ => F) (fun k => k ≤ 8) (fun k => 8 - k) 0 (Nat.zero_le _) ⟨rfl, rfl, rfl, rfl, trivial⟩ rfl (by (try dsimp only); repeat (first | exact Rm.chunk | exact Rm.here | apply Rm.skip | apply Rm.skipS | apply PX.cons | (apply PX.done; (repeat (first | exact Leave.done | apply Leave.drop | apply Leave.dropS)); done) | apply PX.app)) ?_
    intro k hk0
    try dsimp only
    try simp only [List.cons_append, List.nil_append, List.append_assoc]
    refine WP.seq ?_
    refine WP.seq ?_
    refine WP.region [0, 1] rfl ?_
    refine WP.val rfl rfl rfl rfl (Yld.move rfl rfl) ?_
    refine WP.split rfl rfl rfl rfl (Yld.lss rfl rfl rfl) (fun hk8 => ?_) (fun hk8 => ?_)
    · refine WP.nil ?_
      refine WP.sub [(1, _), (5, _), (6, _), (7, _), (24, _)] ?_ ⟨rfl, rfl, rfl, rfl, rfl, trivial⟩
      refine WP.next ?_
      refine WP.condT rfl ?_
      refine WP.skip ?_
      refine WP.next ?_
      refine WP.seq ?_
      refine WP.block ?_
      refine WP.seq ?_
      refine WP.region [0, 1, 2] rfl ?_
      refine WP.val rfl rfl rfl rfl (Yld.move rfl rfl) ?_
      refine WP.val rfl rfl rfl rfl (Yld.rem32 (bits k (((bs.take i).foldl byteStep (~~~s)) ^^^ bs[i].toBitVec.setWidth 32)) 2#32 (by decide) rfl rfl rfl) ?_
      refine WP.split rfl rfl rfl rfl (Yld.eql rfl rfl rfl) (fun hbb2 => ?_) (fun hbb2 => ?_)
      · refine WP.nil ?_
        refine WP.sub [(1, _), (5, _), (6, _), (7, _), (24, _), (29, _)] ?_ ⟨rfl, rfl, rfl, rfl, rfl, rfl, trivial⟩
        refine WP.next ?_
        refine WP.condT rfl ?_
        refine WP.region [0, 1, 2, 3] rfl ?_
        refine WP.val rfl rfl rfl rfl (Yld.move rfl rfl) ?_
        refine WP.val rfl rfl rfl rfl (Yld.quo32 (bits k (((bs.take i).foldl byteStep (~~~s)) ^^^ bs[i].toBitVec.setWidth 32)) 2#32 (by decide) rfl rfl rfl) ?_
        refine WP.val rfl rfl rfl rfl (Yld.xor32 ((bits k (((bs.take i).foldl byteStep (~~~s)) ^^^ bs[i].toBitVec.setWidth 32)) / 2#32) 2197175160#32 rfl rfl rfl) ?_
        refine WP.val rfl rfl rfl rfl (Yld.assign rfl rfl) ?_
        refine WP.nil ?_
        refine WP.sub [(1, _), (5, _), (6, _), (7, _), (24, _), (29, _)] ?_ ⟨rfl, rfl, rfl, rfl, rfl, rfl, trivial⟩
        refine WP.leave ?_
        refine WP.next ?_
        refine WP.region [0, 1, 2] rfl ?_
        refine WP.val rfl rfl rfl rfl (Yld.move rfl rfl) ?_
        refine WP.val rfl rfl rfl rfl (Yld.add64 rfl rfl rfl (by omega)) ?_
        refine WP.val rfl rfl rfl rfl (Yld.assign rfl rfl) ?_
        refine WP.nil ?_
        refine WP.sub [(1, _), (5, _), (6, _), (7, _), (24, _), (29, _)] ?_ ⟨rfl, rfl, rfl, rfl, rfl, rfl, trivial⟩
        exact WP.again (k + 1) (by omega) (by omega) ⟨rfl, (congrArg (fun z : BitVec 32 => some (Value.int .u32 (z.toNat : Int))) (by rw [bits_succ, bit_odd hbb2])), rfl, rfl, trivial⟩ rfl (by (try dsimp only); repeat (first | exact Rm.chunk | exact Rm.here | apply Rm.skip | apply Rm.skipS | apply PX.cons | (apply PX.done; (repeat (first | exact Leave.done | apply Leave.drop | apply Leave.dropS)); done) | apply PX.app))
      · refine WP.nil ?_
        refine WP.sub [(1, _), (5, _), (6, _), (7, _), (24, _), (29, _)] ?_ ⟨rfl, rfl, rfl, rfl, rfl, rfl, trivial⟩
        refine WP.next ?_
        refine WP.condF rfl ?_
        refine WP.region [0, 1, 2] rfl ?_
        refine WP.val rfl rfl rfl rfl (Yld.move rfl rfl) ?_
        refine WP.val rfl rfl rfl rfl (Yld.quo32 (bits k (((bs.take i).foldl byteStep (~~~s)) ^^^ bs[i].toBitVec.setWidth 32)) 2#32 (by decide) rfl rfl rfl) ?_
        refine WP.val rfl rfl rfl rfl (Yld.assign rfl rfl) ?_
        refine WP.nil ?_
        refine WP.sub [(1, _), (5, _), (6, _), (7, _), (24, _), (29, _)] ?_ ⟨rfl, rfl, rfl, rfl, rfl, rfl, trivial⟩
        refine WP.leave ?_
        refine WP.next ?_
        refine WP.region [0, 1, 2] rfl ?_
        refine WP.val rfl rfl rfl rfl (Yld.move rfl rfl) ?_
        refine WP.val rfl rfl rfl rfl (Yld.add64 rfl rfl rfl (by omega)) ?_
        refine WP.val rfl rfl rfl rfl (Yld.assign rfl rfl) ?_
        refine WP.nil ?_
        refine WP.sub [(1, _), (5, _), (6, _), (7, _), (24, _), (29, _)] ?_ ⟨rfl, rfl, rfl, rfl, rfl, rfl, trivial⟩
        exact WP.again (k + 1) (by omega) (by omega) ⟨rfl, (congrArg (fun z : BitVec 32 => some (Value.int .u32 (z.toNat : Int))) (by rw [bits_succ, bit_evenD hbb2])), rfl, rfl, trivial⟩ rfl (by (try dsimp only); repeat (first | exact Rm.chunk | exact Rm.here | apply Rm.skip | apply Rm.skipS | apply PX.cons | (apply PX.done; (repeat (first | exact Leave.done | apply Leave.drop | apply Leave.dropS)); done) | apply PX.app))
    · obtain rfl : k = 8 := by omega
      refine WP.nil ?_
      refine WP.sub [(1, _), (5, _), (6, _), (7, _), (24, _)] ?_ ⟨rfl, rfl, rfl, rfl, rfl, trivial⟩
      refine WP.next ?_
      refine WP.condF rfl ?_
      refine WP.exit ?_
      refine WP.thenE ?_
      refine WP.thenE ?_
      refine WP.hit ?_
      refine WP.leave ?_
      refine WP.next ?_
      refine WP.region [0, 1, 2] rfl ?_
      refine WP.val rfl rfl rfl rfl (Yld.move rfl rfl) ?_
      refine WP.val rfl rfl rfl rfl (Yld.add64 rfl rfl rfl (by omega)) ?_
      refine WP.val rfl rfl rfl rfl (Yld.assign rfl rfl) ?_
      refine WP.nil ?_
      refine WP.sub [(1, _), (5, _), (6, _), (7, _), (24, _)] ?_ ⟨rfl, rfl, rfl, rfl, rfl, trivial⟩
      exact WP.again (i + 1) hi (by omega) ⟨rfl, (congrArg (fun z : BitVec 32 => some (Value.int .u32 (z.toNat : Int))) (by rw [List.take_succ_eq_append_getElem hi, List.foldl_append]; exact (byteStep_bits _ _).symm)), rfl, trivial⟩ rfl (by (try dsimp only); repeat (first | exact Rm.chunk | exact Rm.here | apply Rm.skip | apply Rm.skipS | apply PX.cons | (apply PX.done; (repeat (first | exact Leave.done | apply Leave.drop | apply Leave.dropS)); done) | apply PX.app))
  · obtain rfl : i = bs.length := by omega
    rw [List.take_length]
    refine WP.nil ?_
    refine WP.sub [(1, _), (5, _), (6, _), (13, _)] ?_ ⟨rfl, rfl, rfl, rfl, trivial⟩
    refine WP.next ?_
    refine WP.condF rfl ?_
    refine WP.exit ?_
    refine WP.thenE ?_
    refine WP.thenE ?_
    refine WP.hit ?_
    refine WP.next ?_
    refine WP.seq ?_
    refine WP.region [0, 1, 2] rfl ?_
    refine WP.val rfl rfl rfl rfl (Yld.move rfl rfl) ?_
    refine WP.val rfl rfl rfl rfl (Yld.not32 (bs.foldl byteStep (~~~s)) rfl rfl) ?_
    refine WP.val rfl rfl rfl rfl (Yld.assign rfl rfl) ?_
    refine WP.nil ?_
    refine WP.sub [(1, _), (4, _), (5, _), (6, _), (13, _)] ?_ ⟨rfl, rfl, rfl, rfl, rfl, trivial⟩
    refine WP.next ?_
    refine WP.ret ?_
    refine WP.fin .ret (.inr rfl) (res1 rfl rfl) [] (by repeat (first | exact Take.nil | apply Take.cons | apply Take.app | exact Rm.chunk | exact Rm.here | apply Rm.skip | apply Rm.skipS | apply Take.all)) (by repeat (first | exact Leave.done | apply Leave.drop | apply Leave.dropS)) (Imm.le_refl _) ?_
    exact ⟨rfl, rfl, rfl⟩

theorem crc_refOf {I : Imm} {bs : List UInt8} {vb : Value} (hb : SlRd (fun b o => I.blk b = some o) vb bs.length 1 (bytesV bs)) (hbl : bs.length ≤ 1152921504606846976) : Spec Try.prog 13 [vb] I [] (fun v J L => v = .int .u32 ((crcOf bs).toNat : Int) ∧ I = J ∧ L = []) := by
  refine Spec.of Try.func13 rfl Try.ntmps13 (Nat.le_of_ble_eq_true rfl) (fun F => ?_)
  try simp only [List.cons_append, List.nil_append, List.append_assoc]
  dsimp only [argsEnv]
  refine WP.seq ?_
  refine WP.region [0] rfl ?_
  refine WP.val rfl rfl rfl rfl (Yld.assign rfl rfl) ?_
  refine WP.nil ?_
  refine WP.next ?_
  refine WP.seq ?_
  refine WP.region [0, 1, 2] rfl ?_
  refine WP.val rfl rfl rfl rfl (Yld.move rfl rfl) ?_
  refine WP.loud rfl rfl ?_
  refine Op.call (crc_refAdd hb hbl (s := 0#32)) rfl Try.func14 rfl rfl rfl rfl (by repeat (first | exact Take.nil | apply Take.cons | apply Take.app | exact Rm.chunk | exact Rm.here | apply Rm.skip | apply Rm.skipS | apply Take.all)) ?_
  rintro v J L1 hJ ⟨rfl, rfl, rfl⟩
  clear hJ; try simp only [List.cons_append, List.nil_append, List.append_assoc]
  refine WP.val rfl rfl rfl rfl (Yld.assign rfl rfl) ?_
  refine WP.nil ?_
  refine WP.sub [(0, _), (2, _)] ?_ ⟨rfl, rfl, trivial⟩
  refine WP.next ?_
  refine WP.ret ?_
  refine WP.fin .ret (.inr rfl) (res1 rfl rfl) [] (by repeat (first | exact Take.nil | apply Take.cons | apply Take.app | exact Rm.chunk | exact Rm.here | apply Rm.skip | apply Rm.skipS | apply Take.all)) (by repeat (first | exact Leave.done | apply Leave.drop | apply Leave.dropS)) (Imm.le_refl _) ?_
  exact ⟨rfl, rfl, rfl⟩

theorem crc_CrcSums {I : Imm} {bs : List UInt8} {vb : Value} {s : BitVec 32} (hb : SlRd (fun b o => I.blk b = some o) vb bs.length 1 (bytesV bs)) (hbl : bs.length ≤ 140737488351232) : Spec Try.prog 3 [.int .u32 ((s).toNat : Int), vb] I [] (fun v J L => v = .bool true ∧ I = J ∧ L = []) := by
  refine Spec.of Try.func3 rfl Try.ntmps3 (Nat.le_of_ble_eq_true rfl) (fun F => ?_)
  try simp only [List.cons_append, List.nil_append, List.append_assoc]
  dsimp only [argsEnv]
  refine WP.seq ?_
  refine WP.region [0] rfl ?_
  refine WP.val rfl rfl rfl rfl (Yld.assign rfl rfl) ?_
  refine WP.nil ?_
  refine WP.next ?_
  refine WP.seq ?_
  refine WP.region [0, 1] rfl ?_
  refine WP.loud rfl rfl ?_
  refine Op.call (crc_awake _) rfl Try.func8 rfl rfl rfl rfl (by repeat (first | exact Take.nil | apply Take.cons | apply Take.app | exact Rm.chunk | exact Rm.here | apply Rm.skip | apply Rm.skipS | apply Take.all)) ?_
  rintro v J L1 hJ ⟨rfl, rfl, rfl⟩
  clear hJ; try simp only [List.cons_append, List.nil_append, List.append_assoc]
  refine WP.val rfl rfl rfl rfl (Yld.assign rfl rfl) ?_
  refine WP.nil ?_
  refine WP.sub [(0, _), (1, _), (4, _), (5, _)] ?_ ⟨rfl, rfl, rfl, rfl, trivial⟩
  refine WP.next ?_
  refine WP.seq ?_
  refine WP.region [0, 1, 2] rfl ?_
  refine WP.val rfl rfl rfl rfl (Yld.move rfl rfl) ?_
  refine WP.loud rfl rfl ?_
  refine Op.call (crc_lent hb (by omega)) rfl Try.func9 rfl rfl rfl rfl (by repeat (first | exact Take.nil | apply Take.cons | apply Take.app | exact Rm.chunk | exact Rm.here | apply Rm.skip | apply Rm.skipS | apply Take.all)) ?_
  rintro v J L1 hJ ⟨rfl, b1, c1, s1, rfl, hc1, rfl⟩
  clear hJ; try simp only [List.cons_append, List.nil_append, List.append_assoc]
  refine WP.share (fun J1 hJ1 hb1 => ?_)
  have hb := hb.mono (im_mono hJ1)
  have hl : SlRd (fun b o => J1.blk b = some o) (.slice (some ⟨b1, 0, none⟩) bs.length c1) bs.length 1 (bytesV bs) := ⟨_, _, rfl, by omega, by rw [bytesV_len, Nat.mul_one], .inr ⟨b1, 0, _, (0, 0), _, rfl, hb1, by simp [bytesV_app, bytesV_len]⟩⟩
  refine WP.val rfl rfl rfl rfl (Yld.assign rfl rfl) ?_
  refine WP.nil ?_
  refine WP.sub [(0, _), (1, _), (4, _), (5, _), (6, _)] ?_ ⟨rfl, rfl, rfl, rfl, rfl, trivial⟩
  refine WP.next ?_
  refine WP.seq ?_
  refine WP.region [0, 1, 2] rfl ?_
  refine WP.val rfl rfl rfl rfl (Yld.move rfl rfl) ?_
  refine WP.loud rfl rfl ?_
  refine Op.call (crc_Of hl (by omega)) rfl Try.func10 rfl rfl rfl rfl (by repeat (first | exact Take.nil | apply Take.cons | apply Take.app | exact Rm.chunk | exact Rm.here | apply Rm.skip | apply Rm.skipS | apply Take.all)) ?_
  rintro v J L1 hJ ⟨rfl, rfl, rfl⟩
  clear hJ; try simp only [List.cons_append, List.nil_append, List.append_assoc]
  refine WP.val rfl rfl rfl rfl (Yld.assign rfl rfl) ?_
  refine WP.nil ?_
  refine WP.sub [(0, _), (1, _), (4, _), (5, _), (6, _), (7, _)] ?_ ⟨rfl, rfl, rfl, rfl, rfl, rfl, trivial⟩
  refine WP.next ?_
  refine WP.seq ?_
  refine WP.region [0, 1, 2, 3] rfl ?_
  refine WP.val rfl rfl rfl rfl (Yld.move rfl rfl) ?_
  refine WP.val rfl rfl rfl rfl (Yld.move rfl rfl) ?_
  refine WP.loud rfl rfl ?_
  refine Op.call (crc_Add hl (by omega) (s := s)) rfl Try.func11 rfl rfl rfl rfl (by repeat (first | exact Take.nil | apply Take.cons | apply Take.app | exact Rm.chunk | exact Rm.here | apply Rm.skip | apply Rm.skipS | apply Take.all)) ?_
  rintro v J L1 hJ ⟨rfl, rfl, rfl⟩
  clear hJ; try simp only [List.cons_append, List.nil_append, List.append_assoc]
  refine WP.val rfl rfl rfl rfl (Yld.assign rfl rfl) ?_
  refine WP.nil ?_
  refine WP.sub [(0, _), (1, _), (4, _), (5, _), (6, _), (7, _), (8, _)] ?_ ⟨rfl, rfl, rfl, rfl, rfl, rfl, rfl, trivial⟩
  refine WP.next ?_
  refine WP.seq ?_
  refine WP.region [0, 1, 2, 3] rfl ?_
  refine WP.val rfl rfl rfl rfl (Yld.move rfl rfl) ?_
  refine WP.val rfl rfl rfl rfl (Yld.move rfl rfl) ?_
  refine WP.loud rfl rfl ?_
  refine Op.call (crc_still hb (by omega) hc1 hb1) rfl Try.func12 rfl rfl rfl rfl (by repeat (first | exact Take.nil | apply Take.cons | apply Take.app | exact Rm.chunk | exact Rm.here | apply Rm.skip | apply Rm.skipS | apply Take.all)) ?_
  rintro v J L1 hJ ⟨rfl, rfl, rfl⟩
  clear hJ; try simp only [List.cons_append, List.nil_append, List.append_assoc]
  refine WP.val rfl rfl rfl rfl (Yld.assign rfl rfl) ?_
  refine WP.nil ?_
  refine WP.sub [(0, _), (1, _), (4, _), (5, _), (6, _), (7, _), (8, _), (9, _)] ?_ ⟨rfl, rfl, rfl, rfl, rfl, rfl, rfl, rfl, trivial⟩
  refine WP.next ?_
  refine WP.seq ?_
  refine WP.region [0, 1, 2, 3, 4, 5, 6, 7, 8, 9, 10, 11, 12, 13, 14, 15, 16, 17] rfl ?_
  refine WP.val rfl rfl rfl rfl (Yld.move rfl rfl) ?_
  refine WP.val rfl rfl rfl rfl (Yld.move rfl rfl) ?_
  refine WP.valG rfl rfl rfl rfl rfl rfl rfl (Yld.move rfl rfl) ?_
  refine WP.val rfl rfl rfl rfl (Yld.pickT rfl rfl rfl) ?_
  refine WP.val rfl rfl rfl rfl (Yld.move rfl rfl) ?_
  refine WP.valG rfl rfl rfl rfl rfl rfl rfl (Yld.move rfl rfl) ?_
  refine WP.valG rfl rfl rfl rfl rfl rfl rfl (Yld.move rfl rfl) ?_
  refine WP.loudG rfl rfl rfl rfl rfl ?_
  refine Op.call (crc_refOf hb (by omega)) rfl Try.func13 rfl rfl rfl rfl (by repeat (first | exact Take.nil | apply Take.cons | apply Take.app | exact Rm.chunk | exact Rm.here | apply Rm.skip | apply Rm.skipS | apply Take.all)) ?_
  rintro v J L1 hJ ⟨rfl, rfl, rfl⟩
  clear hJ; try simp only [List.cons_append, List.nil_append, List.append_assoc]
  refine WP.valG rfl rfl rfl rfl rfl rfl rfl (Yld.eql rfl rfl rfl true (decide_eq_true (by rfl))) ?_
  refine WP.val rfl rfl rfl rfl (Yld.pickT rfl rfl rfl) ?_
  refine WP.val rfl rfl rfl rfl (Yld.move rfl rfl) ?_
  refine WP.valG rfl rfl rfl rfl rfl rfl rfl (Yld.move rfl rfl) ?_
  refine WP.valG rfl rfl rfl rfl rfl rfl rfl (Yld.move rfl rfl) ?_
  refine WP.valG rfl rfl rfl rfl rfl rfl rfl (Yld.move rfl rfl) ?_
  refine WP.loudG rfl rfl rfl rfl rfl ?_
  refine Op.call (crc_refAdd hb (by omega) (s := s)) rfl Try.func14 rfl rfl rfl rfl (by repeat (first | exact Take.nil | apply Take.cons | apply Take.app | exact Rm.chunk | exact Rm.here | apply Rm.skip | apply Rm.skipS | apply Take.all)) ?_
  rintro v J L1 hJ ⟨rfl, rfl, rfl⟩
  clear hJ; try simp only [List.cons_append, List.nil_append, List.append_assoc]
  refine WP.valG rfl rfl rfl rfl rfl rfl rfl (Yld.eql rfl rfl rfl true (decide_eq_true (by rfl))) ?_
  refine WP.val rfl rfl rfl rfl (Yld.pickT rfl rfl rfl) ?_
  refine WP.val rfl rfl rfl rfl (Yld.assign rfl rfl) ?_
  refine WP.nil ?_
  refine WP.sub [(0, _), (1, _), (4, _), (5, _), (6, _), (7, _), (8, _), (9, _)] ?_ ⟨rfl, rfl, rfl, rfl, rfl, rfl, rfl, rfl, trivial⟩
  refine WP.back hJ1 ?_
  refine WP.next ?_
  refine WP.ret ?_
  refine WP.fin .ret (.inr rfl) (res1 rfl rfl) [] (by repeat (first | exact Take.nil | apply Take.cons | apply Take.app | exact Rm.chunk | exact Rm.here | apply Rm.skip | apply Rm.skipS | apply Take.all)) (by repeat (first | exact Leave.done | apply Leave.drop | apply Leave.dropS)) (Imm.le_refl _) ?_
  exact ⟨rfl, rfl, rfl⟩


end Go.Hp
