import Derived.Test.YtpklpigmhapkgaaCrcO
import Derived.Test.YtpklpigmhapkgaaHpWord
set_option linter.unusedVariables false
set_option linter.unusedSimpArgs false
namespace Go.Hp
open Go Go.Proofs
theorem crc_CrcBursts {I : Imm} {b : List UInt8} {vb : Value} {at_ : Int} {x : BitVec 32} (hb : SlRd (fun b o => I.blk b = some o) vb b.length 1 (bytesV b)) (lb : b.length ≤ 140737488351232) (hat : -9223372036854775808 ≤ at_ ∧ at_ ≤ 9223372036854775807) : Spec Try.prog 6 [vb, .int .i64 at_, .int .u32 ((x).toNat : Int)] I [] (fun v J L => v = .bool true ∧ I = J ∧ L = []) := by
  refine Spec.of Try.func6 rfl Try.ntmps6 (Nat.le_of_ble_eq_true rfl) (fun F => ?_)
  try simp only [List.cons_append, List.nil_append, List.append_assoc]
  dsimp only [argsEnv]
  refine WP.seq ?_
  refine WP.region [0] rfl ?_
  refine WP.val rfl rfl rfl rfl (Yld.assign rfl rfl) ?_
  refine WP.nil ?_
  refine WP.next ?_
  refine WP.seq ?_
  refine WP.region [0, 1] rfl ?_
  refine WP.loud rfl rfl ?_
  refine Op.call (crc_awake _) rfl Try.func8 rfl rfl rfl rfl (by repeat (first | exact Take.nil | apply Take.cons | apply Take.app | exact Rm.chunk | exact Rm.here | apply Rm.skip | apply Rm.skipS | apply Take.all)) ?_
  rintro v J L1 hJ ⟨rfl, rfl, rfl⟩
  clear hJ; try simp only [List.cons_append, List.nil_append, List.append_assoc]
  refine WP.val rfl rfl rfl rfl (Yld.assign rfl rfl) ?_
  refine WP.nil ?_
  refine WP.sub [(0, _), (1, _), (2, _), (6, _), (7, _)] ?_ ⟨rfl, rfl, rfl, rfl, rfl, trivial⟩
  refine WP.next ?_
  refine WP.seq ?_
  refine WP.region [0, 1, 2] rfl ?_
  refine WP.val rfl rfl rfl rfl (Yld.move rfl rfl) ?_
  refine WP.loud rfl rfl ?_
  refine Op.call (crc_Frame hb (by omega)) rfl Try.func15 rfl rfl rfl rfl (by repeat (first | exact Take.nil | apply Take.cons | apply Take.app | exact Rm.chunk | exact Rm.here | apply Rm.skip | apply Rm.skipS | apply Take.all)) ?_
  rintro v J Lf hJ ⟨rfl, hf⟩
  clear hJ; try simp only [List.cons_append, List.nil_append, List.append_assoc]
  have hfl := frame_len b
  obtain ⟨bf, cf, spf, rfl, rfl, hq, hr⟩ := hf.get (by omega)
  try simp only [List.cons_append, List.nil_append, List.append_assoc]
  refine WP.val rfl rfl rfl rfl (Yld.assign rfl rfl) ?_
  refine WP.nil ?_
  refine WP.sub [(0, _), (1, _), (2, _), (6, _), (7, _), (8, _)] ?_ ⟨rfl, rfl, rfl, rfl, rfl, rfl, trivial⟩
  refine WP.next ?_
  refine WP.seq ?_
  refine WP.seq ?_
  refine WP.region [0, 1, 2, 3, 4, 5] rfl ?_
  refine WP.val rfl rfl rfl rfl (Yld.move rfl rfl) ?_
  refine WP.val rfl rfl rfl rfl (Yld.len rfl ty_sl_23 rfl) ?_
  refine WP.val rfl rfl rfl rfl (Yld.move rfl rfl) ?_
  refine WP.val rfl rfl rfl rfl (Yld.lenR hb rfl ty_sl_23 rfl) ?_
  refine WP.val rfl rfl rfl rfl (Yld.add64 rfl rfl rfl (by omega)) ?_
  refine WP.val rfl rfl rfl rfl (Yld.neq rfl rfl rfl false (decide_eq_false (by omega))) ?_
  refine WP.nil ?_
  refine WP.sub [(0, _), (1, _), (2, _), (6, _), (7, _), (8, _), (23, _)] ?_ ⟨rfl, rfl, rfl, rfl, rfl, rfl, rfl, trivial⟩
  refine WP.next ?_
  refine WP.condF rfl ?_
  refine WP.skip ?_
  refine WP.next ?_
  refine WP.seq ?_
  refine WP.seq ?_
  refine WP.region [0, 1, 2, 3, 4, 5, 6, 7, 8, 9, 10, 11, 12, 13, 14, 15, 16, 17, 18] rfl ?_
  refine WP.val rfl rfl rfl rfl (Yld.move rfl rfl) ?_
  refine WP.split rfl rfl rfl rfl (Yld.eql rfl rfl rfl) (fun c1 => ?_) (fun c1 => ?_)
  · refine WP.val rfl rfl rfl rfl (Yld.move rfl rfl) ?_
    refine WP.passG rfl rfl rfl rfl rfl rfl rfl rfl ?_
    refine WP.passG rfl rfl rfl rfl rfl rfl rfl rfl ?_
    refine WP.val rfl rfl rfl rfl (Yld.pickT rfl rfl rfl) ?_
    refine WP.val rfl rfl rfl rfl (Yld.move rfl rfl) ?_
    refine WP.passG rfl rfl rfl rfl rfl rfl rfl rfl ?_
    refine WP.passG rfl rfl rfl rfl rfl rfl rfl rfl ?_
    refine WP.passG rfl rfl rfl rfl rfl rfl rfl rfl ?_
    refine WP.passG rfl rfl rfl rfl rfl rfl rfl rfl ?_
    refine WP.passG rfl rfl rfl rfl rfl rfl rfl rfl ?_
    refine WP.passG rfl rfl rfl rfl rfl rfl rfl rfl ?_
    refine WP.val rfl rfl rfl rfl (Yld.pickT rfl rfl rfl) ?_
    refine WP.val rfl rfl rfl rfl (Yld.move rfl rfl) ?_
    refine WP.passG rfl rfl rfl rfl rfl rfl rfl rfl ?_
    refine WP.passG rfl rfl rfl rfl rfl rfl rfl rfl ?_
    refine WP.passG rfl rfl rfl rfl rfl rfl rfl rfl ?_
    refine WP.val rfl rfl rfl rfl (Yld.pickT rfl rfl rfl) ?_
    refine WP.nil ?_
    refine WP.sub [(0, _), (1, _), (2, _), (6, _), (7, _), (8, _), (23, _), (42, _)] ?_ ⟨rfl, rfl, rfl, rfl, rfl, rfl, rfl, rfl, trivial⟩
    refine WP.next ?_
    refine WP.condT rfl ?_
    refine WP.seq ?_
    refine WP.region [0, 1] rfl ?_
    refine WP.val rfl rfl rfl rfl (Yld.move rfl rfl) ?_
    refine WP.val rfl rfl rfl rfl (Yld.assign rfl rfl) ?_
    refine WP.nil ?_
    refine WP.sub [(0, _), (1, _), (2, _), (6, _), (7, _), (8, _), (23, _), (42, _)] ?_ ⟨rfl, rfl, rfl, rfl, rfl, rfl, rfl, rfl, trivial⟩
    refine WP.next ?_
    refine WP.ret ?_
    refine WP.fin .ret (.inr rfl) (res1 rfl rfl) [] (by repeat (first | exact Take.nil | apply Take.cons | apply Take.app | exact Rm.chunk | exact Rm.here | apply Rm.skip | apply Rm.skipS | apply Take.all)) (by repeat (first | exact Leave.done | apply Leave.drop | apply Leave.dropS)) (Imm.le_refl _) ?_
    exact ⟨rfl, rfl, rfl⟩
  · refine WP.val rfl rfl rfl rfl (Yld.move rfl rfl) ?_
    refine WP.valG rfl rfl rfl rfl rfl rfl rfl (Yld.move rfl rfl) ?_
    refine WP.splitG rfl rfl rfl rfl rfl rfl rfl (Yld.lss rfl rfl rfl) (fun c2 => ?_) (fun c2 => ?_)
    · refine WP.val rfl rfl rfl rfl (Yld.pickF rfl rfl rfl) ?_
      refine WP.val rfl rfl rfl rfl (Yld.move rfl rfl) ?_
      refine WP.passG rfl rfl rfl rfl rfl rfl rfl rfl ?_
      refine WP.passG rfl rfl rfl rfl rfl rfl rfl rfl ?_
      refine WP.passG rfl rfl rfl rfl rfl rfl rfl rfl ?_
      refine WP.passG rfl rfl rfl rfl rfl rfl rfl rfl ?_
      refine WP.passG rfl rfl rfl rfl rfl rfl rfl rfl ?_
      refine WP.passG rfl rfl rfl rfl rfl rfl rfl rfl ?_
      refine WP.val rfl rfl rfl rfl (Yld.pickT rfl rfl rfl) ?_
      refine WP.val rfl rfl rfl rfl (Yld.move rfl rfl) ?_
      refine WP.passG rfl rfl rfl rfl rfl rfl rfl rfl ?_
      refine WP.passG rfl rfl rfl rfl rfl rfl rfl rfl ?_
      refine WP.passG rfl rfl rfl rfl rfl rfl rfl rfl ?_
      refine WP.val rfl rfl rfl rfl (Yld.pickT rfl rfl rfl) ?_
      refine WP.nil ?_
      refine WP.sub [(0, _), (1, _), (2, _), (6, _), (7, _), (8, _), (23, _), (42, _)] ?_ ⟨rfl, rfl, rfl, rfl, rfl, rfl, rfl, rfl, trivial⟩
      refine WP.next ?_
      refine WP.condT rfl ?_
      refine WP.seq ?_
      refine WP.region [0, 1] rfl ?_
      refine WP.val rfl rfl rfl rfl (Yld.move rfl rfl) ?_
      refine WP.val rfl rfl rfl rfl (Yld.assign rfl rfl) ?_
      refine WP.nil ?_
      refine WP.sub [(0, _), (1, _), (2, _), (6, _), (7, _), (8, _), (23, _), (42, _)] ?_ ⟨rfl, rfl, rfl, rfl, rfl, rfl, rfl, rfl, trivial⟩
      refine WP.next ?_
      refine WP.ret ?_
      refine WP.fin .ret (.inr rfl) (res1 rfl rfl) [] (by repeat (first | exact Take.nil | apply Take.cons | apply Take.app | exact Rm.chunk | exact Rm.here | apply Rm.skip | apply Rm.skipS | apply Take.all)) (by repeat (first | exact Leave.done | apply Leave.drop | apply Leave.dropS)) (Imm.le_refl _) ?_
      exact ⟨rfl, rfl, rfl⟩
    · refine WP.val rfl rfl rfl rfl (Yld.pickF rfl rfl rfl) ?_
      refine WP.val rfl rfl rfl rfl (Yld.move rfl rfl) ?_
      refine WP.valG rfl rfl rfl rfl rfl rfl rfl (Yld.move rfl rfl) ?_
      refine WP.valG rfl rfl rfl rfl rfl rfl rfl (Yld.move rfl rfl) ?_
      refine WP.valG rfl rfl rfl rfl rfl rfl rfl (Yld.len rfl ty_sl_23 rfl) ?_
      refine WP.valG rfl rfl rfl rfl rfl rfl rfl (Yld.mul64 rfl rfl rfl (by omega)) ?_
      refine WP.valG rfl rfl rfl rfl rfl rfl rfl (Yld.sub64 rfl rfl rfl (by omega)) ?_
      refine WP.splitG rfl rfl rfl rfl rfl rfl rfl (Yld.gtr rfl rfl rfl) (fun c3 => ?_) (fun c3 => ?_)
      · refine WP.val rfl rfl rfl rfl (Yld.pickF rfl rfl rfl) ?_
        refine WP.val rfl rfl rfl rfl (Yld.move rfl rfl) ?_
        refine WP.passG rfl rfl rfl rfl rfl rfl rfl rfl ?_
        refine WP.passG rfl rfl rfl rfl rfl rfl rfl rfl ?_
        refine WP.passG rfl rfl rfl rfl rfl rfl rfl rfl ?_
        refine WP.val rfl rfl rfl rfl (Yld.pickT rfl rfl rfl) ?_
        refine WP.nil ?_
        refine WP.sub [(0, _), (1, _), (2, _), (6, _), (7, _), (8, _), (23, _), (42, _)] ?_ ⟨rfl, rfl, rfl, rfl, rfl, rfl, rfl, rfl, trivial⟩
        refine WP.next ?_
        refine WP.condT rfl ?_
        refine WP.seq ?_
        refine WP.region [0, 1] rfl ?_
        refine WP.val rfl rfl rfl rfl (Yld.move rfl rfl) ?_
        refine WP.val rfl rfl rfl rfl (Yld.assign rfl rfl) ?_
        refine WP.nil ?_
        refine WP.sub [(0, _), (1, _), (2, _), (6, _), (7, _), (8, _), (23, _), (42, _)] ?_ ⟨rfl, rfl, rfl, rfl, rfl, rfl, rfl, rfl, trivial⟩
        refine WP.next ?_
        refine WP.ret ?_
        refine WP.fin .ret (.inr rfl) (res1 rfl rfl) [] (by repeat (first | exact Take.nil | apply Take.cons | apply Take.app | exact Rm.chunk | exact Rm.here | apply Rm.skip | apply Rm.skipS | apply Take.all)) (by repeat (first | exact Leave.done | apply Leave.drop | apply Leave.dropS)) (Imm.le_refl _) ?_
        exact ⟨rfl, rfl, rfl⟩
      · refine WP.val rfl rfl rfl rfl (Yld.pickF rfl rfl rfl) ?_
        refine WP.val rfl rfl rfl rfl (Yld.move rfl rfl) ?_
        refine WP.valG rfl rfl rfl rfl rfl rfl rfl (Yld.move rfl rfl) ?_
        refine WP.valG rfl rfl rfl rfl rfl rfl rfl (Yld.lenR hb rfl ty_sl_23 rfl) ?_
        refine WP.splitG rfl rfl rfl rfl rfl rfl rfl (Yld.gtr rfl rfl rfl) (fun c4 => ?_) (fun c4 => ?_)
        · refine WP.val rfl rfl rfl rfl (Yld.pickF rfl rfl rfl) ?_
          refine WP.nil ?_
          refine WP.sub [(0, _), (1, _), (2, _), (6, _), (7, _), (8, _), (23, _), (42, _)] ?_ ⟨rfl, rfl, rfl, rfl, rfl, rfl, rfl, rfl, trivial⟩
          refine WP.next ?_
          refine WP.condT rfl ?_
          refine WP.seq ?_
          refine WP.region [0, 1] rfl ?_
          refine WP.val rfl rfl rfl rfl (Yld.move rfl rfl) ?_
          refine WP.val rfl rfl rfl rfl (Yld.assign rfl rfl) ?_
          refine WP.nil ?_
          refine WP.sub [(0, _), (1, _), (2, _), (6, _), (7, _), (8, _), (23, _), (42, _)] ?_ ⟨rfl, rfl, rfl, rfl, rfl, rfl, rfl, rfl, trivial⟩
          refine WP.next ?_
          refine WP.ret ?_
          refine WP.fin .ret (.inr rfl) (res1 rfl rfl) [] (by repeat (first | exact Take.nil | apply Take.cons | apply Take.app | exact Rm.chunk | exact Rm.here | apply Rm.skip | apply Rm.skipS | apply Take.all)) (by repeat (first | exact Leave.done | apply Leave.drop | apply Leave.dropS)) (Imm.le_refl _) ?_
          exact ⟨rfl, rfl, rfl⟩
        · refine WP.val rfl rfl rfl rfl (Yld.pickF rfl rfl rfl) ?_
          refine WP.nil ?_
          refine WP.sub [(0, _), (1, _), (2, _), (6, _), (7, _), (8, _), (23, _), (42, _)] ?_ ⟨rfl, rfl, rfl, rfl, rfl, rfl, rfl, rfl, trivial⟩
          refine WP.next ?_
          refine WP.condF rfl ?_
          refine WP.skip ?_
          refine WP.next ?_
          refine WP.seq ?_
          obtain ⟨a, rfl⟩ : ∃ a : Nat, at_ = (a : Int) := ⟨at_.toNat, by omega⟩
          have ha : 64 ≤ a := by omega
          have hal : a < 8 * (frame b).length := by omega
          refine WP.region [0] rfl ?_
          refine WP.val rfl rfl rfl rfl (Yld.assign rfl rfl) ?_
          refine WP.nil ?_
          refine WP.next ?_
          refine WP.seq ?_
          refine WP.seq ?_
          refine WP.region [0] rfl ?_
          refine WP.val rfl rfl rfl rfl (Yld.assign rfl rfl) ?_
          refine WP.nil ?_
          refine WP.next ?_
          refine WP.block ?_
          refine WP.loop (X := Nat) (fun i : Nat => [(0, vb), (1, .int .i64 (a : Int)), (2, .int .u32 ((x).toNat : Int)), (7, .bool true), (8, .slice (some ⟨bf, 0, none⟩) (frame b).length cf), (9, .bool (anyT x (frame b).length a i)), (10, .int .i64 (i : Int))]) (fun _ => I) (fun i : Nat => (bf, row 5 (bytesV (flips x (frame b) a i) ++ spf)) :: F) (fun i => i ≤ 32) (fun i => 32 - i) 0 (Nat.zero_le _) ⟨rfl, rfl, rfl, rfl, rfl, rfl, rfl, trivial⟩ rfl (by (try dsimp only); repeat (first | exact Rm.chunk | exact Rm.here | apply Rm.skip | apply Rm.skipS | apply PX.cons | (apply PX.done; (repeat (first | exact Leave.done | apply Leave.drop | apply Leave.dropS)); done) | apply PX.app)) ?_
          intro i hi0
          try dsimp only
          try simp only [List.cons_append, List.nil_append, List.append_assoc]
          refine WP.seq ?_
          refine WP.seq ?_
          refine WP.region [0, 1] rfl ?_
          refine WP.val rfl rfl rfl rfl (Yld.move rfl rfl) ?_
          refine WP.split rfl rfl rfl rfl (Yld.lss rfl rfl rfl) (fun hlt => ?_) (fun hlt => ?_)
          · have hi : i < 32 := by omega
            have hfi := flips_len x (frame b) a i
            refine WP.nil ?_
            refine WP.sub [(0, _), (1, _), (2, _), (7, _), (8, _), (9, _), (10, _), (45, _)] ?_ ⟨rfl, rfl, rfl, rfl, rfl, rfl, rfl, rfl, trivial⟩
            refine WP.next ?_
            refine WP.condT rfl ?_
            refine WP.skip ?_
            refine WP.next ?_
            refine WP.seq ?_
            refine WP.block ?_
            refine WP.seq ?_
            refine WP.region [0, 1, 2, 3] rfl ?_
            refine WP.val rfl rfl rfl rfl (Yld.move rfl rfl) ?_
            refine WP.val rfl rfl rfl rfl (Yld.move rfl rfl) ?_
            refine WP.val rfl rfl rfl rfl (Yld.add64 rfl rfl rfl (by omega)) ?_
            refine WP.val rfl rfl rfl rfl (Yld.assign rfl rfl) ?_
            refine WP.nil ?_
            refine WP.sub [(0, _), (1, _), (2, _), (7, _), (8, _), (9, _), (10, _), (11, _), (45, _)] ?_ ⟨rfl, rfl, rfl, rfl, rfl, rfl, rfl, rfl, rfl, trivial⟩
            refine WP.next ?_
            refine WP.seq ?_
            refine WP.region [0, 1, 2, 3, 4, 5, 6, 7, 8, 9, 10, 11, 12] rfl ?_
            refine WP.val rfl rfl rfl rfl (Yld.move rfl rfl) ?_
            refine WP.val rfl rfl rfl rfl (Yld.move rfl rfl) ?_
            refine WP.val rfl rfl rfl rfl (Yld.conv64u i rfl ty_un_3 ty_ik_35 rfl (by omega)) ?_
            refine WP.val rfl rfl rfl rfl (Yld.shr32 x i rfl rfl rfl (by omega)) ?_
            refine WP.val rfl rfl rfl rfl (Yld.rem32 (x >>> i) 2#32 (by decide) rfl rfl rfl) ?_
            refine WP.split rfl rfl rfl rfl (Yld.eql rfl rfl rfl) (fun d1 => ?_) (fun d1 => ?_)
            · have hxb : x.getLsbD i = true := (low_bit x i).1 (by omega)
              refine WP.val rfl rfl rfl rfl (Yld.move rfl rfl) ?_
              refine WP.valG rfl rfl rfl rfl rfl rfl rfl (Yld.move rfl rfl) ?_
              refine WP.valG rfl rfl rfl rfl rfl rfl rfl (Yld.move rfl rfl) ?_
              refine WP.valG rfl rfl rfl rfl rfl rfl rfl (Yld.len rfl ty_sl_23 rfl) ?_
              refine WP.valG rfl rfl rfl rfl rfl rfl rfl (Yld.mul64 rfl rfl rfl (by omega)) ?_
              refine WP.splitG rfl rfl rfl rfl rfl rfl rfl (Yld.lss rfl rfl rfl) (fun d2 => ?_) (fun d2 => ?_)
              · have hlb : a + i < 8 * (frame b).length := by omega
                refine WP.val rfl rfl rfl rfl (Yld.pickT rfl rfl rfl) ?_
                refine WP.nil ?_
                refine WP.sub [(0, _), (1, _), (2, _), (7, _), (8, _), (9, _), (10, _), (11, _), (45, _), (63, _)] ?_ ⟨rfl, rfl, rfl, rfl, rfl, rfl, rfl, rfl, rfl, rfl, trivial⟩
                refine WP.next ?_
                refine WP.condT rfl ?_
                refine WP.seq ?_
                refine WP.region [0, 1, 2, 3, 4, 5, 6, 7, 8, 9, 10, 11, 12, 13, 14] rfl ?_
                refine WP.val rfl rfl rfl rfl (Yld.move rfl rfl) ?_
                refine WP.val rfl rfl rfl rfl (Yld.move rfl rfl) ?_
                refine WP.val rfl rfl rfl rfl (Yld.quo64 rfl rfl rfl (by omega)) ?_
                refine WP.val rfl rfl rfl rfl (Yld.move rfl rfl) ?_
                refine WP.val rfl rfl rfl rfl (Yld.move rfl rfl) ?_
                refine WP.val rfl rfl rfl rfl (Yld.quo64 rfl rfl rfl (by omega)) ?_
                refine WP.val rfl rfl rfl rfl (Yld.indexAddr (i := (a + i) / 8) rfl ty_sl_23 rfl (congrArg (fun z => some (Value.int .i64 z)) (by omega)) (by omega)) ?_
                refine WP.val rfl rfl rfl rfl (Yld.load rfl ty_sc_5 rfl (by repeat (first | exact There.h | exact There.i (by assumption) | apply There.t | apply There.s)) (byte_atD (l := (flips x (frame b) a i)) (by omega) spf)) ?_
                refine WP.val rfl rfl rfl rfl (Yld.move rfl rfl) ?_
                refine WP.val rfl rfl rfl rfl (Yld.rem64 rfl rfl rfl (by omega)) ?_
                refine WP.val rfl rfl rfl rfl (Yld.conv64u ((a + i) % 8) rfl ty_un_3 ty_ik_35 (congrArg (fun z => some (Value.int .i64 z)) (by omega)) (by omega)) ?_
                refine WP.val rfl rfl rfl rfl (Yld.shl8 1#8 ((a + i) % 8) rfl rfl rfl (by omega)) ?_
                refine WP.val rfl rfl rfl rfl (Yld.xor8 ((flips x (frame b) a i).getD ((a + i) / 8) 0) ⟨1#8 <<< ((a + i) % 8)⟩ rfl rfl rfl) ?_
                refine WP.val rfl rfl rfl rfl (Yld.indexAddr (i := (a + i) / 8) rfl ty_sl_23 rfl (congrArg (fun z => some (Value.int .i64 z)) (by omega)) (by omega)) ?_
                refine WP.loud rfl rfl ?_
                refine Op.store1 rfl rfl ty_sz_5 rfl rfl rfl (by repeat (first | exact Upd.head | apply Upd.tail | apply Upd.tailS)) (set_byteS (l := (flips x (frame b) a i)) ⟨((flips x (frame b) a i).getD ((a + i) / 8) 0).toBitVec ^^^ (1#8 <<< ((a + i) % 8))⟩ spf (by omega)) ?_
                refine WP.nil ?_
                refine WP.sub [(0, _), (1, _), (2, _), (7, _), (8, _), (9, _), (10, _), (11, _), (45, _), (63, _)] ?_ ⟨rfl, rfl, rfl, rfl, rfl, rfl, rfl, rfl, rfl, rfl, trivial⟩
                refine WP.next ?_
                refine WP.region [0] rfl ?_
                refine WP.val rfl rfl rfl rfl (Yld.assign rfl rfl) ?_
                refine WP.nil ?_
                refine WP.leave ?_
                refine WP.next ?_
                refine WP.region [0, 1, 2] rfl ?_
                refine WP.val rfl rfl rfl rfl (Yld.move rfl rfl) ?_
                refine WP.val rfl rfl rfl rfl (Yld.add64 rfl rfl rfl (by omega)) ?_
                refine WP.val rfl rfl rfl rfl (Yld.assign rfl rfl) ?_
                refine WP.nil ?_
                refine WP.sub [(0, _), (1, _), (2, _), (7, _), (8, _), (9, _), (10, _), (11, _), (45, _), (63, _)] ?_ ⟨rfl, rfl, rfl, rfl, rfl, rfl, rfl, rfl, rfl, rfl, trivial⟩
                exact WP.again (i + 1) (by omega) (by omega) ⟨rfl, rfl, rfl, rfl, rfl, (congrArg (fun z => some (Value.bool z)) (by rw [anyT, if_pos ⟨hxb, hlb⟩])), rfl, trivial⟩ rfl (by (try dsimp only); rw [flips, if_pos ⟨hxb, hlb⟩, flip1]; exact (by (try dsimp only); repeat (first | exact Rm.chunk | exact Rm.here | apply Rm.skip | apply Rm.skipS | apply PX.cons | (apply PX.done; (repeat (first | exact Leave.done | apply Leave.drop | apply Leave.dropS)); done) | apply PX.app)))
              · have hno : ¬ (x.getLsbD i = true ∧ a + i < 8 * (frame b).length) := by omega
                refine WP.val rfl rfl rfl rfl (Yld.pickT rfl rfl rfl) ?_
                refine WP.nil ?_
                refine WP.sub [(0, _), (1, _), (2, _), (7, _), (8, _), (9, _), (10, _), (11, _), (45, _), (63, _)] ?_ ⟨rfl, rfl, rfl, rfl, rfl, rfl, rfl, rfl, rfl, rfl, trivial⟩
                refine WP.next ?_
                refine WP.condF rfl ?_
                refine WP.skip ?_
                refine WP.leave ?_
                refine WP.next ?_
                refine WP.region [0, 1, 2] rfl ?_
                refine WP.val rfl rfl rfl rfl (Yld.move rfl rfl) ?_
                refine WP.val rfl rfl rfl rfl (Yld.add64 rfl rfl rfl (by omega)) ?_
                refine WP.val rfl rfl rfl rfl (Yld.assign rfl rfl) ?_
                refine WP.nil ?_
                refine WP.sub [(0, _), (1, _), (2, _), (7, _), (8, _), (9, _), (10, _), (11, _), (45, _), (63, _)] ?_ ⟨rfl, rfl, rfl, rfl, rfl, rfl, rfl, rfl, rfl, rfl, trivial⟩
                exact WP.again (i + 1) (by omega) (by omega) ⟨rfl, rfl, rfl, rfl, rfl, (congrArg (fun z => some (Value.bool z)) (by rw [anyT, if_neg hno])), rfl, trivial⟩ rfl (by (try dsimp only); rw [flips, if_neg hno]; exact (by (try dsimp only); repeat (first | exact Rm.chunk | exact Rm.here | apply Rm.skip | apply Rm.skipS | apply PX.cons | (apply PX.done; (repeat (first | exact Leave.done | apply Leave.drop | apply Leave.dropS)); done) | apply PX.app)))
            · have hno : ¬ (x.getLsbD i = true ∧ a + i < 8 * (frame b).length) := fun h => d1 (by have := (low_bit x i).2 h.1; omega)
              refine WP.val rfl rfl rfl rfl (Yld.move rfl rfl) ?_
              refine WP.passG rfl rfl rfl rfl rfl rfl rfl rfl ?_
              refine WP.passG rfl rfl rfl rfl rfl rfl rfl rfl ?_
              refine WP.passG rfl rfl rfl rfl rfl rfl rfl rfl ?_
              refine WP.passG rfl rfl rfl rfl rfl rfl rfl rfl ?_
              refine WP.passG rfl rfl rfl rfl rfl rfl rfl rfl ?_
              refine WP.val rfl rfl rfl rfl (Yld.pickF rfl rfl rfl) ?_
              refine WP.nil ?_
              refine WP.sub [(0, _), (1, _), (2, _), (7, _), (8, _), (9, _), (10, _), (11, _), (45, _), (63, _)] ?_ ⟨rfl, rfl, rfl, rfl, rfl, rfl, rfl, rfl, rfl, rfl, trivial⟩
              refine WP.next ?_
              refine WP.condF rfl ?_
              refine WP.skip ?_
              refine WP.leave ?_
              refine WP.next ?_
              refine WP.region [0, 1, 2] rfl ?_
              refine WP.val rfl rfl rfl rfl (Yld.move rfl rfl) ?_
              refine WP.val rfl rfl rfl rfl (Yld.add64 rfl rfl rfl (by omega)) ?_
              refine WP.val rfl rfl rfl rfl (Yld.assign rfl rfl) ?_
              refine WP.nil ?_
              refine WP.sub [(0, _), (1, _), (2, _), (7, _), (8, _), (9, _), (10, _), (11, _), (45, _), (63, _)] ?_ ⟨rfl, rfl, rfl, rfl, rfl, rfl, rfl, rfl, rfl, rfl, trivial⟩
              exact WP.again (i + 1) (by omega) (by omega) ⟨rfl, rfl, rfl, rfl, rfl, (congrArg (fun z => some (Value.bool z)) (by rw [anyT, if_neg hno])), rfl, trivial⟩ rfl (by (try dsimp only); rw [flips, if_neg hno]; exact (by (try dsimp only); repeat (first | exact Rm.chunk | exact Rm.here | apply Rm.skip | apply Rm.skipS | apply PX.cons | (apply PX.done; (repeat (first | exact Leave.done | apply Leave.drop | apply Leave.dropS)); done) | apply PX.app)))
          · obtain rfl : i = 32 := by omega
            have hfi := flips_len x (frame b) a 32
            refine WP.nil ?_
            refine WP.sub [(0, _), (1, _), (2, _), (7, _), (8, _), (9, _), (10, _), (45, _)] ?_ ⟨rfl, rfl, rfl, rfl, rfl, rfl, rfl, rfl, trivial⟩
            refine WP.next ?_
            refine WP.condF rfl ?_
            refine WP.exit ?_
            refine WP.thenE ?_
            refine WP.thenE ?_
            refine WP.hit ?_
            refine WP.next ?_
            refine WP.seq ?_
            refine WP.share (fun J1 hJ1 hb1 => ?_)
            have hb := hb.mono (im_mono hJ1)
            have hz : SlRd (fun b o => J1.blk b = some o) (.slice (some ⟨bf, 0, none⟩) (frame b).length cf) (flips x (frame b) a 32).length 1 (bytesV (flips x (frame b) a 32)) := by
              have h := Im_lit (l := flips x (frame b) a 32) (sp := spf) (c := cf) hb1 (by omega)
              rw [hfi] at h ⊢; exact h
            refine WP.region [0, 1, 2, 3, 4, 5, 6, 7, 8, 9, 10] rfl ?_
            refine WP.val rfl rfl rfl rfl (Yld.move rfl rfl) ?_
            refine WP.val rfl rfl rfl rfl (Yld.move rfl rfl) ?_
            refine WP.val rfl rfl rfl rfl (Yld.lenR hb rfl ty_sl_23 rfl) ?_
            refine WP.loud rfl rfl ?_
            refine Op.call (crc_Unframe hz (by omega) (most := (b.length : Int))) rfl Try.func17 rfl rfl rfl rfl (by repeat (first | exact Take.nil | apply Take.cons | apply Take.app | exact Rm.chunk | exact Rm.here | apply Rm.skip | apply Rm.skipS | apply Take.all)) ?_
            rintro v J L1 hJ ⟨rfl, w1, w2, M1, M2, rfl, o1, o2, rfl⟩
            clear hJ; try simp only [List.cons_append, List.nil_append, List.append_assoc]
            rw [burst_unframe ha (by omega)]
            try simp only [List.cons_append, List.nil_append, List.append_assoc]
            refine WP.val rfl rfl rfl rfl (Yld.move rfl rfl) ?_
            refine WP.val rfl rfl rfl rfl (Yld.extract rfl rfl rfl) ?_
            refine WP.val rfl rfl rfl rfl (Yld.extract rfl rfl rfl) ?_
            refine WP.val rfl rfl rfl rfl (Yld.extract rfl rfl rfl) ?_
            refine WP.val rfl rfl rfl rfl (Yld.assign rfl rfl) ?_
            refine WP.val rfl rfl rfl rfl (Yld.assign rfl rfl) ?_
            refine WP.val rfl rfl rfl rfl (Yld.assign rfl rfl) ?_
            refine WP.nil ?_
            refine WP.sub [(0, _), (1, _), (2, _), (7, _), (8, _), (9, _), (10, _), (14, _), (45, _)] ?_ ⟨rfl, rfl, rfl, rfl, rfl, rfl, rfl, rfl, rfl, trivial⟩
            refine WP.next ?_
            refine WP.seq ?_
            generalize anyT x (frame b).length a 32 = ht
            by_cases hb_ht : ht = true
            · subst hb_ht
              refine WP.region [0, 1, 2, 3, 4, 5, 6, 7, 8, 9, 10, 11, 12, 13] rfl ?_
              refine WP.val rfl rfl rfl rfl (Yld.move rfl rfl) ?_
              refine WP.val rfl rfl rfl rfl (Yld.move rfl rfl) ?_
              refine WP.valG rfl rfl rfl rfl rfl rfl rfl (Yld.move rfl rfl) ?_
              refine WP.valG rfl rfl rfl rfl rfl rfl rfl (Yld.eql rfl rfl rfl true (decide_eq_true (by simp))) ?_
              refine WP.valG rfl rfl rfl rfl rfl rfl rfl (Yld.move rfl rfl) ?_
              refine WP.passG rfl rfl rfl rfl rfl rfl rfl rfl ?_
              refine WP.passG rfl rfl rfl rfl rfl rfl rfl rfl ?_
              refine WP.passG rfl rfl rfl rfl rfl rfl rfl rfl ?_
              refine WP.passG rfl rfl rfl rfl rfl rfl rfl rfl ?_
              refine WP.passG rfl rfl rfl rfl rfl rfl rfl rfl ?_
              refine WP.passG rfl rfl rfl rfl rfl rfl rfl rfl ?_
              refine WP.valG rfl rfl rfl rfl rfl rfl rfl (Yld.pickT rfl rfl rfl) ?_
              refine WP.val rfl rfl rfl rfl (Yld.pickT rfl rfl rfl) ?_
              refine WP.val rfl rfl rfl rfl (Yld.assign rfl rfl) ?_
              refine WP.nil ?_
              refine WP.sub [(0, _), (1, _), (2, _), (6, _), (7, _), (8, _), (9, _), (10, _), (14, _), (45, _)] ?_ ⟨rfl, rfl, rfl, rfl, rfl, rfl, rfl, rfl, rfl, rfl, trivial⟩
              refine WP.back hJ1 ?_
              refine WP.next ?_
              refine WP.ret ?_
              refine WP.fin .ret (.inr rfl) (res1 rfl rfl) [] (by repeat (first | exact Take.nil | apply Take.cons | apply Take.app | exact Rm.chunk | exact Rm.here | apply Rm.skip | apply Rm.skipS | apply Take.all)) (by repeat (first | exact Leave.done | apply Leave.drop | apply Leave.dropS)) (Imm.le_refl _) ?_
              exact ⟨rfl, rfl, rfl⟩
            · obtain rfl : ht = false := by simpa using hb_ht
              refine WP.region [0, 1, 2, 3, 4, 5, 6, 7, 8, 9, 10, 11, 12, 13] rfl ?_
              refine WP.val rfl rfl rfl rfl (Yld.move rfl rfl) ?_
              refine WP.val rfl rfl rfl rfl (Yld.move rfl rfl) ?_
              refine WP.valG rfl rfl rfl rfl rfl rfl rfl (Yld.move rfl rfl) ?_
              refine WP.valG rfl rfl rfl rfl rfl rfl rfl (Yld.eql rfl rfl rfl false (decide_eq_false (by simp))) ?_
              refine WP.valG rfl rfl rfl rfl rfl rfl rfl (Yld.move rfl rfl) ?_
              refine WP.valG rfl rfl rfl rfl rfl rfl rfl (Yld.move rfl rfl) ?_
              refine WP.valG rfl rfl rfl rfl rfl rfl rfl (Yld.not rfl rfl) ?_
              refine WP.valG rfl rfl rfl rfl rfl rfl rfl (Yld.move rfl rfl) ?_
              refine WP.valG rfl rfl rfl rfl rfl rfl rfl (Yld.move rfl rfl) ?_
              refine WP.valG rfl rfl rfl rfl rfl rfl rfl (Yld.eql rfl rfl rfl true (decide_eq_true (by simp))) ?_
              refine WP.valG rfl rfl rfl rfl rfl rfl rfl (Yld.pickT rfl rfl rfl) ?_
              refine WP.valG rfl rfl rfl rfl rfl rfl rfl (Yld.pickF rfl rfl rfl) ?_
              refine WP.val rfl rfl rfl rfl (Yld.pickT rfl rfl rfl) ?_
              refine WP.val rfl rfl rfl rfl (Yld.assign rfl rfl) ?_
              refine WP.nil ?_
              refine WP.sub [(0, _), (1, _), (2, _), (6, _), (7, _), (8, _), (9, _), (10, _), (14, _), (45, _)] ?_ ⟨rfl, rfl, rfl, rfl, rfl, rfl, rfl, rfl, rfl, rfl, trivial⟩
              refine WP.back hJ1 ?_
              refine WP.next ?_
              refine WP.ret ?_
              refine WP.fin .ret (.inr rfl) (res1 rfl rfl) [] (by repeat (first | exact Take.nil | apply Take.cons | apply Take.app | exact Rm.chunk | exact Rm.here | apply Rm.skip | apply Rm.skipS | apply Take.all)) (by repeat (first | exact Leave.done | apply Leave.drop | apply Leave.dropS)) (Imm.le_refl _) ?_
              exact ⟨rfl, rfl, rfl⟩


end Go.Hp
