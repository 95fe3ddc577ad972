import Derived.Test.YtbgkfndnbngnmaaCrcM
import Derived.Test.YtbgkfndnbngnmaaTy
set_option linter.unusedVariables false
set_option linter.unusedSimpArgs false
namespace Go.Hp
open Go Go.Proofs
theorem crc_nibbles (I : Imm) : Spec Try.prog 55 [] I [] (fun v J L => v = .agg (u32s tabs).toArray ∧ I = J ∧ L = []) := by
  refine Spec.of Try.func55 rfl Try.ntmps55 (Nat.le_of_ble_eq_true rfl) (fun F => ?_)
  try simp only [List.cons_append, List.nil_append, List.append_assoc]
  dsimp only [argsEnv]
  refine WP.seq ?_
  refine WP.region [0] rfl ?_
  refine WP.loud rfl rfl ?_
  refine Op.alloc rfl rfl rfl ty_zr_82 (fun b0 => ?_)
  refine WP.nil ?_
  refine WP.next ?_
  refine WP.seq ?_
  refine WP.region [0] rfl ?_
  refine WP.loud rfl rfl ?_
  refine Op.alloc rfl rfl rfl ty_zr_82 (fun bt => ?_)
  refine WP.nil ?_
  refine WP.next ?_
  refine WP.seq ?_
  refine WP.seq ?_
  refine WP.region [0] rfl ?_
  refine WP.val rfl rfl rfl rfl (Yld.move rfl rfl) ?_
  refine WP.nil ?_
  refine WP.next ?_
  refine WP.block ?_
  rw [← part_0]
  refine WP.loop (X := Nat) (fun i : Nat => [(0, .pointer (some ⟨b0, 0, none⟩)), (1, .pointer (some ⟨bt, 0, none⟩)), (5, .int .i64 (i : Int))]) (fun _ => I) (fun i => (bt, row 82 (u32s (part i))) :: (b0, row 82 (u32s (part 0))) :: F) (fun i => i ≤ 16) (fun i => 16 - i) 0 (Nat.zero_le _) ⟨rfl, rfl, rfl, trivial⟩ rfl (by (try dsimp only); repeat (first | exact Rm.chunk | exact Rm.here | exact Rm.nil0 | apply Rm.skip | apply Rm.skipS | apply PX.cons | (apply PX.done; (repeat (first | exact Leave.done | apply Leave.drop | apply Leave.dropS)); done) | apply PX.app)) ?_
  intro i hi
  try dsimp only
  try simp only [List.cons_append, List.nil_append, List.append_assoc]
  refine WP.seq ?_
  refine WP.region [0] rfl ?_
  refine WP.split rfl rfl rfl rfl (Yld.lss rfl rfl rfl) (fun h16 => ?_) (fun h16 => ?_)
  · refine WP.nil ?_
    refine WP.next ?_
    refine WP.seq ?_
    refine WP.condT rfl ?_
    refine WP.skip ?_
    refine WP.next ?_
    refine WP.seq ?_
    refine WP.block ?_
    refine WP.seq ?_
    refine WP.region [0, 1] rfl ?_
    refine WP.val rfl rfl rfl rfl (Yld.move rfl rfl) ?_
    refine WP.val rfl rfl rfl rfl (Yld.assign rfl rfl) ?_
    refine WP.nil ?_
    refine WP.sub [(0, _), (1, _), (2, _), (5, _), (6, _)] ?_ ⟨rfl, rfl, rfl, rfl, rfl, trivial⟩
    refine WP.next ?_
    refine WP.seq ?_
    refine WP.region [0, 1, 2] rfl ?_
    refine WP.val rfl rfl rfl rfl (Yld.move rfl rfl) ?_
    refine WP.val rfl rfl rfl rfl (Yld.conv64_32 i rfl ty_un_3 ty_ik_60 rfl) ?_
    refine WP.val rfl rfl rfl rfl (Yld.assign rfl rfl) ?_
    refine WP.nil ?_
    refine WP.sub [(0, _), (1, _), (2, _), (3, _), (5, _), (6, _)] ?_ ⟨rfl, rfl, rfl, rfl, rfl, rfl, trivial⟩
    refine WP.next ?_
    refine WP.seq ?_
    refine WP.seq ?_
    refine WP.region [0] rfl ?_
    refine WP.val rfl rfl rfl rfl (Yld.move rfl rfl) ?_
    refine WP.nil ?_
    refine WP.next ?_
    refine WP.block ?_
    refine WP.loop (X := Nat) (fun k : Nat => [(0, .pointer (some ⟨b0, 0, none⟩)), (1, .pointer (some ⟨bt, 0, none⟩)), (2, .int .i64 (i : Int)), (3, .int .u32 ((bits k (BitVec.ofNat 32 i)).toNat : Int)), (5, .int .i64 (i : Int)), (10, .int .i64 (k : Int))]) (fun _ => I) (fun _ => (bt, row 82 (u32s (part i))) :: (b0, row 82 (u32s (part 0))) :: F) (fun k => k ≤ 4) (fun k => 4 - k) 0 (Nat.zero_le _) ⟨rfl, rfl, rfl, rfl, rfl, rfl, trivial⟩ rfl (by (try dsimp only); repeat (first | exact Rm.chunk | exact Rm.here | exact Rm.nil0 | apply Rm.skip | apply Rm.skipS | apply PX.cons | (apply PX.done; (repeat (first | exact Leave.done | apply Leave.drop | apply Leave.dropS)); done) | apply PX.app)) ?_
    intro k hk
    try dsimp only
    try simp only [List.cons_append, List.nil_append, List.append_assoc]
    refine WP.seq ?_
    refine WP.region [0] rfl ?_
    refine WP.split rfl rfl rfl rfl (Yld.lss rfl rfl rfl) (fun h4 => ?_) (fun h4 => ?_)
    · refine WP.nil ?_
      refine WP.next ?_
      refine WP.seq ?_
      refine WP.condT rfl ?_
      refine WP.skip ?_
      refine WP.next ?_
      refine WP.seq ?_
      refine WP.block ?_
      refine WP.seq ?_
      refine WP.region [0, 1, 2] rfl ?_
      refine WP.val rfl rfl rfl rfl (Yld.move rfl rfl) ?_
      refine WP.val rfl rfl rfl rfl (Yld.and32 (bits k (BitVec.ofNat 32 i)) 1#32 rfl rfl rfl) ?_
      refine WP.val rfl rfl rfl rfl (Yld.assign rfl rfl) ?_
      refine WP.nil ?_
      refine WP.sub [(0, _), (1, _), (2, _), (3, _), (4, _), (5, _), (10, _), (11, _)] ?_ ⟨rfl, rfl, rfl, rfl, rfl, rfl, rfl, rfl, trivial⟩
      refine WP.next ?_
      refine WP.seq ?_
      refine WP.region [0, 1, 2] rfl ?_
      refine WP.val rfl rfl rfl rfl (Yld.move rfl rfl) ?_
      refine WP.val rfl rfl rfl rfl (Yld.shr32 (bits k (BitVec.ofNat 32 i)) 1 rfl rfl rfl (by decide)) ?_
      refine WP.val rfl rfl rfl rfl (Yld.assign rfl rfl) ?_
      refine WP.nil ?_
      refine WP.sub [(0, _), (1, _), (2, _), (3, _), (4, _), (5, _), (10, _), (11, _)] ?_ ⟨rfl, rfl, rfl, rfl, rfl, rfl, rfl, rfl, trivial⟩
      refine WP.next ?_
      refine WP.seq ?_
      refine WP.region [0, 1] rfl ?_
      refine WP.val rfl rfl rfl rfl (Yld.move rfl rfl) ?_
      refine WP.split rfl rfl rfl rfl (Yld.eql rfl rfl rfl) (fun hb => ?_) (fun hb => ?_)
      · refine WP.nil ?_
        refine WP.sub [(0, _), (1, _), (2, _), (3, _), (4, _), (5, _), (10, _), (11, _), (17, _)] ?_ ⟨rfl, rfl, rfl, rfl, rfl, rfl, rfl, rfl, rfl, trivial⟩
        refine WP.next ?_
        refine WP.condT rfl ?_
        refine WP.region [0, 1, 2] rfl ?_
        refine WP.val rfl rfl rfl rfl (Yld.move rfl rfl) ?_
        refine WP.val rfl rfl rfl rfl (Yld.xor32 (bits k (BitVec.ofNat 32 i) >>> 1) 2197175160#32 rfl rfl rfl) ?_
        refine WP.val rfl rfl rfl rfl (Yld.assign rfl rfl) ?_
        refine WP.nil ?_
        refine WP.sub [(0, _), (1, _), (2, _), (3, _), (4, _), (5, _), (10, _), (11, _), (17, _)] ?_ ⟨rfl, rfl, rfl, rfl, rfl, rfl, rfl, rfl, rfl, trivial⟩
        refine WP.leave ?_
        refine WP.next ?_
        refine WP.region [0, 1] rfl ?_
        refine WP.val rfl rfl rfl rfl (Yld.add64 rfl rfl rfl (by omega)) ?_
        refine WP.val rfl rfl rfl rfl (Yld.move rfl rfl) ?_
        refine WP.nil ?_
        refine WP.sub [(0, _), (1, _), (2, _), (3, _), (4, _), (5, _), (10, _), (11, _), (17, _)] ?_ ⟨rfl, rfl, rfl, rfl, rfl, rfl, rfl, rfl, rfl, trivial⟩
        exact WP.again (k + 1) (by omega) (by omega) ⟨rfl, rfl, rfl, (congrArg (fun z : BitVec 32 => some (Value.int .u32 (z.toNat : Int))) (by rw [bits_succ]; simp only [bit]; rw [if_pos (u32_inj hb)])), rfl, rfl, trivial⟩ rfl (by (try dsimp only); repeat (first | exact Rm.chunk | exact Rm.here | exact Rm.nil0 | apply Rm.skip | apply Rm.skipS | apply PX.cons | (apply PX.done; (repeat (first | exact Leave.done | apply Leave.drop | apply Leave.dropS)); done) | apply PX.app))
      · refine WP.nil ?_
        refine WP.sub [(0, _), (1, _), (2, _), (3, _), (4, _), (5, _), (10, _), (11, _), (17, _)] ?_ ⟨rfl, rfl, rfl, rfl, rfl, rfl, rfl, rfl, rfl, trivial⟩
        refine WP.next ?_
        refine WP.condF rfl ?_
        refine WP.skip ?_
        refine WP.leave ?_
        refine WP.next ?_
        refine WP.region [0, 1] rfl ?_
        refine WP.val rfl rfl rfl rfl (Yld.add64 rfl rfl rfl (by omega)) ?_
        refine WP.val rfl rfl rfl rfl (Yld.move rfl rfl) ?_
        refine WP.nil ?_
        refine WP.sub [(0, _), (1, _), (2, _), (3, _), (4, _), (5, _), (10, _), (11, _), (17, _)] ?_ ⟨rfl, rfl, rfl, rfl, rfl, rfl, rfl, rfl, rfl, trivial⟩
        exact WP.again (k + 1) (by omega) (by omega) ⟨rfl, rfl, rfl, (congrArg (fun z : BitVec 32 => some (Value.int .u32 (z.toNat : Int))) (by rw [bits_succ]; simp only [bit]; rw [if_neg (fun h => hb (by rw [h]; rfl))])), rfl, rfl, trivial⟩ rfl (by (try dsimp only); repeat (first | exact Rm.chunk | exact Rm.here | exact Rm.nil0 | apply Rm.skip | apply Rm.skipS | apply PX.cons | (apply PX.done; (repeat (first | exact Leave.done | apply Leave.drop | apply Leave.dropS)); done) | apply PX.app))
    · obtain rfl : k = 4 := by omega
      refine WP.nil ?_
      refine WP.next ?_
      refine WP.seq ?_
      refine WP.condF rfl ?_
      refine WP.exit ?_
      refine WP.thenE ?_
      refine WP.thenE ?_
      refine WP.hit ?_
      refine WP.next ?_
      refine WP.region [0, 1, 2, 3] rfl ?_
      refine WP.val rfl rfl rfl rfl (Yld.move rfl rfl) ?_
      refine WP.val rfl rfl rfl rfl (Yld.move rfl rfl) ?_
      refine WP.val rfl rfl rfl rfl (Yld.indexAddrA rfl ty_ar_82 rfl rfl (by omega)) ?_
      refine WP.loud rfl rfl ?_
      refine Op.store1 rfl rfl ty_sz_60 rfl rfl rfl (by repeat (first | exact Upd.head | apply Upd.tail | apply Upd.tailS)) (part_set (by omega)) ?_
      refine WP.nil ?_
      refine WP.sub [(0, _), (1, _), (2, _), (3, _), (5, _), (10, _), (11, _)] ?_ ⟨rfl, rfl, rfl, rfl, rfl, rfl, rfl, trivial⟩
      refine WP.leave ?_
      refine WP.next ?_
      refine WP.region [0, 1] rfl ?_
      refine WP.val rfl rfl rfl rfl (Yld.add64 rfl rfl rfl (by omega)) ?_
      refine WP.val rfl rfl rfl rfl (Yld.move rfl rfl) ?_
      refine WP.nil ?_
      refine WP.sub [(0, _), (1, _), (2, _), (3, _), (5, _), (10, _), (11, _)] ?_ ⟨rfl, rfl, rfl, rfl, rfl, rfl, rfl, trivial⟩
      exact WP.again (i + 1) (by omega) (by omega) ⟨rfl, rfl, rfl, trivial⟩ rfl (by (try dsimp only); repeat (first | exact Rm.chunk | exact Rm.here | exact Rm.nil0 | apply Rm.skip | apply Rm.skipS | apply PX.cons | (apply PX.done; (repeat (first | exact Leave.done | apply Leave.drop | apply Leave.dropS)); done) | apply PX.app))
  · obtain rfl : i = 16 := by omega
    refine WP.nil ?_
    refine WP.next ?_
    refine WP.seq ?_
    refine WP.condF rfl ?_
    refine WP.exit ?_
    refine WP.thenE ?_
    refine WP.thenE ?_
    refine WP.hit ?_
    refine WP.next ?_
    refine WP.seq ?_
    refine WP.region [0, 1] rfl ?_
    refine WP.val rfl rfl rfl rfl (Yld.loadAll rfl ty_ag_82 rfl (by repeat (first | exact There.h | exact There.i (by assumption) | apply There.t | apply There.s)) rfl) ?_
    refine WP.loud rfl rfl ?_
    refine Op.storeAll rfl rfl ty_sz_82 rfl rfl rfl (u32s_one _) (by repeat (first | exact Upd.head | apply Upd.tail | apply Upd.tailS)) rfl ?_
    refine WP.nil ?_
    refine WP.sub [(0, _), (1, _), (5, _), (6, _)] ?_ ⟨rfl, rfl, rfl, rfl, trivial⟩
    refine WP.next ?_
    refine WP.ret ?_
    refine WP.fin .ret (.inr rfl) (resC rfl ty_ag_82 rfl (by repeat (first | exact There.h | exact There.i (by assumption) | apply There.t | apply There.s)) rfl) [] (by repeat (first | exact Take.nil | with_reducible apply Take.cons | apply Take.app | exact Rm.chunk | exact Rm.here | exact Rm.nil0 | apply Rm.skip | apply Rm.skipS | (focus (apply Take.all; (repeat (first | exact Rm.chunk | exact Rm.here | exact Rm.nil0 | apply Rm.skip | apply Rm.skipS)); done)) | apply Take.cons)) (by repeat (first | exact Leave.done | apply Leave.drop | apply Leave.dropS)) (Imm.le_refl _) ?_
    exact ⟨rfl, rfl, rfl⟩


end Go.Hp
