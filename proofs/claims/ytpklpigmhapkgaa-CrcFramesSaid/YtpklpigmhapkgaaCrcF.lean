import Derived.Test.YtpklpigmhapkgaaCrcE
set_option linter.unusedVariables false
set_option linter.unusedSimpArgs false
namespace Go.Hp
open Go Go.Proofs

/-- What Unframe answers. -/
def unframe (b : List UInt8) (most : Int) : List UInt8 × List UInt8 × Int :=
  if b.length < 8 then ([], [], 20)
  else if most < ((word b).toNat : Int) then ([], [], 2)
  else if (b.length : Int) - 8 < ((word b).toNat : Int) then ([], [], 20)
  else if ¬ word (b.drop 4) = crcAdd (crcOf (b.take 4)) ((b.drop 8).take (word b).toNat) then ([], [], 21)
  else ((b.drop 8).take (word b).toNat, b.drop (8 + (word b).toNat), 0)
theorem sub_rd {V : Nat → Obj → Prop} {v : Value} {bs : List UInt8} {l h : Nat} (hv : SlRd V v bs.length 1 (bytesV bs)) (h1 : l ≤ h) (h2 : h ≤ bs.length) : SlRd V (subSl 1 l h v) ((bs.drop l).take (h - l)).length 1 (bytesV ((bs.drop l).take (h - l))) := by
  have := hv.sub h1 h2
  rw [Nat.mul_one, Nat.mul_one, bytesV_drop, bytesV_take] at this
  have e : ((bs.drop l).take (h - l)).length = h - l := by simp; omega
  rw [e]; exact this
theorem crc_Unframe {I : Imm} {bs : List UInt8} {vb : Value} {most : Int} (hb : SlRd (fun b o => I.blk b = some o) vb bs.length 1 (bytesV bs)) (hbl : bs.length ≤ 140737488355320) : Spec Try.prog 17 [vb, .int .i64 most] I [] (fun v J L => I = J ∧ ∃ v1 v2 La Lb, v = .tuple #[v1, v2, .int .i64 (unframe bs most).2.2] ∧ Own 5 1 v1 (bytesV (unframe bs most).1) (unframe bs most).1.length La ∧ Own 5 1 v2 (bytesV (unframe bs most).2.1) (unframe bs most).2.1.length Lb ∧ L = La ++ Lb) := by
  refine Spec.of Try.func17 rfl Try.ntmps17 (Nat.le_of_ble_eq_true rfl) (fun F => ?_)
  try simp only [List.cons_append, List.nil_append, List.append_assoc]
  dsimp only [argsEnv]
  refine WP.seq ?_
  refine WP.region [0, 1, 2] rfl ?_
  refine WP.val rfl rfl rfl rfl (Yld.assign rfl rfl) ?_
  refine WP.val rfl rfl rfl rfl (Yld.assign rfl rfl) ?_
  refine WP.val rfl rfl rfl rfl (Yld.assign rfl rfl) ?_
  refine WP.nil ?_
  refine WP.next ?_
  refine WP.seq ?_
  refine WP.seq ?_
  refine WP.region [0, 1, 2] rfl ?_
  refine WP.val rfl rfl rfl rfl (Yld.move rfl rfl) ?_
  refine WP.val rfl rfl rfl rfl (Yld.lenR hb rfl ty_sl_23 rfl) ?_
  refine WP.split rfl rfl rfl rfl (Yld.lss rfl rfl rfl) (fun hl8 => ?_) (fun hl8 => ?_)
  · refine WP.nil ?_
    refine WP.sub [(0, _), (1, _), (4, _), (5, _), (6, _), (10, _)] ?_ ⟨rfl, rfl, rfl, rfl, rfl, rfl, trivial⟩
    refine WP.next ?_
    refine WP.condT rfl ?_
    refine WP.seq ?_
    refine WP.region [0, 1, 2] rfl ?_
    refine WP.val rfl rfl rfl rfl (Yld.assign rfl rfl) ?_
    refine WP.val rfl rfl rfl rfl (Yld.assign rfl rfl) ?_
    refine WP.val rfl rfl rfl rfl (Yld.assign rfl rfl) ?_
    refine WP.nil ?_
    refine WP.next ?_
    refine WP.ret ?_
    refine WP.fin .ret (.inr rfl) (res3 rfl rfl rfl rfl) [] (by repeat (first | exact Take.nil | apply Take.cons | apply Take.app | exact Rm.chunk | exact Rm.here | apply Rm.skip | apply Rm.skipS | apply Take.all)) (by repeat (first | exact Leave.done | apply Leave.drop | apply Leave.dropS)) (Imm.le_refl _) ?_
    have hr : unframe bs most = ([], [], 20) := by unfold unframe; rw [if_pos (by omega)]
    rw [hr]; exact ⟨rfl, _, _, [], [], rfl, .none0, .none0, rfl⟩
  · refine WP.nil ?_
    refine WP.sub [(0, _), (1, _), (4, _), (5, _), (6, _), (10, _)] ?_ ⟨rfl, rfl, rfl, rfl, rfl, rfl, trivial⟩
    refine WP.next ?_
    refine WP.condF rfl ?_
    refine WP.skip ?_
    refine WP.next ?_
    refine WP.seq ?_
    refine WP.region [0, 1, 2, 3] rfl ?_
    refine WP.val rfl rfl rfl rfl (Yld.move rfl rfl) ?_
    refine WP.loud rfl rfl ?_
    refine Op.call (crc_number hb (by omega)) rfl Try.func23 rfl rfl rfl rfl (by repeat (first | exact Take.nil | apply Take.cons | apply Take.app | exact Rm.chunk | exact Rm.here | apply Rm.skip | apply Rm.skipS | apply Take.all)) ?_
    rintro v J L1 hJ ⟨rfl, rfl, rfl⟩
    clear hJ; try simp only [List.cons_append, List.nil_append, List.append_assoc]
    refine WP.val rfl rfl rfl rfl (Yld.conv32_64 (word bs) rfl ty_un_22 ty_ik_3 rfl) ?_
    refine WP.val rfl rfl rfl rfl (Yld.assign rfl rfl) ?_
    refine WP.nil ?_
    refine WP.sub [(0, _), (1, _), (4, _), (5, _), (6, _), (7, _), (10, _)] ?_ ⟨rfl, rfl, rfl, rfl, rfl, rfl, rfl, trivial⟩
    refine WP.next ?_
    refine WP.seq ?_
    refine WP.block ?_
    refine WP.seq ?_
    refine WP.region [0, 1, 2, 3] rfl ?_
    refine WP.val rfl rfl rfl rfl (Yld.move rfl rfl) ?_
    refine WP.val rfl rfl rfl rfl (Yld.move rfl rfl) ?_
    refine WP.split rfl rfl rfl rfl (Yld.gtr rfl rfl rfl) (fun g1 => ?_) (fun g1 => ?_)
    · refine WP.val rfl rfl rfl rfl (Yld.assign rfl rfl) ?_
      refine WP.nil ?_
      refine WP.sub [(0, _), (1, _), (4, _), (5, _), (6, _), (7, _), (10, _), (14, _)] ?_ ⟨rfl, rfl, rfl, rfl, rfl, rfl, rfl, rfl, trivial⟩
      refine WP.next ?_
      refine WP.condT rfl ?_
      refine WP.seq ?_
      refine WP.region [0, 1, 2] rfl ?_
      refine WP.val rfl rfl rfl rfl (Yld.assign rfl rfl) ?_
      refine WP.val rfl rfl rfl rfl (Yld.assign rfl rfl) ?_
      refine WP.val rfl rfl rfl rfl (Yld.assign rfl rfl) ?_
      refine WP.nil ?_
      refine WP.next ?_
      refine WP.ret ?_
      refine WP.fin .ret (.inr rfl) (res3 rfl rfl rfl rfl) [] (by repeat (first | exact Take.nil | apply Take.cons | apply Take.app | exact Rm.chunk | exact Rm.here | apply Rm.skip | apply Rm.skipS | apply Take.all)) (by repeat (first | exact Leave.done | apply Leave.drop | apply Leave.dropS)) (Imm.le_refl _) ?_
      have hr : unframe bs most = ([], [], 2) := by unfold unframe; rw [if_neg (by omega), if_pos g1]
      rw [hr]; exact ⟨rfl, _, _, [], [], rfl, .none0, .none0, rfl⟩
    · refine WP.val rfl rfl rfl rfl (Yld.assign rfl rfl) ?_
      refine WP.nil ?_
      refine WP.sub [(0, _), (1, _), (4, _), (5, _), (6, _), (7, _), (10, _), (14, _)] ?_ ⟨rfl, rfl, rfl, rfl, rfl, rfl, rfl, rfl, trivial⟩
      refine WP.next ?_
      refine WP.condF rfl ?_
      refine WP.seq ?_
      refine WP.region [0, 1, 2, 3, 4, 5] rfl ?_
      refine WP.val rfl rfl rfl rfl (Yld.move rfl rfl) ?_
      refine WP.val rfl rfl rfl rfl (Yld.move rfl rfl) ?_
      refine WP.val rfl rfl rfl rfl (Yld.lenR hb rfl ty_sl_23 rfl) ?_
      refine WP.val rfl rfl rfl rfl (Yld.sub64 rfl rfl rfl (by omega)) ?_
      refine WP.split rfl rfl rfl rfl (Yld.gtr rfl rfl rfl) (fun g2 => ?_) (fun g2 => ?_)
      · refine WP.val rfl rfl rfl rfl (Yld.assign rfl rfl) ?_
        refine WP.nil ?_
        refine WP.sub [(0, _), (1, _), (4, _), (5, _), (6, _), (7, _), (10, _), (14, _), (18, _)] ?_ ⟨rfl, rfl, rfl, rfl, rfl, rfl, rfl, rfl, rfl, trivial⟩
        refine WP.next ?_
        refine WP.condT rfl ?_
        refine WP.seq ?_
        refine WP.region [0, 1, 2] rfl ?_
        refine WP.val rfl rfl rfl rfl (Yld.assign rfl rfl) ?_
        refine WP.val rfl rfl rfl rfl (Yld.assign rfl rfl) ?_
        refine WP.val rfl rfl rfl rfl (Yld.assign rfl rfl) ?_
        refine WP.nil ?_
        refine WP.next ?_
        refine WP.ret ?_
        refine WP.fin .ret (.inr rfl) (res3 rfl rfl rfl rfl) [] (by repeat (first | exact Take.nil | apply Take.cons | apply Take.app | exact Rm.chunk | exact Rm.here | apply Rm.skip | apply Rm.skipS | apply Take.all)) (by repeat (first | exact Leave.done | apply Leave.drop | apply Leave.dropS)) (Imm.le_refl _) ?_
        have hr : unframe bs most = ([], [], 20) := by unfold unframe; rw [if_neg (by omega), if_neg g1, if_pos g2]
        rw [hr]; exact ⟨rfl, _, _, [], [], rfl, .none0, .none0, rfl⟩
      · refine WP.val rfl rfl rfl rfl (Yld.assign rfl rfl) ?_
        refine WP.nil ?_
        refine WP.sub [(0, _), (1, _), (4, _), (5, _), (6, _), (7, _), (10, _), (14, _), (18, _)] ?_ ⟨rfl, rfl, rfl, rfl, rfl, rfl, rfl, rfl, rfl, trivial⟩
        refine WP.next ?_
        refine WP.condF rfl ?_
        refine WP.seq ?_
        have hwn : 8 + (word bs).toNat ≤ bs.length := by omega
        have s1 := sub_rd (l := 4) (h := bs.length) hb (by omega) (Nat.le_refl _)
        have s2 := sub_rd (l := 0) (h := 4) hb (by omega) (by omega)
        have s3 := sub_rd (l := 8) (h := 8 + (word bs).toNat) hb (by omega) (by omega)
        have z1 : (bs.drop 4).take (bs.length - 4) = bs.drop 4 := List.take_of_length_le (by simp)
        have z3 : 8 + (word bs).toNat - 8 = (word bs).toNat := by omega
        rw [z1] at s1
        rw [z3] at s3
        have s2' : SlRd (fun b o => I.blk b = some o) (subSl 1 0 4 vb) (bs.take 4).length 1 (bytesV (bs.take 4)) := s2
        have h4 : word (bs.drop 4) = word (bs.drop 4) := rfl
        refine WQ.startAll Trymixed (by kernel_rfl) _ rfl ?_
        refine WQ.val rfl rfl rfl (Yld.move rfl rfl) ?_
        refine WQ.val rfl rfl rfl (Yld.sliceR (l := 4) (h := bs.length) hb rfl ty_sl_23 rfl (Env.limS (n := 4) rfl) Env.lim0 (by omega) (by omega)) ?_
        refine WQ.call (crc_number s1 (by rw [List.length_drop]; omega)) (by rintro v' J L1 ⟨rfl, rfl, rfl⟩; exact ⟨rfl, rfl, rfl⟩) rfl Try.func23 rfl rfl rfl rfl rfl (by repeat (first | exact Take.nil | apply Take.cons | apply Take.app | exact Rm.chunk | exact Rm.here | apply Rm.skip | apply Rm.skipS | apply Take.all)) ?_
        refine WQ.val rfl rfl rfl (Yld.move rfl rfl) ?_
        refine WQ.val rfl rfl rfl (Yld.sliceR (l := 0) (h := 4) hb rfl ty_sl_23 rfl Env.lim0 (Env.limS (n := 4) rfl) (by omega) (by omega)) ?_
        refine WQ.call (crc_Of s2' (by simp; omega)) (by rintro v' J L1 ⟨rfl, rfl, rfl⟩; exact ⟨rfl, rfl, rfl⟩) rfl Try.func10 rfl rfl rfl rfl rfl (by repeat (first | exact Take.nil | apply Take.cons | apply Take.app | exact Rm.chunk | exact Rm.here | apply Rm.skip | apply Rm.skipS | apply Take.all)) ?_
        refine WQ.val rfl rfl rfl (Yld.move rfl rfl) ?_
        refine WQ.val rfl rfl rfl (Yld.move rfl rfl) ?_
        refine WQ.val rfl rfl rfl (Yld.add64 rfl rfl rfl (by omega)) ?_
        refine WQ.val rfl rfl rfl (Yld.sliceR (l := 8) (h := 8 + (word bs).toNat) hb rfl ty_sl_23 rfl (Env.limS (n := 8) rfl) (Env.limS (n := 8 + (word bs).toNat) (congrArg (fun z => some (Value.int .i64 z)) (by omega))) (by omega) (by omega)) ?_
        refine WQ.call (crc_Add s3 (by simp; omega) (s := crcOf (bs.take 4))) (by rintro v' J L1 ⟨rfl, rfl, rfl⟩; exact ⟨rfl, rfl, rfl⟩) rfl Try.func11 rfl rfl rfl rfl rfl (by repeat (first | exact Take.nil | apply Take.cons | apply Take.app | exact Rm.chunk | exact Rm.here | apply Rm.skip | apply Rm.skipS | apply Take.all)) ?_
        refine WQ.split rfl rfl rfl (Yld.neq rfl rfl rfl) (fun g3 => ?_) (fun g3 => ?_)
        · refine WQ.val rfl rfl rfl (Yld.assign rfl rfl) ?_
          refine WQ.nil ?_
          refine WP.sub [(0, _), (1, _), (4, _), (5, _), (6, _), (7, _), (10, _), (14, _), (18, _), (24, _)] ?_ ⟨rfl, rfl, rfl, rfl, rfl, rfl, rfl, rfl, rfl, rfl, trivial⟩
          refine WP.next ?_
          refine WP.condT rfl ?_
          refine WP.seq ?_
          refine WP.region [0, 1, 2] rfl ?_
          refine WP.val rfl rfl rfl rfl (Yld.assign rfl rfl) ?_
          refine WP.val rfl rfl rfl rfl (Yld.assign rfl rfl) ?_
          refine WP.val rfl rfl rfl rfl (Yld.assign rfl rfl) ?_
          refine WP.nil ?_
          refine WP.next ?_
          refine WP.ret ?_
          refine WP.fin .ret (.inr rfl) (res3 rfl rfl rfl rfl) [] (by repeat (first | exact Take.nil | apply Take.cons | apply Take.app | exact Rm.chunk | exact Rm.here | apply Rm.skip | apply Rm.skipS | apply Take.all)) (by repeat (first | exact Leave.done | apply Leave.drop | apply Leave.dropS)) (Imm.le_refl _) ?_
          have hr : unframe bs most = ([], [], 21) := by unfold unframe; rw [if_neg (by omega), if_neg g1, if_neg g2, if_pos (fun h => g3 (by rw [h4, h]))]
          rw [hr]; exact ⟨rfl, _, _, [], [], rfl, .none0, .none0, rfl⟩
        · refine WQ.val rfl rfl rfl (Yld.assign rfl rfl) ?_
          refine WQ.nil ?_
          refine WP.sub [(0, _), (1, _), (4, _), (5, _), (6, _), (7, _), (10, _), (14, _), (18, _), (24, _)] ?_ ⟨rfl, rfl, rfl, rfl, rfl, rfl, rfl, rfl, rfl, rfl, trivial⟩
          refine WP.next ?_
          refine WP.condF rfl ?_
          refine WP.skip ?_
          refine WP.leave ?_
          refine WP.next ?_
          refine WP.seq ?_
          have s4 := sub_rd (l := 8 + (word bs).toNat) (h := bs.length) hb (by omega) (Nat.le_refl _)
          have z4 : (bs.drop (8 + (word bs).toNat)).take (bs.length - (8 + (word bs).toNat)) = bs.drop (8 + (word bs).toNat) := List.take_of_length_le (by simp)
          rw [z4] at s4
          refine WD.start Trymixed 9 (fun _ _ => False) (fun _ _ => False) (fun _ _ h => h.elim) (fun _ _ h => h.elim) 13 [false, false, false, false, false, false, false, false, false, false, false, false, false] rfl rfl ?_
          refine WD.val (i := 0) rfl rfl rfl rfl (by kernel_rfl) rfl (Yld.move rfl rfl) ?_
          refine WD.val (i := 1) rfl rfl rfl rfl (by kernel_rfl) rfl (Yld.move rfl rfl) ?_
          refine WD.val (i := 2) rfl rfl rfl rfl (by kernel_rfl) rfl (Yld.add64 rfl rfl rfl (by omega)) ?_
          refine WD.val (i := 3) rfl rfl rfl rfl (by kernel_rfl) rfl (Yld.sliceR (l := 8) (h := 8 + (word bs).toNat) hb rfl ty_sl_23 rfl (Env.limS (n := 8) rfl) (Env.limS (n := 8 + (word bs).toNat) (congrArg (fun z => some (Value.int .i64 z)) (by omega))) (by omega) (by omega)) ?_
          refine WD.val (i := 5) rfl rfl rfl rfl (by kernel_rfl) rfl (Yld.move rfl rfl) ?_
          refine WD.val (i := 6) rfl rfl rfl rfl (by kernel_rfl) rfl (Yld.move rfl rfl) ?_
          refine WD.val (i := 7) rfl rfl rfl rfl (by kernel_rfl) rfl (Yld.add64 rfl rfl rfl (by omega)) ?_
          refine WD.val (i := 8) rfl rfl rfl rfl (by kernel_rfl) rfl (Yld.sliceR (l := 8 + (word bs).toNat) (h := bs.length) hb rfl ty_sl_23 rfl (Env.limS (n := 8 + (word bs).toNat) (congrArg (fun z => some (Value.int .i64 z)) (by omega))) Env.lim0 (by omega) (by omega)) ?_
          refine WD.loud (i := 4) (by kernel_rfl) rfl rfl rfl ?_
          refine Op.call (crc_copied s3 (by simp; omega)) rfl Try.func24 rfl rfl rfl rfl (by repeat (first | exact Take.nil | apply Take.cons | apply Take.app | exact Rm.chunk | exact Rm.here | apply Rm.skip | apply Rm.skipS | apply Take.all)) ?_
          rintro v J L1' hJ ⟨rfl, h1o⟩
          clear hJ; try simp only [List.cons_append, List.nil_append, List.append_assoc]
          refine WD.go (.inr (fun _ _ h => h.elim)) (fun _ _ h => h.elim) ?_
          refine WD.loud (i := 9) (by kernel_rfl) rfl rfl rfl ?_
          refine Op.call (crc_copied s4 (by simp; omega)) rfl Try.func24 rfl rfl rfl rfl (by repeat (first | exact Take.nil | apply Take.cons | apply Take.app | exact Rm.chunk | exact Rm.here | apply Rm.skip | apply Rm.skipS | apply Take.all)) ?_
          rintro v J L2' hJ ⟨rfl, h2o⟩
          clear hJ; try simp only [List.cons_append, List.nil_append, List.append_assoc]
          refine WD.go (.inl rfl) (fun _ _ h => h.elim) ?_
          refine WD.val (i := 10) rfl rfl rfl rfl (by kernel_rfl) rfl (Yld.assign rfl rfl) ?_
          refine WD.val (i := 11) rfl rfl rfl rfl (by kernel_rfl) rfl (Yld.assign rfl rfl) ?_
          refine WD.val (i := 12) rfl rfl rfl rfl (by kernel_rfl) rfl (Yld.assign rfl rfl) ?_
          refine WD.done (by kernel_rfl) ?_
          refine WP.sub [(0, _), (1, _), (4, _), (5, _), (6, _), (7, _), (10, _), (14, _), (18, _), (24, _)] ?_ ⟨rfl, rfl, rfl, rfl, rfl, rfl, rfl, rfl, rfl, rfl, trivial⟩
          refine WP.next ?_
          refine WP.ret ?_
          refine WP.fin .ret (.inr rfl) (res3 rfl rfl rfl rfl) (L1' ++ L2') (by repeat (first | exact Take.nil | apply Take.cons | apply Take.app | exact Rm.chunk | exact Rm.here | apply Rm.skip | apply Rm.skipS | apply Take.all)) (by repeat (first | exact Leave.done | apply Leave.drop | apply Leave.dropS)) (Imm.le_refl _) ?_
          have hr : unframe bs most = ((bs.drop 8).take (word bs).toNat, bs.drop (8 + (word bs).toNat), 0) := by unfold unframe; rw [if_neg (by omega), if_neg g1, if_neg g2, if_neg (fun h => h (by rw [← h4]; exact u32_inj (Classical.not_not.1 g3)))]
          rw [hr]; exact ⟨rfl, _, _, L1', L2', rfl, h1o, h2o, rfl⟩


end Go.Hp
