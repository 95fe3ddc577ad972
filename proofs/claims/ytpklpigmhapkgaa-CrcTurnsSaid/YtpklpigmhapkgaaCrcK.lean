import Derived.Test.YtpklpigmhapkgaaCrcJ
set_option linter.unusedVariables false
set_option linter.unusedSimpArgs false
namespace Go.Hp
open Go Go.Proofs

def mix (a b : List UInt8) (m i : Nat) : List UInt8 := List.zipWith xorB (a.take i) (b.take i) ++ List.replicate (m - i) 0
theorem mix_len {a b : List UInt8} {m i : Nat} (hi : i ≤ m) (ha : m ≤ a.length) (hb : m ≤ b.length) : (mix a b m i).length = m := by simp [mix]; omega
theorem mix_set {a b : List UInt8} {m i : Nat} (hi : i < m) (ha : m ≤ a.length) (hb : m ≤ b.length) : SetAt (bytesV (mix a b m i)) (0 + i * 1) (byteV ⟨(a[i]'(by omega)).toBitVec ^^^ (b[i]'(by omega)).toBitVec⟩) (bytesV (mix a b m (i + 1))) := by
  have h := set_byte (l := mix a b m i) (k := i) ⟨(a[i]'(by omega)).toBitVec ^^^ (b[i]'(by omega)).toBitVec⟩ (by rw [mix_len (by omega) ha hb]; exact hi)
  have e : (mix a b m i).set i ⟨(a[i]'(by omega)).toBitVec ^^^ (b[i]'(by omega)).toBitVec⟩ = mix a b m (i + 1) := by
    unfold mix
    have hl : (List.zipWith xorB (a.take i) (b.take i)).length = i := by simp; omega
    rw [List.set_append_right _ _ (by omega), hl, Nat.sub_self, show m - i = (m - (i + 1)) + 1 by omega, List.replicate_succ, List.set_cons_zero, List.take_succ_eq_append_getElem (show i < a.length by omega), List.take_succ_eq_append_getElem (show i < b.length by omega), List.zipWith_append (by simp; omega)]
    simp [xorB]
  rwa [e] at h
theorem crc_CrcTurns {I : Imm} {a b : List UInt8} {va vb : Value} (ha : SlRd (fun b o => I.blk b = some o) va a.length 1 (bytesV a)) (hb : SlRd (fun b o => I.blk b = some o) vb b.length 1 (bytesV b)) (la : a.length ≤ 140737488351232) (lb : b.length ≤ 140737488351232) : Spec Try.prog 7 [va, vb] I [] (fun v J L => v = .bool true ∧ I = J ∧ L = []) := by
  refine Spec.of Try.func7 rfl Try.ntmps7 (Nat.le_of_ble_eq_true rfl) (fun F => ?_)
  try simp only [List.cons_append, List.nil_append, List.append_assoc]
  dsimp only [argsEnv]
  refine WP.seq ?_
  refine WP.region [0] rfl ?_
  refine WP.val rfl rfl rfl rfl (Yld.assign rfl rfl) ?_
  refine WP.nil ?_
  refine WP.next ?_
  refine WP.seq ?_
  refine WP.region [0, 1] rfl ?_
  refine WP.loud rfl rfl ?_
  refine Op.call (crc_awake _) rfl Try.func8 rfl rfl rfl rfl (by repeat (first | exact Take.nil | apply Take.cons | apply Take.app | exact Rm.chunk | exact Rm.here | apply Rm.skip | apply Rm.skipS | apply Take.all)) ?_
  rintro v J L1 hJ ⟨rfl, rfl, rfl⟩
  clear hJ; try simp only [List.cons_append, List.nil_append, List.append_assoc]
  refine WP.val rfl rfl rfl rfl (Yld.assign rfl rfl) ?_
  refine WP.nil ?_
  refine WP.sub [(0, _), (1, _), (4, _), (5, _)] ?_ ⟨rfl, rfl, rfl, rfl, trivial⟩
  refine WP.next ?_
  refine WP.seq ?_
  refine WP.region [0, 1, 2] rfl ?_
  refine WP.val rfl rfl rfl rfl (Yld.move rfl rfl) ?_
  refine WP.val rfl rfl rfl rfl (Yld.lenR ha rfl ty_sl_23 rfl) ?_
  refine WP.val rfl rfl rfl rfl (Yld.assign rfl rfl) ?_
  refine WP.nil ?_
  refine WP.sub [(0, _), (1, _), (4, _), (5, _), (6, _)] ?_ ⟨rfl, rfl, rfl, rfl, rfl, trivial⟩
  refine WP.next ?_
  refine WP.cut (X := Nat) (fun m : Nat => [(0, va), (1, vb), (5, .bool true), (6, .int .i64 (m : Int))]) (fun _ => I) (fun _ => F) (fun m => m ≤ a.length ∧ m ≤ b.length) ?_ ?_
  · skip
    refine WP.seq ?_
    refine WP.region [0, 1, 2, 3] rfl ?_
    refine WP.val rfl rfl rfl rfl (Yld.move rfl rfl) ?_
    refine WP.val rfl rfl rfl rfl (Yld.lenR hb rfl ty_sl_23 rfl) ?_
    refine WP.val rfl rfl rfl rfl (Yld.move rfl rfl) ?_
    refine WP.split rfl rfl rfl rfl (Yld.lss rfl rfl rfl) (fun hlt => ?_) (fun hlt => ?_)
    · refine WP.nil ?_
      refine WP.sub [(0, _), (1, _), (4, _), (5, _), (6, _), (15, _)] ?_ ⟨rfl, rfl, rfl, rfl, rfl, rfl, trivial⟩
      refine WP.next ?_
      refine WP.condT rfl ?_
      refine WP.region [0, 1, 2] rfl ?_
      refine WP.val rfl rfl rfl rfl (Yld.move rfl rfl) ?_
      refine WP.val rfl rfl rfl rfl (Yld.lenR hb rfl ty_sl_23 rfl) ?_
      refine WP.val rfl rfl rfl rfl (Yld.assign rfl rfl) ?_
      refine WP.nil ?_
      refine WP.sub [(0, _), (1, _), (4, _), (5, _), (6, _), (15, _)] ?_ ⟨rfl, rfl, rfl, rfl, rfl, rfl, trivial⟩
      exact WP.meet b.length (by constructor <;> omega) ⟨rfl, rfl, rfl, rfl, trivial⟩ rfl (by (try dsimp only); repeat (first | exact Rm.chunk | exact Rm.here | apply Rm.skip | apply Rm.skipS | apply PX.cons | (apply PX.done; (repeat (first | exact Leave.done | apply Leave.drop | apply Leave.dropS)); done) | apply PX.app))
    · refine WP.nil ?_
      refine WP.sub [(0, _), (1, _), (4, _), (5, _), (6, _), (15, _)] ?_ ⟨rfl, rfl, rfl, rfl, rfl, rfl, trivial⟩
      refine WP.next ?_
      refine WP.condF rfl ?_
      refine WP.skip ?_
      exact WP.meet a.length (by constructor <;> omega) ⟨rfl, rfl, rfl, rfl, trivial⟩ rfl (by (try dsimp only); repeat (first | exact Rm.chunk | exact Rm.here | apply Rm.skip | apply Rm.skipS | apply PX.cons | (apply PX.done; (repeat (first | exact Leave.done | apply Leave.drop | apply Leave.dropS)); done) | apply PX.app))
  · rintro m ⟨hma, hmb⟩
    refine WP.seq ?_
    refine WP.region [0, 1, 2] rfl ?_
    refine WP.val rfl rfl rfl rfl (Yld.move rfl rfl) ?_
    refine WP.loud rfl rfl ?_
    refine Op.make (l := m) (c := m) rfl ty_sl_23 ty_el_23 rfl rfl rfl rfl rfl (Nat.le_refl _) (by omega) (by omega) (fun bm => ?_)
    rw [bytes0', show bytesV (List.replicate m 0) = bytesV (mix a b m 0) from by simp [mix]]
    refine WP.val rfl rfl rfl rfl (Yld.assign rfl rfl) ?_
    refine WP.nil ?_
    refine WP.sub [(0, _), (1, _), (5, _), (6, _), (7, _)] ?_ ⟨rfl, rfl, rfl, rfl, rfl, trivial⟩
    refine WP.next ?_
    refine WP.seq ?_
    refine WP.seq ?_
    refine WP.region [0] rfl ?_
    refine WP.val rfl rfl rfl rfl (Yld.assign rfl rfl) ?_
    refine WP.nil ?_
    refine WP.next ?_
    refine WP.block ?_
    refine WP.loop (X := Nat) (fun i : Nat => [(0, va), (1, vb), (5, .bool true), (6, .int .i64 (m : Int)), (7, .slice (some ⟨bm, 0, none⟩) m m), (8, .int .i64 (i : Int))]) (fun _ => I) (fun i => (bm, row 5 (bytesV (mix a b m i))) :: F) (fun i => i ≤ m) (fun i => m - i) 0 (Nat.zero_le _) ⟨rfl, rfl, rfl, rfl, rfl, rfl, trivial⟩ rfl (by (try dsimp only); repeat (first | exact Rm.chunk | exact Rm.here | apply Rm.skip | apply Rm.skipS | apply PX.cons | (apply PX.done; (repeat (first | exact Leave.done | apply Leave.drop | apply Leave.dropS)); done) | apply PX.app)) ?_
    intro i hi0
    try dsimp only
    try simp only [List.cons_append, List.nil_append, List.append_assoc]
    refine WP.seq ?_
    refine WP.seq ?_
    refine WP.region [0, 1, 2] rfl ?_
    refine WP.val rfl rfl rfl rfl (Yld.move rfl rfl) ?_
    refine WP.val rfl rfl rfl rfl (Yld.move rfl rfl) ?_
    refine WP.split rfl rfl rfl rfl (Yld.lss rfl rfl rfl) (fun hl7 => ?_) (fun hl7 => ?_)
    · have hi : i < m := by omega
      obtain ⟨bp, kp, cp, Tp, frp, arrp, rfl, hcp, hbp, h4p⟩ := ha.get (by omega)
      have ep := take_cells h4p i (byteV (a[i]'(by omega))) (by simp [bytesV, show i < a.length by omega]) (by rw [bytesV_len]; omega)
      rw [Array.getElem?_toList] at ep
      obtain ⟨bq, kq, cq, Tq, frq, arrq, rfl, hcq, hbq, h4q⟩ := hb.get (by omega)
      have eq := take_cells h4q i (byteV (b[i]'(by omega))) (by simp [bytesV, show i < b.length by omega]) (by rw [bytesV_len]; omega)
      rw [Array.getElem?_toList] at eq
      refine WP.nil ?_
      refine WP.sub [(0, _), (1, _), (5, _), (6, _), (7, _), (8, _), (22, _)] ?_ ⟨rfl, rfl, rfl, rfl, rfl, rfl, rfl, trivial⟩
      refine WP.next ?_
      refine WP.condT rfl ?_
      refine WP.skip ?_
      refine WP.next ?_
      refine WP.seq ?_
      refine WP.block ?_
      refine WQ.start Trymixed 12 (by kernel_rfl) _ rfl [12] rfl ?_
      refine WQ.val rfl rfl rfl (Yld.move rfl rfl) ?_
      refine WQ.val rfl rfl rfl (Yld.move rfl rfl) ?_
      refine WQ.val rfl rfl rfl (Yld.move rfl rfl) ?_
      refine WQ.val rfl rfl rfl (Yld.move rfl rfl) ?_
      refine WQ.val rfl rfl rfl (Yld.indexAddr rfl ty_sl_23 rfl rfl (by omega)) ?_
      refine WQ.val rfl rfl rfl (Yld.loadC rfl ty_sc_5 rfl (There.i hbp) (by rw [Nat.mul_one]; exact ep)) ?_
      refine WQ.val rfl rfl rfl (Yld.move rfl rfl) ?_
      refine WQ.val rfl rfl rfl (Yld.move rfl rfl) ?_
      refine WQ.val rfl rfl rfl (Yld.indexAddr rfl ty_sl_23 rfl rfl (by omega)) ?_
      refine WQ.val rfl rfl rfl (Yld.loadC rfl ty_sc_5 rfl (There.i hbq) (by rw [Nat.mul_one]; exact eq)) ?_
      refine WQ.val rfl rfl rfl (Yld.xor8 (a[i]'(by omega)) (b[i]'(by omega)) rfl rfl rfl) ?_
      refine WQ.val rfl rfl rfl (Yld.indexAddr rfl ty_sl_23 rfl rfl (by omega)) ?_
      refine WQ.nil ?_
      refine WP.loud rfl rfl ?_
      refine Op.store1 rfl rfl ty_sz_5 rfl rfl rfl (by repeat (first | exact Upd.head | apply Upd.tail | apply Upd.tailS)) (mix_set hi hma hmb) ?_
      refine WP.nil ?_
      refine WP.sub [(0, _), (1, _), (5, _), (6, _), (7, _), (8, _), (22, _)] ?_ ⟨rfl, rfl, rfl, rfl, rfl, rfl, rfl, trivial⟩
      refine WP.leave ?_
      refine WP.next ?_
      refine WP.region [0, 1, 2] rfl ?_
      refine WP.val rfl rfl rfl rfl (Yld.move rfl rfl) ?_
      refine WP.val rfl rfl rfl rfl (Yld.add64 rfl rfl rfl (by omega)) ?_
      refine WP.val rfl rfl rfl rfl (Yld.assign rfl rfl) ?_
      refine WP.nil ?_
      refine WP.sub [(0, _), (1, _), (5, _), (6, _), (7, _), (8, _), (22, _)] ?_ ⟨rfl, rfl, rfl, rfl, rfl, rfl, rfl, trivial⟩
      exact WP.again (i + 1) hi (by omega) ⟨rfl, rfl, rfl, rfl, rfl, rfl, trivial⟩ rfl (by (try dsimp only); repeat (first | exact Rm.chunk | exact Rm.here | apply Rm.skip | apply Rm.skipS | apply PX.cons | (apply PX.done; (repeat (first | exact Leave.done | apply Leave.drop | apply Leave.dropS)); done) | apply PX.app))
    · obtain rfl : i = m := by omega
      have hmx : mix a b i i = List.zipWith xorB (a.take i) (b.take i) := by simp [mix]
      have hml : (List.zipWith xorB (a.take i) (b.take i)).length = i := by simp; omega
      rw [hmx]
      refine WP.nil ?_
      refine WP.sub [(0, _), (1, _), (5, _), (6, _), (7, _), (8, _), (22, _)] ?_ ⟨rfl, rfl, rfl, rfl, rfl, rfl, rfl, trivial⟩
      refine WP.next ?_
      refine WP.condF rfl ?_
      refine WP.exit ?_
      refine WP.thenE ?_
      refine WP.thenE ?_
      refine WP.hit ?_
      refine WP.next ?_
      refine WP.seq ?_
      refine WP.share (fun J1 hJ1 hb1 => ?_)
      have ha := ha.mono (im_mono hJ1)
      have hb := hb.mono (im_mono hJ1)
      have hz : SlRd (fun b o => J1.blk b = some o) (.slice (some ⟨bm, 0, none⟩) i i) (List.zipWith xorB (a.take i) (b.take i)).length 1 (bytesV (List.zipWith xorB (a.take i) (b.take i))) := by
        have h := Im_lit (l := List.zipWith xorB (a.take i) (b.take i)) (sp := []) (c := i) (by rw [List.append_nil]; exact hb1) (by omega)
        rw [hml] at h ⊢; exact h
      have l1 : (a.take i).length = i := by simp; omega
      have l2 : (b.take i).length = i := by simp; omega
      have s1 := ha.sub (l := 0) (h := i) (Nat.zero_le _) hma
      have s2 := hb.sub (l := 0) (h := i) (Nat.zero_le _) hmb
      simp only [Nat.sub_zero, Nat.zero_mul, List.drop_zero, Nat.mul_one, bytesV_take] at s1 s2
      have s1 : SlRd (fun b o => J1.blk b = some o) (subSl 1 0 i va) (a.take i).length 1 (bytesV (a.take i)) := by rw [l1]; exact s1
      have s2 : SlRd (fun b o => J1.blk b = some o) (subSl 1 0 i vb) (b.take i).length 1 (bytesV (b.take i)) := by rw [l2]; exact s2
      refine WD.start Trymixed 15 (fun _ _ => False) (fun _ _ => False) (fun _ _ h => h.elim) (fun _ _ h => h.elim) 20 [false, false, false, false, false, false, false, false, false, false, false, false, false, false, false, false, false, false, false, false] rfl rfl ?_
      refine WD.val (i := 0) rfl rfl rfl rfl (by kernel_rfl) rfl (Yld.move rfl rfl) ?_
      refine WD.val (i := 1) rfl rfl rfl rfl (by kernel_rfl) rfl (Yld.move rfl rfl) ?_
      refine WD.valG (i := 2) rfl rfl rfl rfl rfl rfl rfl (by kernel_rfl) rfl (Yld.move rfl rfl) ?_
      refine WD.valG (i := 4) rfl rfl rfl rfl rfl rfl rfl (by kernel_rfl) rfl (Yld.move rfl rfl) ?_
      refine WD.valG (i := 5) rfl rfl rfl rfl rfl rfl rfl (by kernel_rfl) rfl (Yld.move rfl rfl) ?_
      refine WD.valG (i := 6) rfl rfl rfl rfl rfl rfl rfl (by kernel_rfl) rfl (Yld.sliceR ha rfl ty_sl_23 rfl Env.lim0 (Env.limS rfl) (Nat.zero_le _) hma) ?_
      refine WD.valG (i := 8) rfl rfl rfl rfl rfl rfl rfl (by kernel_rfl) rfl (Yld.move rfl rfl) ?_
      refine WD.valG (i := 9) rfl rfl rfl rfl rfl rfl rfl (by kernel_rfl) rfl (Yld.move rfl rfl) ?_
      refine WD.valG (i := 10) rfl rfl rfl rfl rfl rfl rfl (by kernel_rfl) rfl (Yld.sliceR hb rfl ty_sl_23 rfl Env.lim0 (Env.limS rfl) (Nat.zero_le _) hmb) ?_
      refine WD.valG (i := 13) rfl rfl rfl rfl rfl rfl rfl (by kernel_rfl) rfl (Yld.move rfl rfl) ?_
      refine WD.both (i := 3) (j := 14) (by kernel_rfl) rfl rfl ?_ ?_
      · refine WP.operG rfl rfl rfl rfl rfl ?_
        refine Op.call (crc_Of hz (by omega)) rfl Try.func10 rfl rfl rfl rfl (by repeat (first | exact Take.nil | apply Take.cons | apply Take.app | exact Rm.chunk | exact Rm.here | apply Rm.skip | apply Rm.skipS | apply Take.all)) ?_
        rintro v J L1 hJ ⟨rfl, rfl, rfl⟩
        clear hJ; try simp only [List.cons_append, List.nil_append, List.append_assoc]
        refine WD.go (.inr (fun _ _ h => h.elim)) (fun _ _ h => h.elim) ?_
        refine WD.both (i := 7) (j := 14) (by kernel_rfl) rfl rfl ?_ ?_
        · refine WP.operG rfl rfl rfl rfl rfl ?_
          refine Op.call (crc_Of s1 (by omega)) rfl Try.func10 rfl rfl rfl rfl (by repeat (first | exact Take.nil | apply Take.cons | apply Take.app | exact Rm.chunk | exact Rm.here | apply Rm.skip | apply Rm.skipS | apply Take.all)) ?_
          rintro v J L1 hJ ⟨rfl, rfl, rfl⟩
          clear hJ; try simp only [List.cons_append, List.nil_append, List.append_assoc]
          refine WD.go (.inr (fun _ _ h => h.elim)) (fun _ _ h => h.elim) ?_
          refine WD.both (i := 11) (j := 14) (by kernel_rfl) rfl rfl ?_ ?_
          · refine WP.operG rfl rfl rfl rfl rfl ?_
            refine Op.call (crc_Of s2 (by omega)) rfl Try.func10 rfl rfl rfl rfl (by repeat (first | exact Take.nil | apply Take.cons | apply Take.app | exact Rm.chunk | exact Rm.here | apply Rm.skip | apply Rm.skipS | apply Take.all)) ?_
            rintro v J L1 hJ ⟨rfl, rfl, rfl⟩
            clear hJ; try simp only [List.cons_append, List.nil_append, List.append_assoc]
            refine WD.go (.inr (fun _ _ h => h.elim)) (fun _ _ h => h.elim) ?_
            refine WD.valG (i := 12) rfl rfl rfl rfl rfl rfl rfl (by kernel_rfl) rfl (Yld.xor32 (crcOf (a.take i)) (crcOf (b.take i)) rfl rfl rfl) ?_
            refine WD.loudG (i := 14) (by kernel_rfl) rfl rfl rfl rfl rfl rfl ?_
            refine Op.make (l := i) (c := i) rfl ty_sl_23 ty_el_23 rfl rfl rfl rfl rfl (Nat.le_refl _) (by omega) (by omega) (fun b9 => ?_)
            rw [bytes0']
            refine WP.share (fun J9 hJ9 hb9 => ?_)
            have hz := hz.mono (im_mono hJ9)
            have s1 := s1.mono (im_mono hJ9)
            have s2 := s2.mono (im_mono hJ9)
            have h9 : SlRd (fun b o => J9.blk b = some o) (.slice (some ⟨b9, 0, none⟩) i i) (List.replicate i (0 : UInt8)).length 1 (bytesV (List.replicate i 0)) := by
              have h := Im_lit (l := List.replicate i (0 : UInt8)) (sp := []) (c := i) (by rw [List.append_nil]; exact hb9) (by simp)
              rw [List.length_replicate] at h ⊢; exact h
            refine WD.go (.inr (fun _ _ h => h.elim)) (fun _ _ h => h.elim) ?_
            refine WD.loudG (i := 15) (by kernel_rfl) rfl rfl rfl rfl rfl rfl ?_
            refine Op.call (crc_Of h9 (by simp; omega)) rfl Try.func10 rfl rfl rfl rfl (by repeat (first | exact Take.nil | apply Take.cons | apply Take.app | exact Rm.chunk | exact Rm.here | apply Rm.skip | apply Rm.skipS | apply Take.all)) ?_
            rintro v J L1 hJ ⟨rfl, rfl, rfl⟩
            clear hJ; try simp only [List.cons_append, List.nil_append, List.append_assoc]
            refine WD.go (.inl rfl) (fun _ _ h => h.elim) ?_
            refine WD.valG (i := 16) rfl rfl rfl rfl rfl rfl rfl (by kernel_rfl) rfl (Yld.xor32 (crcOf (a.take i) ^^^ crcOf (b.take i)) (crcOf (List.replicate i 0)) rfl rfl rfl) ?_
            refine WD.valG (i := 17) rfl rfl rfl rfl rfl rfl rfl (by kernel_rfl) rfl (Yld.eql rfl rfl rfl true (decide_eq_true (by rw [crc_turns (a.take i) (b.take i) (by rw [l1, l2]), l1]))) ?_
            refine WD.val (i := 18) rfl rfl rfl rfl (by kernel_rfl) rfl (Yld.pickT rfl rfl rfl) ?_
            refine WD.val (i := 19) rfl rfl rfl rfl (by kernel_rfl) rfl (Yld.assign rfl rfl) ?_
            refine WD.done (by kernel_rfl) ?_
            refine WP.sub [(0, _), (1, _), (4, _), (5, _), (6, _), (7, _), (8, _), (22, _)] ?_ ⟨rfl, rfl, rfl, rfl, rfl, rfl, rfl, rfl, trivial⟩
            refine WP.back (Imm.le_trans hJ1 hJ9) ?_
            refine WP.next ?_
            refine WP.ret ?_
            refine WP.fin .ret (.inr rfl) (res1 rfl rfl) [] (by repeat (first | exact Take.nil | apply Take.cons | apply Take.app | exact Rm.chunk | exact Rm.here | apply Rm.skip | apply Rm.skipS | apply Take.all)) (by repeat (first | exact Leave.done | apply Leave.drop | apply Leave.dropS)) (Imm.le_refl _) ?_
            exact ⟨rfl, rfl, rfl⟩
          · refine WP.operG rfl rfl rfl rfl rfl ?_
            refine Op.make (l := i) (c := i) rfl ty_sl_23 ty_el_23 rfl rfl rfl rfl rfl (Nat.le_refl _) (by omega) (by omega) (fun b9 => ?_)
            rw [bytes0']
            refine WP.share (fun J9 hJ9 hb9 => ?_)
            have hz := hz.mono (im_mono hJ9)
            have s1 := s1.mono (im_mono hJ9)
            have s2 := s2.mono (im_mono hJ9)
            have h9 : SlRd (fun b o => J9.blk b = some o) (.slice (some ⟨b9, 0, none⟩) i i) (List.replicate i (0 : UInt8)).length 1 (bytesV (List.replicate i 0)) := by
              have h := Im_lit (l := List.replicate i (0 : UInt8)) (sp := []) (c := i) (by rw [List.append_nil]; exact hb9) (by simp)
              rw [List.length_replicate] at h ⊢; exact h
            refine WD.go (.inr (fun _ _ h => h.elim)) (fun _ _ h => h.elim) ?_
            refine WD.loudG (i := 11) (by kernel_rfl) rfl rfl rfl rfl rfl rfl ?_
            refine Op.call (crc_Of s2 (by omega)) rfl Try.func10 rfl rfl rfl rfl (by repeat (first | exact Take.nil | apply Take.cons | apply Take.app | exact Rm.chunk | exact Rm.here | apply Rm.skip | apply Rm.skipS | apply Take.all)) ?_
            rintro v J L1 hJ ⟨rfl, rfl, rfl⟩
            clear hJ; try simp only [List.cons_append, List.nil_append, List.append_assoc]
            refine WD.go (.inr (fun _ _ h => h.elim)) (fun _ _ h => h.elim) ?_
            refine WD.valG (i := 12) rfl rfl rfl rfl rfl rfl rfl (by kernel_rfl) rfl (Yld.xor32 (crcOf (a.take i)) (crcOf (b.take i)) rfl rfl rfl) ?_
            refine WD.loudG (i := 15) (by kernel_rfl) rfl rfl rfl rfl rfl rfl ?_
            refine Op.call (crc_Of h9 (by simp; omega)) rfl Try.func10 rfl rfl rfl rfl (by repeat (first | exact Take.nil | apply Take.cons | apply Take.app | exact Rm.chunk | exact Rm.here | apply Rm.skip | apply Rm.skipS | apply Take.all)) ?_
            rintro v J L1 hJ ⟨rfl, rfl, rfl⟩
            clear hJ; try simp only [List.cons_append, List.nil_append, List.append_assoc]
            refine WD.go (.inl rfl) (fun _ _ h => h.elim) ?_
            refine WD.valG (i := 16) rfl rfl rfl rfl rfl rfl rfl (by kernel_rfl) rfl (Yld.xor32 (crcOf (a.take i) ^^^ crcOf (b.take i)) (crcOf (List.replicate i 0)) rfl rfl rfl) ?_
            refine WD.valG (i := 17) rfl rfl rfl rfl rfl rfl rfl (by kernel_rfl) rfl (Yld.eql rfl rfl rfl true (decide_eq_true (by rw [crc_turns (a.take i) (b.take i) (by rw [l1, l2]), l1]))) ?_
            refine WD.val (i := 18) rfl rfl rfl rfl (by kernel_rfl) rfl (Yld.pickT rfl rfl rfl) ?_
            refine WD.val (i := 19) rfl rfl rfl rfl (by kernel_rfl) rfl (Yld.assign rfl rfl) ?_
            refine WD.done (by kernel_rfl) ?_
            refine WP.sub [(0, _), (1, _), (4, _), (5, _), (6, _), (7, _), (8, _), (22, _)] ?_ ⟨rfl, rfl, rfl, rfl, rfl, rfl, rfl, rfl, trivial⟩
            refine WP.back (Imm.le_trans hJ1 hJ9) ?_
            refine WP.next ?_
            refine WP.ret ?_
            refine WP.fin .ret (.inr rfl) (res1 rfl rfl) [] (by repeat (first | exact Take.nil | apply Take.cons | apply Take.app | exact Rm.chunk | exact Rm.here | apply Rm.skip | apply Rm.skipS | apply Take.all)) (by repeat (first | exact Leave.done | apply Leave.drop | apply Leave.dropS)) (Imm.le_refl _) ?_
            exact ⟨rfl, rfl, rfl⟩
        · refine WP.operG rfl rfl rfl rfl rfl ?_
          refine Op.make (l := i) (c := i) rfl ty_sl_23 ty_el_23 rfl rfl rfl rfl rfl (Nat.le_refl _) (by omega) (by omega) (fun b9 => ?_)
          rw [bytes0']
          refine WP.share (fun J9 hJ9 hb9 => ?_)
          have hz := hz.mono (im_mono hJ9)
          have s1 := s1.mono (im_mono hJ9)
          have s2 := s2.mono (im_mono hJ9)
          have h9 : SlRd (fun b o => J9.blk b = some o) (.slice (some ⟨b9, 0, none⟩) i i) (List.replicate i (0 : UInt8)).length 1 (bytesV (List.replicate i 0)) := by
            have h := Im_lit (l := List.replicate i (0 : UInt8)) (sp := []) (c := i) (by rw [List.append_nil]; exact hb9) (by simp)
            rw [List.length_replicate] at h ⊢; exact h
          refine WD.go (.inr (fun _ _ h => h.elim)) (fun _ _ h => h.elim) ?_
          refine WD.loudG (i := 7) (by kernel_rfl) rfl rfl rfl rfl rfl rfl ?_
          refine Op.call (crc_Of s1 (by omega)) rfl Try.func10 rfl rfl rfl rfl (by repeat (first | exact Take.nil | apply Take.cons | apply Take.app | exact Rm.chunk | exact Rm.here | apply Rm.skip | apply Rm.skipS | apply Take.all)) ?_
          rintro v J L1 hJ ⟨rfl, rfl, rfl⟩
          clear hJ; try simp only [List.cons_append, List.nil_append, List.append_assoc]
          refine WD.go (.inr (fun _ _ h => h.elim)) (fun _ _ h => h.elim) ?_
          refine WD.loudG (i := 11) (by kernel_rfl) rfl rfl rfl rfl rfl rfl ?_
          refine Op.call (crc_Of s2 (by omega)) rfl Try.func10 rfl rfl rfl rfl (by repeat (first | exact Take.nil | apply Take.cons | apply Take.app | exact Rm.chunk | exact Rm.here | apply Rm.skip | apply Rm.skipS | apply Take.all)) ?_
          rintro v J L1 hJ ⟨rfl, rfl, rfl⟩
          clear hJ; try simp only [List.cons_append, List.nil_append, List.append_assoc]
          refine WD.go (.inr (fun _ _ h => h.elim)) (fun _ _ h => h.elim) ?_
          refine WD.valG (i := 12) rfl rfl rfl rfl rfl rfl rfl (by kernel_rfl) rfl (Yld.xor32 (crcOf (a.take i)) (crcOf (b.take i)) rfl rfl rfl) ?_
          refine WD.loudG (i := 15) (by kernel_rfl) rfl rfl rfl rfl rfl rfl ?_
          refine Op.call (crc_Of h9 (by simp; omega)) rfl Try.func10 rfl rfl rfl rfl (by repeat (first | exact Take.nil | apply Take.cons | apply Take.app | exact Rm.chunk | exact Rm.here | apply Rm.skip | apply Rm.skipS | apply Take.all)) ?_
          rintro v J L1 hJ ⟨rfl, rfl, rfl⟩
          clear hJ; try simp only [List.cons_append, List.nil_append, List.append_assoc]
          refine WD.go (.inl rfl) (fun _ _ h => h.elim) ?_
          refine WD.valG (i := 16) rfl rfl rfl rfl rfl rfl rfl (by kernel_rfl) rfl (Yld.xor32 (crcOf (a.take i) ^^^ crcOf (b.take i)) (crcOf (List.replicate i 0)) rfl rfl rfl) ?_
          refine WD.valG (i := 17) rfl rfl rfl rfl rfl rfl rfl (by kernel_rfl) rfl (Yld.eql rfl rfl rfl true (decide_eq_true (by rw [crc_turns (a.take i) (b.take i) (by rw [l1, l2]), l1]))) ?_
          refine WD.val (i := 18) rfl rfl rfl rfl (by kernel_rfl) rfl (Yld.pickT rfl rfl rfl) ?_
          refine WD.val (i := 19) rfl rfl rfl rfl (by kernel_rfl) rfl (Yld.assign rfl rfl) ?_
          refine WD.done (by kernel_rfl) ?_
          refine WP.sub [(0, _), (1, _), (4, _), (5, _), (6, _), (7, _), (8, _), (22, _)] ?_ ⟨rfl, rfl, rfl, rfl, rfl, rfl, rfl, rfl, trivial⟩
          refine WP.back (Imm.le_trans hJ1 hJ9) ?_
          refine WP.next ?_
          refine WP.ret ?_
          refine WP.fin .ret (.inr rfl) (res1 rfl rfl) [] (by repeat (first | exact Take.nil | apply Take.cons | apply Take.app | exact Rm.chunk | exact Rm.here | apply Rm.skip | apply Rm.skipS | apply Take.all)) (by repeat (first | exact Leave.done | apply Leave.drop | apply Leave.dropS)) (Imm.le_refl _) ?_
          exact ⟨rfl, rfl, rfl⟩
      · refine WP.operG rfl rfl rfl rfl rfl ?_
        refine Op.make (l := i) (c := i) rfl ty_sl_23 ty_el_23 rfl rfl rfl rfl rfl (Nat.le_refl _) (by omega) (by omega) (fun b9 => ?_)
        rw [bytes0']
        refine WP.share (fun J9 hJ9 hb9 => ?_)
        have hz := hz.mono (im_mono hJ9)
        have s1 := s1.mono (im_mono hJ9)
        have s2 := s2.mono (im_mono hJ9)
        have h9 : SlRd (fun b o => J9.blk b = some o) (.slice (some ⟨b9, 0, none⟩) i i) (List.replicate i (0 : UInt8)).length 1 (bytesV (List.replicate i 0)) := by
          have h := Im_lit (l := List.replicate i (0 : UInt8)) (sp := []) (c := i) (by rw [List.append_nil]; exact hb9) (by simp)
          rw [List.length_replicate] at h ⊢; exact h
        refine WD.go (.inr (fun _ _ h => h.elim)) (fun _ _ h => h.elim) ?_
        refine WD.loudG (i := 3) (by kernel_rfl) rfl rfl rfl rfl rfl rfl ?_
        refine Op.call (crc_Of hz (by omega)) rfl Try.func10 rfl rfl rfl rfl (by repeat (first | exact Take.nil | apply Take.cons | apply Take.app | exact Rm.chunk | exact Rm.here | apply Rm.skip | apply Rm.skipS | apply Take.all)) ?_
        rintro v J L1 hJ ⟨rfl, rfl, rfl⟩
        clear hJ; try simp only [List.cons_append, List.nil_append, List.append_assoc]
        refine WD.go (.inr (fun _ _ h => h.elim)) (fun _ _ h => h.elim) ?_
        refine WD.loudG (i := 7) (by kernel_rfl) rfl rfl rfl rfl rfl rfl ?_
        refine Op.call (crc_Of s1 (by omega)) rfl Try.func10 rfl rfl rfl rfl (by repeat (first | exact Take.nil | apply Take.cons | apply Take.app | exact Rm.chunk | exact Rm.here | apply Rm.skip | apply Rm.skipS | apply Take.all)) ?_
        rintro v J L1 hJ ⟨rfl, rfl, rfl⟩
        clear hJ; try simp only [List.cons_append, List.nil_append, List.append_assoc]
        refine WD.go (.inr (fun _ _ h => h.elim)) (fun _ _ h => h.elim) ?_
        refine WD.loudG (i := 11) (by kernel_rfl) rfl rfl rfl rfl rfl rfl ?_
        refine Op.call (crc_Of s2 (by omega)) rfl Try.func10 rfl rfl rfl rfl (by repeat (first | exact Take.nil | apply Take.cons | apply Take.app | exact Rm.chunk | exact Rm.here | apply Rm.skip | apply Rm.skipS | apply Take.all)) ?_
        rintro v J L1 hJ ⟨rfl, rfl, rfl⟩
        clear hJ; try simp only [List.cons_append, List.nil_append, List.append_assoc]
        refine WD.go (.inr (fun _ _ h => h.elim)) (fun _ _ h => h.elim) ?_
        refine WD.valG (i := 12) rfl rfl rfl rfl rfl rfl rfl (by kernel_rfl) rfl (Yld.xor32 (crcOf (a.take i)) (crcOf (b.take i)) rfl rfl rfl) ?_
        refine WD.loudG (i := 15) (by kernel_rfl) rfl rfl rfl rfl rfl rfl ?_
        refine Op.call (crc_Of h9 (by simp; omega)) rfl Try.func10 rfl rfl rfl rfl (by repeat (first | exact Take.nil | apply Take.cons | apply Take.app | exact Rm.chunk | exact Rm.here | apply Rm.skip | apply Rm.skipS | apply Take.all)) ?_
        rintro v J L1 hJ ⟨rfl, rfl, rfl⟩
        clear hJ; try simp only [List.cons_append, List.nil_append, List.append_assoc]
        refine WD.go (.inl rfl) (fun _ _ h => h.elim) ?_
        refine WD.valG (i := 16) rfl rfl rfl rfl rfl rfl rfl (by kernel_rfl) rfl (Yld.xor32 (crcOf (a.take i) ^^^ crcOf (b.take i)) (crcOf (List.replicate i 0)) rfl rfl rfl) ?_
        refine WD.valG (i := 17) rfl rfl rfl rfl rfl rfl rfl (by kernel_rfl) rfl (Yld.eql rfl rfl rfl true (decide_eq_true (by rw [crc_turns (a.take i) (b.take i) (by rw [l1, l2]), l1]))) ?_
        refine WD.val (i := 18) rfl rfl rfl rfl (by kernel_rfl) rfl (Yld.pickT rfl rfl rfl) ?_
        refine WD.val (i := 19) rfl rfl rfl rfl (by kernel_rfl) rfl (Yld.assign rfl rfl) ?_
        refine WD.done (by kernel_rfl) ?_
        refine WP.sub [(0, _), (1, _), (4, _), (5, _), (6, _), (7, _), (8, _), (22, _)] ?_ ⟨rfl, rfl, rfl, rfl, rfl, rfl, rfl, rfl, trivial⟩
        refine WP.back (Imm.le_trans hJ1 hJ9) ?_
        refine WP.next ?_
        refine WP.ret ?_
        refine WP.fin .ret (.inr rfl) (res1 rfl rfl) [] (by repeat (first | exact Take.nil | apply Take.cons | apply Take.app | exact Rm.chunk | exact Rm.here | apply Rm.skip | apply Rm.skipS | apply Take.all)) (by repeat (first | exact Leave.done | apply Leave.drop | apply Leave.dropS)) (Imm.le_refl _) ?_
        exact ⟨rfl, rfl, rfl⟩


end Go.Hp
