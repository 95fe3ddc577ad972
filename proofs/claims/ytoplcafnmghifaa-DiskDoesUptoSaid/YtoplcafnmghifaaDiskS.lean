import Derived.Test.YtoplcafnmghifaaDiskR
set_option linter.unusedVariables false
set_option linter.unusedSimpArgs false
namespace Go.Hp
open Go Go.Proofs

theorem disk_WriteOwn {I : Imm} {d n : Nat} {v : Value} {x : Dk} {L Lo : Chunks} (hd : IsDisk d n x L) {at_ : Int} {bs : List UInt8} (ho : Own 5 1 v (bytesV bs) bs.length Lo) (hwb : x.waits.length + 8192 ≤ 1099511627776) (hbl : bs.length ≤ 1152921504606846976) :
    Spec Try.prog 21 [.pointer (some ⟨d, 0, none⟩), .int .i64 at_, v] I (Lo ++ L) (fun v' J L' => I = J ∧ ∃ L1, L' = Lo ++ L1 ∧ v' = .int .i64 (x.write n at_ bs).2 ∧ IsDisk d n (x.write n at_ bs).1 L1) := by
  generalize hx : bytesV bs = xs at ho
  generalize hn : bs.length = m at ho
  cases ho with
  | none0 =>
    obtain rfl : bs = [] := List.eq_nil_of_length_eq_zero hn
    exact (disk_Write (bs0 := []) hd ⟨none, 0, rfl, Nat.le_refl _, rfl, .inl rfl⟩ hwb hbl).mono (by rintro v J L' _ ⟨h1, h2, h3⟩; exact ⟨h2, L', rfl, h1, h3⟩)
  | @blk b cap _ _ sp h h2 h3 =>
    subst hx hn
    exact (disk_WriteO hd h3 hwb hbl).mono (by rintro v J L' _ ⟨h1, L1, h2, h3, h4⟩; exact ⟨h1, L1, h2, h3, h4⟩)
theorem read_len {n : Nat} {x : Dk} (h : x.ok n) (at_ many : Int) : (x.read n at_ many).1.length ≤ 524288 := by
  have h1 := h.ln
  have h2 := h.n2
  unfold Dk.read
  split
  · simp
  split
  · simp
  · simp only [List.length_take, List.length_drop]; omega
theorem IsDisk.ok' {d n : Nat} {x : Dk} {L : Chunks} (h : IsDisk d n x L) : x.ok n := by cases h with | mk ok ow => exact ok
theorem disk_reads {I : Imm} {d r n : Nat} {x : Dk} {Ld Lr : Chunks} (hd : IsDisk d n x Ld) (hr : IsRef I r n x Lr) {at_ many : Int} (hwb : x.waits.length ≤ 1099511627776) : Spec Try.prog 32 [.pointer (some ⟨d, 0, none⟩), .pointer (some ⟨r, 0, none⟩), .int .i64 at_, .int .i64 many] I (Ld ++ Lr) (fun v J L => v = .bool true ∧ I = J ∧ L = Ld ++ Lr) := by
  refine Spec.of Try.func32 rfl Try.ntmps32 (Nat.le_of_ble_eq_true rfl) (fun F => ?_)
  try simp only [List.cons_append, List.nil_append, List.append_assoc]
  dsimp only [argsEnv]
  refine WP.seq ?_
  refine WP.region [0] rfl ?_
  refine WP.val rfl rfl rfl rfl (Yld.assign rfl rfl) ?_
  refine WP.nil ?_
  refine WP.next ?_
  refine WP.seq ?_
  refine WP.region [0, 1, 2, 3, 4, 5, 6, 7, 8] rfl ?_
  refine WP.val rfl rfl rfl rfl (Yld.move rfl rfl) ?_
  refine WP.val rfl rfl rfl rfl (Yld.move rfl rfl) ?_
  refine WP.val rfl rfl rfl rfl (Yld.move rfl rfl) ?_
  refine WP.loud rfl rfl ?_
  refine Op.call (disk_Read hd) rfl Try.func23 rfl rfl rfl rfl (by repeat (first | exact Take.nil | apply Take.cons | apply Take.app | exact Rm.chunk | exact Rm.here | apply Rm.skip | apply Rm.skipS | apply Take.all)) ?_
  rintro v J L1 hJ ⟨rfl, v1, L1', rfl, o1, rfl⟩
  clear hJ; try simp only [List.cons_append, List.nil_append, List.append_assoc]
  try simp only [List.cons_append, List.nil_append, List.append_assoc]
  refine WP.val rfl rfl rfl rfl (Yld.move rfl rfl) ?_
  refine WP.val rfl rfl rfl rfl (Yld.extract rfl rfl rfl) ?_
  refine WP.val rfl rfl rfl rfl (Yld.extract rfl rfl rfl) ?_
  refine WP.val rfl rfl rfl rfl (Yld.assign rfl rfl) ?_
  refine WP.val rfl rfl rfl rfl (Yld.assign rfl rfl) ?_
  refine WP.nil ?_
  refine WP.sub [(0, _), (1, _), (2, _), (3, _), (8, _), (9, _), (10, _)] ?_ ⟨rfl, rfl, rfl, rfl, rfl, rfl, rfl, trivial⟩
  refine WP.next ?_
  refine WP.seq ?_
  refine WP.region [0, 1, 2, 3, 4, 5, 6, 7, 8] rfl ?_
  refine WP.val rfl rfl rfl rfl (Yld.move rfl rfl) ?_
  refine WP.val rfl rfl rfl rfl (Yld.move rfl rfl) ?_
  refine WP.val rfl rfl rfl rfl (Yld.move rfl rfl) ?_
  refine WP.loud rfl rfl ?_
  refine Op.call (ref_Read hr hwb) rfl Try.func45 rfl rfl rfl rfl (by repeat (first | exact Take.nil | apply Take.cons | apply Take.app | exact Rm.chunk | exact Rm.here | apply Rm.skip | apply Rm.skipS | apply Take.all)) ?_
  rintro v J L1 hJ ⟨rfl, v2, L2', rfl, o2, rfl⟩
  clear hJ; try simp only [List.cons_append, List.nil_append, List.append_assoc]
  try simp only [List.cons_append, List.nil_append, List.append_assoc]
  have hrl := read_len hd.ok' at_ many
  refine WP.val rfl rfl rfl rfl (Yld.move rfl rfl) ?_
  refine WP.val rfl rfl rfl rfl (Yld.extract rfl rfl rfl) ?_
  refine WP.val rfl rfl rfl rfl (Yld.extract rfl rfl rfl) ?_
  refine WP.val rfl rfl rfl rfl (Yld.assign rfl rfl) ?_
  refine WP.val rfl rfl rfl rfl (Yld.assign rfl rfl) ?_
  refine WP.nil ?_
  refine WP.sub [(0, _), (1, _), (2, _), (3, _), (8, _), (9, _), (10, _), (11, _), (12, _)] ?_ ⟨rfl, rfl, rfl, rfl, rfl, rfl, rfl, rfl, rfl, trivial⟩
  refine WP.next ?_
  refine WP.seq ?_
  refine WP.region [0, 1, 2, 3, 4, 5] rfl ?_
  refine WP.val rfl rfl rfl rfl (Yld.move rfl rfl) ?_
  refine WP.val rfl rfl rfl rfl (Yld.str (e := 5) rfl (by kernel_rfl) (by kernel_rfl) (by kernel_rfl) rfl (o1.rd (by intro p hp; simp [hp]))) ?_
  refine WP.val rfl rfl rfl rfl (Yld.move rfl rfl) ?_
  refine WP.val rfl rfl rfl rfl (Yld.str (e := 5) rfl (by kernel_rfl) (by kernel_rfl) (by kernel_rfl) rfl (o2.rd (by intro p hp; simp [hp]))) ?_
  refine WP.val rfl rfl rfl rfl (Yld.eqlStr rfl rfl rfl true (by simp)) ?_
  refine WP.val rfl rfl rfl rfl (Yld.assign rfl rfl) ?_
  refine WP.nil ?_
  refine WP.sub [(0, _), (1, _), (2, _), (3, _), (8, _), (9, _), (10, _), (11, _), (12, _), (13, _)] ?_ ⟨rfl, rfl, rfl, rfl, rfl, rfl, rfl, rfl, rfl, rfl, trivial⟩
  refine WP.next ?_
  refine WP.seq ?_
  refine WP.seq ?_
  refine WP.region [0] rfl ?_
  refine WP.val rfl rfl rfl rfl (Yld.assign rfl rfl) ?_
  refine WP.nil ?_
  refine WP.next ?_
  refine WP.block ?_
  refine WP.loop (X := Nat × List UInt8 × Chunks) (fun t : Nat × List UInt8 × Chunks => [(9, v1), (10, .int .i64 (x.read n at_ many).2), (11, v2), (12, .int .i64 (x.read n at_ many).2), (13, .bool true), (14, .int .i64 (t.1 : Int))]) (fun _ => I) (fun t => t.2.2 ++ (L2' ++ (Ld ++ (Lr ++ F)))) (fun t => t.1 ≤ (x.read n at_ many).1.length ∧ Own 5 1 v1 (bytesV t.2.1) (x.read n at_ many).1.length t.2.2) (fun t => (x.read n at_ many).1.length - t.1) ⟨0, _, _⟩ ⟨Nat.zero_le _, o1⟩ ⟨rfl, rfl, rfl, rfl, rfl, rfl, trivial⟩ rfl (by (try dsimp only); repeat (first | exact Rm.chunk | exact Rm.here | apply Rm.skip | apply Rm.skipS | apply PX.cons | (apply PX.done; (repeat (first | exact Leave.done | apply Leave.drop | apply Leave.dropS)); done) | apply PX.app)) ?_
  rintro ⟨i, xs, Lx⟩ ⟨hi0, o1⟩
  try dsimp only
  try simp only [List.cons_append, List.nil_append, List.append_assoc]
  refine WP.seq ?_
  refine WP.seq ?_
  refine WP.region [0, 1, 2, 3] rfl ?_
  refine WP.val rfl rfl rfl rfl (Yld.move rfl rfl) ?_
  refine WP.val rfl rfl rfl rfl (Yld.move rfl rfl) ?_
  refine WP.val rfl rfl rfl rfl (Yld.lenR (o1.rd (I := I) (fun p hp => hp)) rfl ty_sl_51 rfl) ?_
  refine WP.split rfl rfl rfl rfl (Yld.lss rfl rfl rfl) (fun hlt => ?_) (fun hlt => ?_)
  · simp only at hi0 o1
    have hi : i < (x.read n at_ many).1.length := by first | omega | (simp only at hlt; omega)
    have hxl := o1.len
    obtain ⟨bx, cx, sx, rfl, rfl, hqx, hrx⟩ := o1.get (by omega)
    rw [bytesV_len, Nat.mul_one] at hxl
    have hix : i < xs.length := by omega
    try simp only [List.cons_append, List.nil_append, List.append_assoc]
    refine WP.nil ?_
    refine WP.sub [(9, _), (10, _), (11, _), (12, _), (13, _), (14, _), (37, _)] ?_ ⟨rfl, rfl, rfl, rfl, rfl, rfl, rfl, trivial⟩
    refine WP.next ?_
    refine WP.condT rfl ?_
    refine WP.skip ?_
    refine WP.next ?_
    refine WP.seq ?_
    refine WP.block ?_
    refine WP.region [0, 1, 2, 3, 4, 5, 6, 7, 8] rfl ?_
    refine WP.val rfl rfl rfl rfl (Yld.move rfl rfl) ?_
    refine WP.val rfl rfl rfl rfl (Yld.move rfl rfl) ?_
    refine WP.val rfl rfl rfl rfl (Yld.move rfl rfl) ?_
    refine WP.val rfl rfl rfl rfl (Yld.move rfl rfl) ?_
    refine WP.val rfl rfl rfl rfl (Yld.indexAddr (i := i) rfl ty_sl_51 rfl rfl hi) ?_
    refine WP.val rfl rfl rfl rfl (Yld.load rfl ty_sc_5 rfl (by repeat (first | exact There.h | exact There.i (by assumption) | apply There.t | apply There.s)) (byte_at hix sx)) ?_
    refine WP.val rfl rfl rfl rfl (Yld.add8 (xs[i]) 1 rfl rfl rfl) ?_
    refine WP.val rfl rfl rfl rfl (Yld.indexAddr (i := i) rfl ty_sl_51 rfl rfl hi) ?_
    refine WP.loud rfl rfl ?_
    refine Op.store1 rfl rfl ty_sz_5 rfl rfl rfl (by repeat (first | exact Upd.head | apply Upd.tail | apply Upd.tailS)) (set_byteS (xs[i] + 1) sx hix) ?_
    refine WP.nil ?_
    refine WP.sub [(9, _), (10, _), (11, _), (12, _), (13, _), (14, _), (37, _)] ?_ ⟨rfl, rfl, rfl, rfl, rfl, rfl, rfl, trivial⟩
    refine WP.leave ?_
    refine WP.next ?_
    refine WP.region [0, 1, 2] rfl ?_
    refine WP.val rfl rfl rfl rfl (Yld.move rfl rfl) ?_
    refine WP.val rfl rfl rfl rfl (Yld.add64 rfl rfl rfl (by omega)) ?_
    refine WP.val rfl rfl rfl rfl (Yld.assign rfl rfl) ?_
    refine WP.nil ?_
    refine WP.sub [(9, _), (10, _), (11, _), (12, _), (13, _), (14, _), (37, _)] ?_ ⟨rfl, rfl, rfl, rfl, rfl, rfl, rfl, trivial⟩
    exact WP.again ⟨i + 1, xs.set i (xs[i] + 1), [(bx, row 5 (bytesV (xs.set i (xs[i] + 1)) ++ sx))]⟩ ⟨hi, Own.blk (by simpa [bytesV_len] using hxl) (by simpa [bytesV_len] using hqx) hrx⟩ (by simp only; omega) ⟨rfl, rfl, rfl, rfl, rfl, rfl, trivial⟩ rfl (by (try dsimp only); repeat (first | exact Rm.chunk | exact Rm.here | apply Rm.skip | apply Rm.skipS | apply PX.cons | (apply PX.done; (repeat (first | exact Leave.done | apply Leave.drop | apply Leave.dropS)); done) | apply PX.app))
  · simp only at hi0 o1
    have hxl := o1.len
    rw [bytesV_len, Nat.mul_one] at hxl
    refine WP.nil ?_
    refine WP.sub [(9, _), (10, _), (11, _), (12, _), (13, _), (14, _), (37, _)] ?_ ⟨rfl, rfl, rfl, rfl, rfl, rfl, rfl, trivial⟩
    refine WP.next ?_
    refine WP.condF rfl ?_
    refine WP.exit ?_
    refine WP.thenE ?_
    refine WP.thenE ?_
    refine WP.hit ?_
    refine WP.next ?_
    refine WP.seq ?_
    refine WP.region [0, 1, 2, 3] rfl ?_
    refine WP.val rfl rfl rfl rfl (Yld.move rfl rfl) ?_
    refine WP.loud rfl rfl ?_
    refine Op.buildSlice rfl ty_sl_51 ty_el2_51 rfl rfl rfl rfl (vs := [_]) rfl (segs := [(0, [_])]) (cs := bytesV [9]) rfl rfl (by repeat (first | exact SetSeg.nil | apply SetSeg.one | exact SetAt.zero | apply SetAt.succ)) (fun bz => ?_)
    refine WP.loud rfl rfl ?_
    refine Op.append rfl ty_sl_51 ty_el_51 rfl rfl rfl rfl rfl o1 (SlRd.lit (by repeat (first | exact There.h | exact There.i (by assumption) | apply There.t | apply There.s)) rfl (Nat.le_refl _)) (by repeat (first | exact Take.nil | apply Take.cons | apply Take.app | exact Rm.chunk | exact Rm.here | apply Rm.skip | apply Rm.skipS | apply Take.all)) (bytesV_one [9]) (by omega) (by omega) (fun vp Lp hp => ?_)
    try simp only [List.cons_append, List.nil_append, List.append_assoc]
    refine WP.val rfl rfl rfl rfl (Yld.assign rfl rfl) ?_
    refine WP.nil ?_
    refine WP.sub [(9, _), (10, _), (11, _), (12, _), (13, _), (14, _), (37, _)] ?_ ⟨rfl, rfl, rfl, rfl, rfl, rfl, rfl, trivial⟩
    refine WP.next ?_
    refine WP.seq ?_
    refine WP.region [0, 1, 2, 3, 4, 5, 6, 7, 8, 9, 10, 11, 12, 13, 14] rfl ?_
    refine WP.val rfl rfl rfl rfl (Yld.move rfl rfl) ?_
    refine WP.val rfl rfl rfl rfl (Yld.move rfl rfl) ?_
    refine WP.valG rfl rfl rfl rfl rfl rfl rfl (Yld.move rfl rfl) ?_
    refine WP.valG rfl rfl rfl rfl rfl rfl rfl (Yld.move rfl rfl) ?_
    refine WP.valG rfl rfl rfl rfl rfl rfl rfl (Yld.eql rfl rfl rfl true (decide_eq_true (by rfl))) ?_
    refine WP.val rfl rfl rfl rfl (Yld.pickT rfl rfl rfl) ?_
    refine WP.val rfl rfl rfl rfl (Yld.move rfl rfl) ?_
    refine WP.valG rfl rfl rfl rfl rfl rfl rfl (Yld.move rfl rfl) ?_
    refine WP.valG rfl rfl rfl rfl rfl rfl rfl (Yld.lenR (hp.rd (I := I) (fun p hp => hp)) rfl ty_sl_51 rfl) ?_
    refine WP.valG rfl rfl rfl rfl rfl rfl rfl (Yld.move rfl rfl) ?_
    refine WP.valG rfl rfl rfl rfl rfl rfl rfl (Yld.lenR (o2.rd (I := I) (fun p hp => hp)) rfl ty_sl_51 rfl) ?_
    refine WP.valG rfl rfl rfl rfl rfl rfl rfl (Yld.add64 rfl rfl rfl (by omega)) ?_
    refine WP.valG rfl rfl rfl rfl rfl rfl rfl (Yld.eql rfl rfl rfl true (decide_eq_true (by simp))) ?_
    refine WP.val rfl rfl rfl rfl (Yld.pickT rfl rfl rfl) ?_
    refine WP.val rfl rfl rfl rfl (Yld.assign rfl rfl) ?_
    refine WP.nil ?_
    refine WP.sub [(8, _), (9, _), (10, _), (11, _), (12, _), (13, _), (14, _), (37, _)] ?_ ⟨rfl, rfl, rfl, rfl, rfl, rfl, rfl, rfl, trivial⟩
    refine WP.next ?_
    refine WP.ret ?_
    refine WP.fin .ret (.inr rfl) (res1 rfl rfl) (Ld ++ Lr) (by repeat (first | exact Take.nil | apply Take.cons | apply Take.app | exact Rm.chunk | exact Rm.here | apply Rm.skip | apply Rm.skipS | apply Take.all)) (by repeat (first | exact Leave.done | apply Leave.drop | apply Leave.dropS)) (Imm.le_refl _) ?_
    exact ⟨rfl, rfl, rfl⟩


end Go.Hp
