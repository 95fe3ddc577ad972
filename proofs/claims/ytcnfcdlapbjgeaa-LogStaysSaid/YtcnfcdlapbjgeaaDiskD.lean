import Derived.Test.YtcnfcdlapbjgeaaDiskC
set_option linter.unusedVariables false
set_option linter.unusedSimpArgs false
namespace Go.Hp
open Go Go.Proofs

def keepN (k : Int) : Nat := if 64 ≤ k then 64 else if k ≤ 0 then 0 else k.toNat
theorem keepN_le (k : Int) : keepN k ≤ 64 := by unfold keepN; split <;> (try split) <;> omega
def torn (p : List UInt8) (e : Nat × List UInt8) (k : Int) : List UInt8 := p.take (e.1 * 64) ++ e.2.take (keepN k) ++ p.drop (e.1 * 64 + keepN k)
def tear : List UInt8 → List (Nat × List UInt8) → List Int → List UInt8
 | p, [], _ => p
 | p, e :: es, ks => tear (torn p e (ks.headD 0)) es ks.tail
theorem torn_len {n : Nat} {p : List UInt8} {e : Nat × List UInt8} {k : Int} (hp : p.length = n * 64) (he : e.1 < n ∧ e.2.length = 64) : (torn p e k).length = n * 64 := by
 have := keepN_le k
 obtain ⟨h1, h2⟩ := he
 simp only [torn, List.length_append, List.length_take, List.length_drop, hp, h2]
 omega
theorem tear_len {n : Nat} : ∀ (l : List (Nat × List UInt8)) (h : ∀ e ∈ l, e.1 < n ∧ e.2.length = 64) (p : List UInt8) (ks : List Int), p.length = n * 64 → (tear p l ks).length = n * 64
 | [], _, _, _, hp => hp
 | e :: l, h, p, ks, hp => tear_len l (fun x hx => h x (by simp [hx])) _ _ (torn_len hp (h e (by simp)))
def Dk.up (x : Dk) (ks : List Int) : Dk := { plat := tear x.plat x.waits ks, now := tear x.plat x.waits ks, waits := [], left := -1, off := false, writes := x.writes, syncs := x.syncs }
theorem Dk.up_ok {n : Nat} {x : Dk} (h : x.ok n) (ks : List Int) : (x.up ks).ok n := ⟨h.n1, h.n2, tear_len _ h.hw _ _ h.lp, tear_len _ h.hw _ _ h.lp, by simp [Dk.up], by simp [Dk.up]⟩
def kept (m : Nat) (ks : List Int) : List Int := ks.take m ++ List.replicate (m - ks.length) 0
theorem kept_len (m : Nat) (ks : List Int) : (kept m ks).length = m := by simp [kept]; omega
theorem kept_at {m : Nat} {ks : List Int} {i : Nat} (h : i < m) : ((kept m ks).map (Value.int .i64))[0 + i * 1]? = some (.int .i64 ((ks.drop i).headD 0)) := by
 rw [Nat.zero_add, Nat.mul_one, List.getElem?_map]
 have : (kept m ks)[i]? = some ((ks.drop i).headD 0) := by
  unfold kept
  by_cases hi : i < ks.length
  ·rw [List.getElem?_append_left (by simp; omega), List.getElem?_take, if_pos h, List.headD_eq_head?_getD, List.head?_drop]; simp [hi]
  ·rw [List.getElem?_append_right (by simp; omega), List.drop_of_length_le (by omega)]
   simp only [List.length_take, List.headD_nil]
   rw [List.getElem?_replicate, if_pos (by omega)]
 rw [this]; rfl
theorem ints0 (n : Nat) : (List.replicate n (Value.int .i64 0).cells.toList).flatten = (List.replicate n (0 : Int)).map (Value.int .i64) := by
 induction n with
 | zero => rfl
 | succ n ih => rw [List.replicate_succ, List.flatten_cons, ih]; simp [Value.cells, List.replicate_succ]
theorem kept_new (m : Nat) (ks : List Int) : (kept m ks).map (Value.int .i64) = splice ((List.replicate m (0 : Int)).map (Value.int .i64)) 0 ((ks.map (Value.int .i64)).take (Nat.min ks.length m * 1)) := by
 have e : Nat.min ks.length m = min ks.length m := rfl
 simp only [splice, kept, List.take_zero, List.nil_append, Nat.mul_one, e, List.map_append, List.map_take, Nat.zero_add, List.length_take, List.length_map]
 congr 1
 ·rcases Nat.le_total ks.length m with h | h
  ·rw [Nat.min_eq_left h, List.take_of_length_le (by simpa using h), List.take_of_length_le (by simp)]
  ·rw [Nat.min_eq_right h]
 ·rw [List.map_replicate, List.map_replicate, List.drop_replicate]
  congr 1; omega
structure UX where
 i : Nat
 p : List UInt8
structure UX.ok (n : Nat) (x : Dk) (ks : List Int) (t : UX) : Prop where
 le : t.i ≤ x.waits.length
 lp : t.p.length = n * 64
 eq : tear t.p (x.waits.drop t.i) (ks.drop t.i) = tear x.plat x.waits ks
theorem UX.next {n : Nat} {x : Dk} {ks : List Int} {i : Nat} {p : List UInt8} (h : (⟨i, p⟩ : UX).ok n x ks) (hx : x.ok n) (hi : i < x.waits.length) : (⟨i + 1, torn p x.waits[i] ((ks.drop i).headD 0)⟩ : UX).ok n x ks := by
 obtain ⟨h1, h2, h3⟩ := h
 simp only at h1 h2 h3
 refine ⟨hi, torn_len h2 (hx.hw _ (List.getElem_mem hi)), ?_⟩
 rw [← h3, List.drop_eq_getElem_cons hi, tear, List.tail_drop]
theorem disk_Up {I : Imm} {d n : Nat} {x : Dk} {L : Chunks} (hd : IsDisk d n x L) {ks : List Int} {vs : Value} (hks : SlRd (Im I) vs ks.length 1 (ks.map (Value.int .i64))) (hwb : x.waits.length ≤ 1954687338000) : Spec Try.prog 21 [.pointer (some ⟨d, 0, none⟩), vs] I L (fun v' J L' => v' = .tuple #[] ∧ I = J ∧ IsDisk d n (x.up ks) L') := by
 cases hd with
 | @mk bp bn vw Lw ok ow =>
 obtain ⟨n1, n2, lp, ln, hw, hl⟩ := id ok
 obtain ⟨Aw, cw, rfl, hcw⟩ := ow.slice
 refine Spec.of Try.func21 rfl Try.ntmps21 (Nat.le_of_ble_eq_true rfl) (fun F => ?_)
 try simp only [nf]
 dsimp only [argsEnv]
 refine WP.seq ?_
 refine WP.region [0, 1, 2, 3, 4, 5, 6] rfl ?_
 refine WP.mv rfl rfl ?_
 refine WP.vl rfl (Yld.nilCheck rfl rfl) ?_
 refine WP.vl rfl (Yld.fieldAddr rfl ty_fd_101_2 rfl) ?_
 refine WP.vl rfl (Yld.ld rfl ty_sc_99 rfl rfl) ?_
 refine WP.vl rfl (Yld.len rfl ty_sl_99 rfl) ?_
 refine WP.loud rfl rfl ?_
 refine Op.make (l := x.waits.length) (c := x.waits.length) rfl ty_sl_62 ty_el_62 rfl rfl rfl rfl rfl (Nat.le_refl _) (by omega) (by omega) (fun bk => ?_)
 rw [ints0]
 refine WP.mv rfl rfl ?_
 refine WP.nil ?_
 refine WP.sub [(0, _), (1, _), (4, _)] ?_ ⟨rfl, rfl, rfl, trivial⟩
 refine WP.next ?_
 refine WP.seq ?_
 refine WP.region [0, 1, 2] rfl ?_
 iterate 2 refine WP.mv rfl rfl ?_
 refine WP.loud rfl rfl ?_
 refine Op.copy (k := 0) (m := x.waits.length) (m2 := ks.length) (q := Nat.min ks.length x.waits.length) (cs := ks.map (Value.int .i64)) (old := (List.replicate x.waits.length (0 : Int)).map (Value.int .i64)) (new := (kept x.waits.length ks).map (Value.int .i64)) rfl ty_sl_62 rfl rfl rfl rfl (SlAt.blk (Nat.le_refl _)) (hks.mono Im.there) (by simp [List.all_eq_true, Value.oneCell']) rfl (by have : Nat.min ks.length x.waits.length ≤ x.waits.length := Nat.min_le_right _ _; simp; omega) (kept_new _ _) (by repeat (first | exact Upd.head | apply Upd.tail | apply Upd.tailS)) ?_
 refine WP.nil ?_
 refine WP.sub [(0, _), (1, _), (4, _)] ?_ ⟨rfl, rfl, rfl, trivial⟩
 refine WP.next ?_
 refine WP.seq ?_
 refine WP.seq ?_
 refine WP.region [0, 1, 2, 3, 4, 5] rfl ?_
 refine WP.mv rfl rfl ?_
 refine WP.vl rfl (Yld.nilCheck rfl rfl) ?_
 refine WP.vl rfl (Yld.fieldAddr rfl ty_fd_101_2 rfl) ?_
 refine WP.vl rfl (Yld.ld rfl ty_sc_99 rfl rfl) ?_
 refine WP.vl rfl (Yld.len rfl ty_sl_99 rfl) ?_
 refine WP.mv rfl rfl ?_
 refine WP.nil ?_
 refine WP.sub [(0, _), (1, _), (4, _), (20, _), (21, _), (22, _)] ?_ ⟨rfl, rfl, rfl, rfl, rfl, rfl, trivial⟩
 refine WP.next ?_
 refine WP.block ?_
 refine WP.loop (X := UX) (fun t : UX => [(0, .pointer (some ⟨d, 0, none⟩)), (4, .slice (some ⟨bk, 0, none⟩) x.waits.length x.waits.length), (20, .slice Aw x.waits.length cw), (21, .int .i64 (x.waits.length : Int)), (22, .int .i64 (t.i : Int))]) (fun _ => I) (fun t : UX => (d, row 101 [.slice (some ⟨bp, 0, none⟩) (n * 64) (n * 64), .slice (some ⟨bn, 0, none⟩) (n * 64) (n * 64), .slice Aw x.waits.length cw, .int .i64 x.left, .bool x.off, .int .i64 x.writes, .int .i64 x.syncs]) :: (bp, row 5 (bytesV t.p)) :: (bn, row 5 (bytesV x.now)) :: (bk, row 106 ((kept x.waits.length ks).map (Value.int .i64))) :: (Lw ++ F)) (fun t => t.ok n x ks) (fun t => x.waits.length - t.i) ⟨0, x.plat⟩ ⟨Nat.zero_le _, lp, rfl⟩ ⟨rfl, rfl, rfl, rfl, rfl, trivial⟩ rfl (by (try dsimp only); repeat (first | exact Rm.chunk | exact Rm.here | exact Rm.nil0 | apply Rm.skip | apply Rm.skipS | apply PX.cons | (apply PX.done; (repeat (first | exact Leave.done | apply Leave.drop | apply Leave.dropS)); done) | apply PX.app)) ?_
 rintro ⟨i, p⟩ hx
 try dsimp only
 try simp only [nf]
 refine WP.seq ?_
 refine WP.region [0] rfl ?_
 refine WP.split rfl rfl rfl rfl (Yld.lss rfl rfl rfl) (fun hlt => ?_) (fun hlt => ?_)
 ·have hi : i < x.waits.length := by first | omega | (simp only at hlt; omega)
  obtain ⟨bw, cpw, spw, hvw, rfl, hqw, hrw⟩ := ow.get (by omega)
  injection hvw with hAw _ hcw'
  subst hAw hcw'
  have he := hw _ (List.getElem_mem hi)
  have gl := hx.lp
  simp only at gl
  refine WP.nil ?_
  refine WP.next ?_
  refine WP.seq ?_
  refine WP.condT rfl ?_
  refine WP.skip ?_
  refine WP.next ?_
  refine WP.seq ?_
  refine WP.block ?_
  refine WP.seq ?_
  refine WP.region [0, 1, 2, 3, 4, 5] rfl ?_
  refine WP.mv rfl rfl ?_
  refine WP.vl rfl (Yld.indexAddr rfl ty_sl_99 rfl rfl (by omega)) ?_
  refine WP.vl rfl (Yld.loadAggC (arr := (wcells x.waits ++ spw).toArray) rfl ty_ag_105 rfl (by repeat (first | exact There.h | exact There.i (by assumption) | apply There.t | apply There.s)) (wcells_at hw hi spw) (wcell_len he.2)) ?_
  refine WP.loud rfl rfl ?_
  refine Op.alloc rfl rfl rfl ty_zr_105 (fun b6 => ?_)
  refine WP.mv rfl rfl ?_
  refine WP.loud rfl rfl ?_
  refine Op.sA rfl rfl ty_sz_105 rfl rfl (wcell_len he.2) (wcell_one _) rfl ?_
  refine WP.nil ?_
  refine WP.sub [(0, _), (4, _), (5, _), (6, _), (20, _), (21, _), (22, _), (23, _)] ?_ ⟨rfl, rfl, rfl, rfl, rfl, rfl, rfl, rfl, trivial⟩
  refine WP.next ?_
  refine WP.seq ?_
  refine WP.region [0, 1, 2, 3, 4, 5, 6] rfl ?_
  iterate 2 refine WP.mv rfl rfl ?_
  refine WP.vl rfl (Yld.indexAddr rfl ty_sl_62 rfl rfl (by omega)) ?_
  refine WP.vl rfl (Yld.ld rfl ty_sc_106 rfl (kept_at hi)) ?_
  refine WP.vl rfl (Yld.max2 rfl rfl rfl _ rfl) ?_
  refine WP.vl rfl (Yld.min2 rfl rfl rfl _ rfl) ?_
  refine WP.mv rfl rfl ?_
  refine WP.nil ?_
  refine WP.sub [(0, _), (4, _), (5, _), (6, _), (7, _), (20, _), (21, _), (22, _), (23, _)] ?_ ⟨rfl, rfl, rfl, rfl, rfl, rfl, rfl, rfl, rfl, trivial⟩
  refine WP.next ?_
  refine WQ.start Trymixed 11 (by kernel_rfl) _ rfl [11] rfl ?_
  refine WQ.val rfl rfl rfl (Yld.move rfl rfl) ?_
  refine WQ.val rfl rfl rfl (Yld.nilCheck rfl rfl) ?_
  refine WQ.val rfl rfl rfl (Yld.fieldAddr rfl ty_fd_101_0 rfl) ?_
  refine WQ.val rfl rfl rfl (Yld.ld rfl ty_sc_46 rfl rfl) ?_
  refine WQ.val rfl rfl rfl (Yld.fieldAddr rfl ty_fd_105_0 rfl) ?_
  refine WQ.val rfl rfl rfl (Yld.ld rfl ty_sc_3 rfl rfl) ?_
  refine WQ.val rfl rfl rfl (Yld.mul64 rfl rfl rfl (by omega)) ?_
  refine WQ.val rfl rfl rfl (Yld.slice rfl ty_sl_46 rfl (Env.limS (n := x.waits[i].1 * 64) (congrArg (fun z => some (Value.int .i64 z)) (by omega))) Env.lim0 (by omega) (by omega)) ?_
  refine WQ.val rfl rfl rfl (Yld.fieldAddr rfl ty_fd_105_1 rfl) ?_
  refine WQ.val rfl rfl rfl (Yld.move rfl rfl) ?_
  refine WQ.val rfl rfl rfl (Yld.sliceA rfl ty_ar_103 rfl Env.lim0 (Env.limS (n := keepN ((ks.drop i).headD 0)) (congrArg (fun z => some (Value.int .i64 z)) (by unfold keepN; (repeat' split) <;> omega))) (Nat.zero_le _) (keepN_le _)) ?_
  refine WQ.nil ?_
  refine WP.loud rfl rfl ?_
  have hkl := keepN_le ((ks.drop i).headD 0)
  refine Op.copyB (k := 0 + x.waits[i].1 * 64 * 1) (m := n * 64 - x.waits[i].1 * 64) (m2 := keepN ((ks.drop i).headD 0) - 0) (q := keepN ((ks.drop i).headD 0)) (old := p) (new := torn p x.waits[i] ((ks.drop i).headD 0)) (s := x.waits[i].2.take (keepN ((ks.drop i).headD 0))) rfl ty_sl_46 rfl rfl rfl rfl (SlAt.sub (SlAt.blk (Nat.le_refl _)) (by omega) (by omega)) (wcell_rd he.2 (by repeat (first | exact There.h | exact There.i (by assumption) | apply There.t | apply There.s)) (keepN_le _)) (Nat.min_eq_left (by omega)) (by omega) (by simp [List.take_take, torn]) (by repeat (first | exact Upd.head | apply Upd.tail | apply Upd.tailS)) ?_
  refine WP.nil ?_
  refine WP.sub [(0, _), (4, _), (5, _), (6, _), (7, _), (20, _), (21, _), (22, _), (23, _)] ?_ ⟨rfl, rfl, rfl, rfl, rfl, rfl, rfl, rfl, rfl, trivial⟩
  refine WP.leave ?_
  refine WP.next ?_
  refine WP.region [0, 1] rfl ?_
  refine WP.vl rfl (Yld.add64 rfl rfl rfl (by omega)) ?_
  refine WP.mv rfl rfl ?_
  refine WP.nil ?_
  refine WP.sub [(0, _), (4, _), (5, _), (6, _), (7, _), (20, _), (21, _), (22, _), (23, _)] ?_ ⟨rfl, rfl, rfl, rfl, rfl, rfl, rfl, rfl, rfl, trivial⟩
  exact WP.ag ⟨i + 1, torn p x.waits[i] ((ks.drop i).headD 0)⟩ (UX.next hx ok hi) (by simp only; omega) ⟨rfl, rfl, rfl, rfl, rfl, trivial⟩ rfl
 ·have hil : i = x.waits.length := by have := hx.le; simp only at this; first | omega | (simp only at hlt; omega)
  have hpe := hx.eq
  simp only at hpe
  rw [hil, List.drop_length, tear] at hpe
  have gl := hx.lp
  simp only at gl
  refine WP.nil ?_
  refine WP.next ?_
  refine WP.seq ?_
  refine WP.condF rfl ?_
  refine WP.exit ?_
  refine WP.thenE ?_
  refine WP.thenE ?_
  refine WP.hit ?_
  refine WP.next ?_
  refine WP.seq ?_
  refine WP.region [0, 1, 2, 3, 4] rfl ?_
  refine WP.mv rfl rfl ?_
  refine WP.vl rfl (Yld.nilCheck rfl rfl) ?_
  refine WP.vl rfl (Yld.fieldAddr rfl ty_fd_101_2 rfl) ?_
  refine WP.vl rfl (Yld.ld rfl ty_sc_99 rfl rfl) ?_
  refine WP.loud rfl rfl ?_
  refine Op.clear rfl ty_sl_99 ty_el2_99 rfl rfl rfl rfl ow (by repeat (first | exact Take.nil | with_reducible apply Take.cons | apply Take.app | exact Rm.chunk | exact Rm.here | exact Rm.nil0 | apply Rm.skip | apply Rm.skipS | (focus (apply Take.all; (repeat (first | exact Rm.chunk | exact Rm.here | exact Rm.nil0 | apply Rm.skip | apply Rm.skipS)); done)) | apply Take.cons)) (fun zs Lz hz => ?_)
  try simp only [nf]
  refine WP.nil ?_
  refine WP.sub [(0, _), (4, _), (20, _), (21, _), (22, _), (23, _)] ?_ ⟨rfl, rfl, rfl, rfl, rfl, rfl, trivial⟩
  refine WP.next ?_
  refine WP.seq ?_
  refine WP.region [0, 1, 2, 3, 4, 5, 6, 7, 8, 9, 10, 11] rfl ?_
  iterate 3 refine WP.mv rfl rfl ?_
  refine WP.vl rfl (Yld.nilCheck rfl rfl) ?_
  refine WP.vl rfl (Yld.fieldAddr rfl ty_fd_101_2 rfl) ?_
  refine WP.loud rfl rfl ?_
  refine Op.s1 rfl rfl ty_sz_99 rfl rfl rfl ?_
  refine WP.vl rfl (Yld.nilCheck rfl rfl) ?_
  refine WP.vl rfl (Yld.fieldAddr rfl ty_fd_101_3 rfl) ?_
  refine WP.loud rfl rfl ?_
  refine Op.s1 rfl rfl ty_sz_3 rfl rfl rfl ?_
  refine WP.vl rfl (Yld.nilCheck rfl rfl) ?_
  refine WP.vl rfl (Yld.fieldAddr rfl ty_fd_101_4 rfl) ?_
  refine WP.loud rfl rfl ?_
  refine Op.s1 rfl rfl ty_sz_4 rfl rfl rfl ?_
  refine WP.nil ?_
  refine WP.sub [(0, _), (4, _), (20, _), (21, _), (22, _), (23, _)] ?_ ⟨rfl, rfl, rfl, rfl, rfl, rfl, trivial⟩
  refine WP.next ?_
  refine WQ.start Trymixed 8 (by kernel_rfl) _ rfl [8] rfl ?_
  refine WQ.val rfl rfl rfl (Yld.move rfl rfl) ?_
  refine WQ.val rfl rfl rfl (Yld.nilCheck rfl rfl) ?_
  refine WQ.val rfl rfl rfl (Yld.fieldAddr rfl ty_fd_101_1 rfl) ?_
  refine WQ.val rfl rfl rfl (Yld.ld rfl ty_sc_46 rfl rfl) ?_
  refine WQ.val rfl rfl rfl (Yld.move rfl rfl) ?_
  refine WQ.val rfl rfl rfl (Yld.nilCheck rfl rfl) ?_
  refine WQ.val rfl rfl rfl (Yld.fieldAddr rfl ty_fd_101_0 rfl) ?_
  refine WQ.val rfl rfl rfl (Yld.ld rfl ty_sc_46 rfl rfl) ?_
  refine WQ.nil ?_
  refine WP.loud rfl rfl ?_
  refine Op.copyB (k := 0) (m := n * 64) (m2 := n * 64) (q := n * 64) (old := x.now) (new := p) rfl ty_sl_46 rfl rfl rfl rfl (SlAt.blk (Nat.le_refl _)) (SlAt.rdB (l := p) (SlAt.blk (Nat.le_refl _)) (by repeat (first | exact There.h | exact There.i (by assumption) | apply There.t | apply There.s)) (by omega)) (Nat.min_self _) (by omega) (by simp [List.take_of_length_le, gl, ln]) (by repeat (first | exact Upd.head | apply Upd.tail | apply Upd.tailS)) ?_
  refine WP.nil ?_
  refine WP.sub [(0, _), (4, _), (20, _), (21, _), (22, _), (23, _)] ?_ ⟨rfl, rfl, rfl, rfl, rfl, rfl, trivial⟩
  refine WP.fn .normal (.inl rfl) (res0 rfl) [(d, row 101 _), (bp, row 5 _), (bn, row 5 _)] (Imm.le_refl _) ?_
  subst hpe
  exact ⟨rfl, rfl, .mk (x := x.up ks) (Dk.up_ok ok ks) .none0⟩


end Go.Hp
