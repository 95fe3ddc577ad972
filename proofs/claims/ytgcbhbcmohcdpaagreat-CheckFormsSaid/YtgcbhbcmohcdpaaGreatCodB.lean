import Derived.Test.YtgcbhbcmohcdpaaGreatTabD
import Derived.Test.YtgcbhbcmohcdpaaGreatHpEq
import Derived.Test.YtgcbhbcmohcdpaaGreatLogC
set_option linter.unusedVariables false
set_option linter.unusedSimpArgs false
namespace Go.Hp
open Go Go.Proofs

/-- What a Writer has. -/
structure WrS where
 bs : List UInt8
 v : Value
 Lv : Chunks
def wrL (q l D bx : Nat) (rc : Loop) (t : WrS) : Chunks := (l, .loop rc) :: (D, .deferred (some [])) :: (bx, row 58 [.pointer (some ⟨q, 0, none⟩)]) :: (q, row 85 [t.v]) :: t.Lv
def WrS.own (t : WrS) : Prop := Own 5 1 t.v (bytesV t.bs) t.bs.length t.Lv
def wrGood (t : WrS) (v : Value) : Prop := (∃ x : UInt8, v = byteV x) ∧ t.own ∧ t.bs.length + 1 ≤ 140737488355328
def wrStep (t : WrS) (v : Value) (t' : WrS) : Prop := ∃ x : UInt8, v = byteV x ∧ t'.bs = t.bs ++ [x] ∧ t'.own
theorem numB_fit {a b : List UInt8} {n m : Nat} (h : a ++ numB n = b ++ numB m) (hb : b.length + (numB m).length ≤ 140737488355328) : a.length + 1 ≤ 140737488355328 := by
 have := congrArg List.length h; have h2 := numB_pos n
 simp only [List.length_append] at this; omega
theorem code_digits1 {I : Imm} {q l D bx c n : Nat} {rc : Loop} {t0 : WrS} (hY : Yields Tryz.prog l (fun _ => I) (wrL q l D bx rc) wrGood wrStep) (hn : n < 18446744073709551616) (ho : t0.own) (hb : t0.bs.length + (numB n).length ≤ 140737488355328) : Spec Tryz.prog 48 [.func (.yield l) #[] #[], .pointer (some ⟨c, 0, none⟩)] I (wrL q l D bx rc t0 ++ [(c, row 62 [.int .u64 (n : Int)])]) (fun v J L' => ∃ t', I = J ∧ t'.bs = t0.bs ++ numB n ∧ t'.own ∧ L' = wrL q l D bx rc t') := by
 refine Spec.of Tryz.func48 rfl Tryz.ntmps48 (Nat.le_of_ble_eq_true rfl) (fun F => ?_)
 try simp only [nf]
 dsimp only [argsEnv]
 refine WP.seq (WP.block ?_)
 refine WP.loop (X := WrS × Nat) (fun t : WrS × Nat => [(0, .func (.yield l) #[] #[]), (1, .pointer (some ⟨c, 0, none⟩))]) (fun _ => I) (fun t : WrS × Nat => wrL q l D bx rc t.1 ++ ((c, row 62 [.int .u64 (t.2 : Int)]) :: F)) (fun t : WrS × Nat => t.1.own ∧ t.2 < 18446744073709551616 ∧ t.1.bs ++ numB t.2 = t0.bs ++ numB n) (fun t => t.2) (t0, n) ⟨ho, hn, rfl⟩ ⟨rfl, rfl, trivial⟩ rfl zP ?_; rintro ⟨t, k⟩ ⟨ho, hk, he⟩; dsimp only at ho hk he; have hfit := numB_fit he hb
 try dsimp only
 try simp only [nf]
 refine WP.seq (WP.seq ?_)
 refine WP.region [0, 1] rfl ?_; refine WP.vl rfl (Yld.ld (v := .int .u64 (k : Int)) rfl ty_sc_62 rfl rfl) ?_; refine WP.split rfl rfl rfl rfl (Yld.geq rfl rfl rfl) (fun hge => ?_) (fun hge => ?_)
 ·refine WP.nil ?_
  refine WP.sub [(0, _), (1, _), (4, _)] ?_ ⟨rfl, rfl, rfl, trivial⟩
  refine WP.next ?_; refine WP.condT rfl ?_; refine WP.skip (WP.next (WP.seq (WP.block (WP.seq ?_))))
  refine WP.regionY [0, 1, 2, 3, 4, 5] rfl ?_; refine WPI.val rfl rfl rfl rfl (Yld.move rfl rfl) ?_; refine WPI.val rfl rfl rfl rfl (Yld.ld (v := .int .u64 (k : Int)) rfl ty_sc_62 rfl rfl) ?_; refine WPI.val rfl rfl rfl rfl (Yld.convN8 k rfl ty_un_62 ty_ik_5 rfl) ?_; refine WPI.val rfl rfl rfl rfl (Yld.or8 (UInt8.ofNat k) 128 rfl rfl rfl) ?_; rw [or_hi k]
  skip
  refine WPI.yield (t := t) hY rfl rfl rfl rfl rfl rfl rfl rfl zT ⟨⟨_, rfl⟩, ho, hfit⟩ (fun t1 hs1 => ?_)
  obtain ⟨x1, hx1, hb1, ho1⟩ := hs1
  obtain rfl : x1 = UInt8.ofNat (k % 128 + 128) := by have h := hx1.symm; unfold byteV at h; injection h with _ h; exact byteV_inj h
  refine WPI.val rfl rfl rfl rfl (Yld.not rfl rfl) ?_; refine WPI.nil ?_; refine WP.sub [(0, _), (1, _), (4, _), (12, _)] ?_ ⟨rfl, rfl, rfl, rfl, trivial⟩
  refine WP.next ?_; refine WP.condF rfl ?_; refine WP.skip (WP.leave (WP.next ?_))
  refine WP.region [0, 1, 2] rfl ?_; refine WP.vl rfl (Yld.ld (v := .int .u64 (k : Int)) rfl ty_sc_62 rfl rfl) ?_; refine WP.vl rfl (Yld.quoU64 (a := k) (b := 128) rfl rfl rfl ⟨hk, by decide⟩) ?_; refine WP.loud rfl rfl ?_; refine Op.s1 rfl rfl ty_sz_62 rfl rfl rfl ?_; refine WP.nil ?_; refine WP.sub [(0, _), (1, _), (4, _), (12, _)] ?_ ⟨rfl, rfl, rfl, rfl, trivial⟩
  exact WP.ag (t1, k / 128) ⟨ho1, (show k / 128 < 18446744073709551616 by omega), (by rw [hb1, List.append_assoc, ← he, numB_hi (n := k) (by omega)]; rfl)⟩ (show k / 128 < k by omega) ⟨rfl, rfl, trivial⟩ rfl
 ·refine WP.nil ?_
  refine WP.sub [(0, _), (1, _), (4, _)] ?_ ⟨rfl, rfl, rfl, trivial⟩
  refine WP.next ?_; refine WP.condF rfl ?_; refine WP.exit (WP.thenE (WP.thenE (WP.hit (WP.next ?_))))
  refine WP.regionY [0, 1, 2, 3] rfl ?_; refine WPI.val rfl rfl rfl rfl (Yld.move rfl rfl) ?_; refine WPI.val rfl rfl rfl rfl (Yld.ld (v := .int .u64 (k : Int)) rfl ty_sc_62 rfl rfl) ?_; refine WPI.val rfl rfl rfl rfl (Yld.convN8 k rfl ty_un_62 ty_ik_5 rfl) ?_
  skip
  refine WPI.yield (t := t) hY rfl rfl rfl rfl rfl rfl rfl rfl zT ⟨⟨_, rfl⟩, ho, hfit⟩ (fun t1 hs1 => ?_)
  obtain ⟨x1, hx1, hb1, ho1⟩ := hs1
  obtain rfl : x1 = UInt8.ofNat k := by have h := hx1.symm; unfold byteV at h; injection h with _ h; exact byteV_inj h
  refine WPI.nil ?_; refine WP.sub [(0, _), (1, _), (4, _)] ?_ ⟨rfl, rfl, rfl, trivial⟩
  refine WP.fn .normal (.inl rfl) (res0 rfl) (wrL q l D bx rc t1) (Imm.le_refl _) ?_; exact ⟨t1, rfl, (by rw [hb1, ← he, numB_lo (by omega)]), ho1, rfl⟩
theorem code_digits {I : Imm} {n : Nat} : Spec Tryz.prog 32 [.int .u64 (n : Int)] I [] (fun v J L' => I = J ∧ ∃ c, v = .func (.func 48) [].toArray [.pointer (some ⟨c, 0, none⟩)].toArray ∧ L' = [(c, row 62 [.int .u64 (n : Int)])]) := by
 refine Spec.of Tryz.func32 rfl Tryz.ntmps32 (Nat.le_of_ble_eq_true rfl) (fun F => ?_)
 try simp only [nf]
 dsimp only [argsEnv]
 refine WP.seq ?_; refine WP.region [0, 1] rfl ?_; refine WP.loud rfl rfl ?_; refine Op.box rfl rfl rfl rfl rfl (fun c => ?_)
 refine WP.mv rfl rfl ?_; refine WP.nil (WP.next (WP.seq ?_))
 refine WP.region [0, 1] rfl ?_; refine WP.vl rfl (Yld.makeFunc rfl (vs := []) (us := [_]) rfl rfl) ?_; refine WP.mv rfl rfl ?_; refine WP.nil ?_; refine WP.sub [(0, _), (1, _), (2, _)] ?_ ⟨rfl, rfl, rfl, trivial⟩
 refine WP.next (WP.ret ?_)
 refine WP.fn .ret (.inr rfl) (res1 rfl rfl) [(c, row 62 [.int .u64 (n : Int)])] (Imm.le_refl _) ?_; exact ⟨rfl, c, rfl, rfl⟩


theorem code_Num {I : Imm} {q n : Nat} {bs : List UInt8} {v : Value} {Lv : Chunks} (ho : Own 5 1 v (bytesV bs) bs.length Lv) (hn : n < 18446744073709551616) (hb : bs.length + (numB n).length ≤ 140737488355328) : Spec Tryz.prog 17 [.pointer (some ⟨q, 0, none⟩), .int .u64 (n : Int)] I ((q, row 85 [v]) :: Lv) (fun r J L' => r = .tuple #[] ∧ I = J ∧ ∃ v' Lv', Own 5 1 v' (bytesV (bs ++ numB n)) (bs ++ numB n).length Lv' ∧ L' = (q, row 85 [v']) :: Lv') := by
 refine Spec.ofM Tryz.func17 rfl Tryz.ntmps17 (Nat.le_of_ble_eq_true rfl) (fun F => ?_)
 try simp only [nf]
 dsimp only [argsEnv]
 refine WP.seq ?_; refine WP.region [0] rfl ?_; refine WP.loud rfl rfl ?_; refine Op.box rfl rfl rfl rfl rfl (fun bx => ?_)
 refine WP.nil (WP.next (WP.seq ?_))
 refine WP.region [0, 1] rfl ?_; refine WP.mv rfl rfl ?_; refine WP.loud rfl rfl ?_; refine Op.cl (code_digits (n := n)) rfl Tryz.func32 rfl rfl rfl rfl ?_; rintro v2 J L1 - ⟨rfl, c, rfl, rfl⟩
 try simp only [nf]
 refine WP.nil (WP.next ?_)
 refine WP.rangeFunc (gf := 48) (us := [.pointer (some ⟨c, 0, none⟩)]) (L1 := (bx, row 58 [.pointer (some ⟨q, 0, none⟩)]) :: (q, row 85 [v]) :: (Lv ++ [(c, row 62 [.int .u64 (n : Int)])])) rfl Tryz.func48 rfl rfl (by simp only [nf]; exact zP) (fun fn a D ha => ?_)
 generalize hl : D + 1 = l
 refine Spec.mono (code_digits1 (t0 := ⟨bs, v, Lv⟩) (bx := bx) (D := D) (q := q) (l := l) ?_ hn ho hb) ?_
 rotate_left
 ·rintro v3 J L' - ⟨t', rfl, hb', ho', rfl⟩
  exact ⟨_, _, rfl, List.sublist_cons_self _ _, rfl, rfl, _, _, (by rw [← hb']; exact ho'), rfl⟩
 ·rintro t v F2 W R hW ⟨⟨x, rfl⟩, ho, hfit⟩ hR
  obtain ⟨bs2, v2, Lv2⟩ := t
  dsimp only [WrS.own] at ho hfit
  obtain ⟨At, ct, rfl, _⟩ := ho.slice
  refine round_of (n := 18) (p := 7) ⟨a, rfl, ha⟩ rfl (hW : Has I ((l, .loop _) :: (_ ++ F2)) W) ?_; refine WP.regionIn (some l) [0] rfl rfl noOut_then ?_; refine WP.mv rfl rfl ?_; refine WP.nil ?_; refine WP.beginRound zT ?_; try simp only [nf]
  refine WP.blockIn ?_; refine WD.startIn (some l) (by rfl) Tryzmixed 10 (fun c o => (c = bx ∧ o = row 58 [.pointer (some ⟨q, 0, none⟩)]) ∨ (c = q ∧ o = row 85 [.slice At bs2.length ct])) (fun _ _ => False) (by rintro _ _ (⟨rfl, rfl⟩ | ⟨rfl, rfl⟩) <;> exact zM) (fun _ _ h => h.elim) 11 [false, false, false, false, false, false, false, false, false, false, false] rfl rfl ?_; refine WD.val1 (i := 0) rfl rfl rfl rfl zK rfl zK (Yld.load (v := .pointer (some ⟨q, 0, none⟩)) rfl ty_sc_58 rfl (.inl (.inl ⟨rfl, rfl⟩)) rfl) ?_; refine WD.val1 (i := 1) rfl rfl rfl rfl zK rfl zK (Yld.load (v := .pointer (some ⟨q, 0, none⟩)) rfl ty_sc_58 rfl (.inl (.inl ⟨rfl, rfl⟩)) rfl) ?_; refine WD.vl (i := 2) rfl (Yld.nilCheck rfl rfl) ?_; refine WD.vl (i := 3) rfl (Yld.fieldAddr rfl ty_fd_85_0 rfl) ?_; refine WD.val1 (i := 4) rfl rfl rfl rfl zK rfl zK (Yld.load (v := .slice At bs2.length ct) rfl ty_sc_25 rfl (.inl (.inr ⟨rfl, rfl⟩)) rfl) ?_; refine WD.vl (i := 5) rfl (Yld.move rfl rfl) ?_; refine WD.loud (i := 6) zK rfl rfl rfl ?_; refine Op.buildSlice rfl ty_sl_25 ty_el2_25 rfl rfl rfl rfl (vs := [_]) rfl (segs := [(0, [_])]) (cs := bytesV [x]) rfl rfl zS (fun b14 => ?_)
  refine WD.go (.inr (by rintro _ _ (⟨rfl, rfl⟩ | ⟨rfl, rfl⟩) <;> exact zM)) (fun _ _ h => h.elim) ?_; refine WD.loud (i := 7) zK rfl rfl rfl ?_; refine Op.append (m := 1) rfl ty_sl_25 ty_el_25 rfl rfl rfl rfl rfl ho (SlRd.lit (m := 1) zM rfl (Nat.le_refl _)) zT rfl (by omega) (by omega) (fun vn Ln hn2 => ?_)
  try simp only [nf]
  obtain ⟨An, cn, rfl, _⟩ := hn2.slice
  refine WD.go (.inr (by rintro _ _ (⟨rfl, rfl⟩ | ⟨rfl, rfl⟩) <;> exact zM)) (fun _ _ h => h.elim) ?_; refine WD.vl (i := 8) rfl (Yld.nilCheck rfl rfl) ?_; refine WD.vl (i := 9) rfl (Yld.fieldAddr rfl ty_fd_85_0 rfl) ?_; refine WD.loud (i := 10) zK rfl rfl rfl ?_; refine Op.s1 rfl rfl ty_sz_25 rfl rfl rfl ?_; refine WD.go (.inl rfl) (fun _ _ h => h.elim) ?_; refine WD.done zK ?_; refine WP.endRound zT (fun W2 hW2 => ?_)
  have hn3 : Own 5 1 (.slice An (bs2.length + 1) cn) (bytesV (bs2 ++ [x])) (bs2 ++ [x]).length Ln := by rw [List.length_append, bytesV_app]; exact hn2
  refine hR ⟨bs2 ++ [x], _, Ln⟩ W2 ⟨x, rfl, rfl, hn3⟩ (PX.has ?_ hW2)
  exact zP

/-- A Writer that has these bytes. -/
inductive IsWr (q : Nat) (bs : List UInt8) : Chunks → Prop
 | mk {v : Value} {Lv : Chunks} (ho : Own 5 1 v (bytesV bs) bs.length Lv) : IsWr q bs ((q, row 85 [v]) :: Lv)
theorem code_NumW {I : Imm} {q n : Nat} {bs : List UInt8} {L : Chunks} (hq : IsWr q bs L) (hn : n < 18446744073709551616) (hb : bs.length + (numB n).length ≤ 140737488355328) : Spec Tryz.prog 17 [.pointer (some ⟨q, 0, none⟩), .int .u64 (n : Int)] I L (fun r J L' => r = .tuple #[] ∧ I = J ∧ IsWr q (bs ++ numB n) L') := by
 cases hq with
 | mk ho => exact (code_Num ho hn hb).mono (by rintro v J L' - ⟨h1, h2, v', Lv', h3, rfl⟩; exact ⟨h1, h2, .mk h3⟩)
theorem code_NewWriter {I : Imm} : Spec Tryz.prog 15 [] I [] (fun v J L => I = J ∧ ∃ q, v = .pointer (some ⟨q, 0, none⟩) ∧ IsWr q [] L) := by
 refine Spec.of Tryz.func15 rfl Tryz.ntmps15 (Nat.le_of_ble_eq_true rfl) (fun F => ?_)
 try simp only [nf]
 dsimp only [argsEnv]
 refine WP.seq ?_; refine WP.region [0] rfl ?_; refine WP.mv rfl rfl ?_; refine WP.nil (WP.next (WP.seq ?_))
 refine WP.region [0, 1, 2] rfl ?_; refine WP.vl rfl (Yld.buildS (pl := []) rfl ty_zr_85 ty_zd_85 zK rfl (vs := []) rfl (segs := []) rfl rfl zS) ?_; refine WP.loud rfl rfl ?_; refine Op.box rfl rfl rfl rfl rfl (fun q => ?_)
 refine WP.mv rfl rfl ?_; refine WP.nil ?_; refine WP.sub [(0, _)] ?_ ⟨rfl, trivial⟩
 refine WP.next (WP.ret ?_)
 refine WP.fn .ret (.inr rfl) (res1 rfl rfl) [(q, row 85 [.slice none 0 0])] (Imm.le_refl _) ?_; exact ⟨rfl, q, rfl, .mk (v := .slice none 0 0) (Lv := []) .none0⟩

theorem code_copied {I : Imm} {b : List UInt8} {vb : Value} (hb : SlRd (Im I) vb b.length 1 (bytesV b)) (hl : b.length ≤ 140737488355328) : Spec Tryz.prog 33 [vb] I [] (fun v J L => I = J ∧ Own 5 1 v (bytesV b) b.length L) := by
 obtain ⟨Ab, cb, rfl, _, _, _⟩ := id hb
 refine Spec.of Tryz.func33 rfl Tryz.ntmps33 (Nat.le_of_ble_eq_true rfl) (fun F => ?_)
 try simp only [nf]
 dsimp only [argsEnv]
 refine WP.seq ?_; refine WP.region [0] rfl ?_; refine WP.mv rfl rfl ?_; refine WP.nil (WP.next (WP.seq ?_))
 refine WP.region [0, 1, 2, 3] rfl ?_; refine WP.mv rfl rfl ?_; refine WP.vl rfl (Yld.len rfl ty_sl_25 rfl) ?_; refine WP.loud rfl rfl ?_; refine Op.make (l := b.length) (c := b.length) rfl ty_sl_25 ty_el_25 rfl rfl rfl rfl rfl (Nat.le_refl _) (by omega) (by omega) (fun bc => ?_)
 rw [bytes0']
 refine WP.mv rfl rfl ?_; refine WP.nil ?_; refine WP.sub [(0, _), (2, _), (3, _)] ?_ ⟨rfl, rfl, rfl, trivial⟩
 refine WP.next (WP.seq ?_)
 refine WP.region [0, 1, 2] rfl ?_; iterate 2 refine WP.mv rfl rfl ?_
 refine WP.loud rfl rfl ?_; refine Op.copyB (k := 0) (m := b.length) (m2 := b.length) (q := b.length) (old := List.replicate b.length 0) (new := b) (s := b) rfl ty_sl_25 rfl rfl rfl rfl (SlAt.blk (Nat.le_refl _)) (hb.mono (fun b o h => .inr h)) (Nat.min_self _) (by simp) (by simp) (by repeat (first | exact Upd.head | apply Upd.tail | apply Upd.tailS)) ?_; refine WP.nil ?_; refine WP.sub [(0, _), (2, _), (3, _)] ?_ ⟨rfl, rfl, rfl, trivial⟩
 refine WP.next (WP.seq ?_)
 refine WP.region [0, 1] rfl ?_; iterate 2 refine WP.mv rfl rfl ?_
 refine WP.nil ?_; refine WP.sub [(0, _), (2, _), (3, _)] ?_ ⟨rfl, rfl, rfl, trivial⟩
 refine WP.next (WP.ret ?_)
 refine WP.fn .ret (.inr rfl) (res1 rfl rfl) [(bc, row 5 (bytesV b))] (Imm.le_refl _) ?_; exact ⟨rfl, own_lit rfl⟩

theorem code_Done {I : Imm} {q : Nat} {bs : List UInt8} {L : Chunks} (hq : IsWr q bs L) (hl : bs.length ≤ 140737488355328) : Spec Tryz.prog 18 [.pointer (some ⟨q, 0, none⟩)] I L (fun v J L' => Own 5 1 v (bytesV bs) bs.length L') := by
 cases hq with
 | @mk v Lv ho =>
 obtain ⟨Aw, cw, rfl, _⟩ := ho.slice
 refine Spec.of Tryz.func18 rfl Tryz.ntmps18 (Nat.le_of_ble_eq_true rfl) (fun F => ?_)
 try simp only [nf]
 dsimp only [argsEnv]
 refine WP.seq ?_; refine WP.region [0] rfl ?_; refine WP.mv rfl rfl ?_; refine WP.nil ?_; refine WP.shO ho (fun J2 hJ2 hb => ?_)
 refine WP.next (WP.seq ?_)
 refine WP.region [0, 1, 2, 3, 4, 5] rfl ?_; refine WP.mv rfl rfl ?_; refine WP.vl rfl (Yld.nilCheck rfl rfl) ?_; refine WP.vl rfl (Yld.fieldAddr rfl ty_fd_85_0 rfl) ?_; refine WP.vl rfl (Yld.ld (v := .slice Aw bs.length cw) rfl ty_sc_25 rfl rfl) ?_; refine WP.loud rfl rfl ?_; refine Op.cl (code_copied hb hl) rfl Tryz.func33 rfl rfl rfl rfl ?_; rintro v J Lc - ⟨rfl, hc⟩
 try simp only [nf]
 refine WP.mv rfl rfl ?_; refine WP.nil ?_; refine WP.sub [(0, _), (2, _)] ?_ ⟨rfl, rfl, trivial⟩
 refine WP.next (WP.ret ?_)
 refine WP.fn .ret (.inr rfl) (res1 rfl rfl) Lc hJ2 ?_; exact hc


end Go.Hp
