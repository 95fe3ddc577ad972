import Derived.Test.YtcebcphnmbhcpaaGreatTabD
import Derived.Test.YtcebcphnmbhcpaaGreatHpEq
import Derived.Test.YtcebcphnmbhcpaaGreatLogC
import Derived.Test.YtcebcphnmbhcpaaGreatTabK
import Derived.Test.YtcebcphnmbhcpaaGreatLogF
set_option linter.unusedVariables false
set_option linter.unusedSimpArgs false
namespace Go.Hp
open Go Go.Proofs

/-- What a Writer has. -/
structure WrS where
 bs : List UInt8
 v : Value
 Lv : Chunks
def wrL (q l D bx : Nat) (rc : Loop) (t : WrS) : Chunks := (l, .loop rc) :: (D, .deferred (some [])) :: (bx, row 192 [.pointer (some ⟨q, 0, none⟩)]) :: (q, row 215 [t.v]) :: t.Lv
def WrS.own (t : WrS) : Prop := Own 5 1 t.v (bytesV t.bs) t.bs.length t.Lv
def wrGood (t : WrS) (v : Value) : Prop := (∃ x : UInt8, v = byteV x) ∧ t.own ∧ t.bs.length + 1 ≤ 140737488355328
def wrStep (t : WrS) (v : Value) (t' : WrS) : Prop := ∃ x : UInt8, v = byteV x ∧ t'.bs = t.bs ++ [x] ∧ t'.own
theorem numB_fit {a b : List UInt8} {n m : Nat} (h : a ++ numB n = b ++ numB m) (hb : b.length + (numB m).length ≤ 140737488355328) : a.length + 1 ≤ 140737488355328 := by
 have := congrArg List.length h; have h2 := numB_pos n
 simp only [List.length_append] at this; omega
theorem code_digits1 {I : Imm} {q l D bx c n : Nat} {rc : Loop} {t0 : WrS} (hY : Yields Tryz.prog l (fun _ => I) (wrL q l D bx rc) wrGood wrStep) (hn : n < 18446744073709551616) (ho : t0.own) (hb : t0.bs.length + (numB n).length ≤ 140737488355328) : Spec Tryz.prog 108 [.func (.yield l) #[] #[], .pointer (some ⟨c, 0, none⟩)] I (wrL q l D bx rc t0 ++ [(c, row 44 [.int .u64 (n : Int)])]) (fun v J L' => ∃ t', I = J ∧ t'.bs = t0.bs ++ numB n ∧ t'.own ∧ L' = wrL q l D bx rc t') := by
 refine Spec.of Tryz.func108 rfl Tryz.ntmps108 (Nat.le_of_ble_eq_true rfl) (fun F => ?_)
 try simp only [nf]
 dsimp only [argsEnv]
 refine WP.seq (WP.block ?_)
 refine WP.loop (X := WrS × Nat) (fun t : WrS × Nat => [(0, .func (.yield l) #[] #[]), (1, .pointer (some ⟨c, 0, none⟩))]) (fun _ => I) (fun t : WrS × Nat => wrL q l D bx rc t.1 ++ ((c, row 44 [.int .u64 (t.2 : Int)]) :: F)) (fun t : WrS × Nat => t.1.own ∧ t.2 < 18446744073709551616 ∧ t.1.bs ++ numB t.2 = t0.bs ++ numB n) (fun t => t.2) (t0, n) ⟨ho, hn, rfl⟩ ⟨rfl, rfl, trivial⟩ rfl zP ?_; rintro ⟨t, k⟩ ⟨ho, hk, he⟩; dsimp only at ho hk he; have hfit := numB_fit he hb
 try dsimp only
 try simp only [nf]
 refine WP.seq (WP.seq ?_)
 refine WP.region [0, 1] rfl ?_; refine WP.vl rfl (Yld.ld (v := .int .u64 (k : Int)) rfl ty_sc_44 rfl rfl) ?_; refine WP.split rfl rfl rfl rfl (Yld.geq rfl rfl rfl) (fun hge => ?_) (fun hge => ?_)
 ·refine WP.nil ?_
  refine WP.sub [(0, _), (1, _), (4, _)] ?_ ⟨rfl, rfl, rfl, trivial⟩
  refine WP.next ?_; refine WP.condT rfl ?_; refine WP.skip (WP.next (WP.seq (WP.block (WP.seq ?_))))
  refine WP.regionY [0, 1, 2, 3, 4, 5] rfl ?_; refine WPI.val rfl rfl rfl rfl (Yld.move rfl rfl) ?_; refine WPI.val rfl rfl rfl rfl (Yld.ld (v := .int .u64 (k : Int)) rfl ty_sc_44 rfl rfl) ?_; refine WPI.val rfl rfl rfl rfl (Yld.convN8 k rfl ty_un_44 ty_ik_5 rfl) ?_; refine WPI.val rfl rfl rfl rfl (Yld.or8 (UInt8.ofNat k) 128 rfl rfl rfl) ?_; rw [or_hi k]
  skip
  refine WPI.yield (t := t) hY rfl rfl rfl rfl rfl rfl rfl rfl zT ⟨⟨_, rfl⟩, ho, hfit⟩ (fun t1 hs1 => ?_)
  obtain ⟨x1, hx1, hb1, ho1⟩ := hs1
  obtain rfl : x1 = UInt8.ofNat (k % 128 + 128) := by have h := hx1.symm; unfold byteV at h; injection h with _ h; exact byteV_inj h
  refine WPI.val rfl rfl rfl rfl (Yld.not rfl rfl) ?_; refine WPI.nil ?_; refine WP.sub [(0, _), (1, _), (4, _), (12, _)] ?_ ⟨rfl, rfl, rfl, rfl, trivial⟩
  refine WP.next ?_; refine WP.condF rfl ?_; refine WP.skip (WP.leave (WP.next ?_))
  refine WP.region [0, 1, 2] rfl ?_; refine WP.vl rfl (Yld.ld (v := .int .u64 (k : Int)) rfl ty_sc_44 rfl rfl) ?_; refine WP.vl rfl (Yld.quoU64 (a := k) (b := 128) rfl rfl rfl ⟨hk, by decide⟩) ?_; refine WP.loud rfl rfl ?_; refine Op.s1 rfl rfl ty_sz_44 rfl rfl rfl ?_; refine WP.nil ?_; refine WP.sub [(0, _), (1, _), (4, _), (12, _)] ?_ ⟨rfl, rfl, rfl, rfl, trivial⟩
  exact WP.ag (t1, k / 128) ⟨ho1, (show k / 128 < 18446744073709551616 by omega), (by rw [hb1, List.append_assoc, ← he, numB_hi (n := k) (by omega)]; rfl)⟩ (show k / 128 < k by omega) ⟨rfl, rfl, trivial⟩ rfl
 ·refine WP.nil ?_
  refine WP.sub [(0, _), (1, _), (4, _)] ?_ ⟨rfl, rfl, rfl, trivial⟩
  refine WP.next ?_; refine WP.condF rfl ?_; refine WP.exit (WP.thenE (WP.thenE (WP.hit (WP.next ?_))))
  refine WP.regionY [0, 1, 2, 3] rfl ?_; refine WPI.val rfl rfl rfl rfl (Yld.move rfl rfl) ?_; refine WPI.val rfl rfl rfl rfl (Yld.ld (v := .int .u64 (k : Int)) rfl ty_sc_44 rfl rfl) ?_; refine WPI.val rfl rfl rfl rfl (Yld.convN8 k rfl ty_un_44 ty_ik_5 rfl) ?_
  skip
  refine WPI.yield (t := t) hY rfl rfl rfl rfl rfl rfl rfl rfl zT ⟨⟨_, rfl⟩, ho, hfit⟩ (fun t1 hs1 => ?_)
  obtain ⟨x1, hx1, hb1, ho1⟩ := hs1
  obtain rfl : x1 = UInt8.ofNat k := by have h := hx1.symm; unfold byteV at h; injection h with _ h; exact byteV_inj h
  refine WPI.nil ?_; refine WP.sub [(0, _), (1, _), (4, _)] ?_ ⟨rfl, rfl, rfl, trivial⟩
  refine WP.fn .normal (.inl rfl) (res0 rfl) (wrL q l D bx rc t1) (Imm.le_refl _) ?_; exact ⟨t1, rfl, (by rw [hb1, ← he, numB_lo (by omega)]), ho1, rfl⟩
theorem code_digits {I : Imm} {n : Nat} : Spec Tryz.prog 98 [.int .u64 (n : Int)] I [] (fun v J L' => I = J ∧ ∃ c, v = .func (.func 108) [].toArray [.pointer (some ⟨c, 0, none⟩)].toArray ∧ L' = [(c, row 44 [.int .u64 (n : Int)])]) := by
 refine Spec.of Tryz.func98 rfl Tryz.ntmps98 (Nat.le_of_ble_eq_true rfl) (fun F => ?_)
 try simp only [nf]
 dsimp only [argsEnv]
 refine WP.seq ?_; refine WP.region [0, 1] rfl ?_; refine WP.loud rfl rfl ?_; refine Op.box rfl rfl rfl rfl rfl (fun c => ?_)
 refine WP.mv rfl rfl ?_; refine WP.nil (WP.next (WP.seq ?_))
 refine WP.region [0, 1] rfl ?_; refine WP.vl rfl (Yld.makeFunc rfl (vs := []) (us := [_]) rfl rfl) ?_; refine WP.mv rfl rfl ?_; refine WP.nil ?_; refine WP.sub [(0, _), (1, _), (2, _)] ?_ ⟨rfl, rfl, rfl, trivial⟩
 refine WP.next (WP.ret ?_)
 refine WP.fn .ret (.inr rfl) (res1 rfl rfl) [(c, row 44 [.int .u64 (n : Int)])] (Imm.le_refl _) ?_; exact ⟨rfl, c, rfl, rfl⟩


theorem code_Num {I : Imm} {q n : Nat} {bs : List UInt8} {v : Value} {Lv : Chunks} (ho : Own 5 1 v (bytesV bs) bs.length Lv) (hn : n < 18446744073709551616) (hb : bs.length + (numB n).length ≤ 140737488355328) : Spec Tryz.prog 85 [.pointer (some ⟨q, 0, none⟩), .int .u64 (n : Int)] I ((q, row 215 [v]) :: Lv) (fun r J L' => r = .tuple #[] ∧ I = J ∧ ∃ v' Lv', Own 5 1 v' (bytesV (bs ++ numB n)) (bs ++ numB n).length Lv' ∧ L' = (q, row 215 [v']) :: Lv') := by
 refine Spec.ofM Tryz.func85 rfl Tryz.ntmps85 (Nat.le_of_ble_eq_true rfl) (fun F => ?_)
 try simp only [nf]
 dsimp only [argsEnv]
 refine WP.seq ?_; refine WP.region [0] rfl ?_; refine WP.loud rfl rfl ?_; refine Op.box rfl rfl rfl rfl rfl (fun bx => ?_)
 refine WP.nil (WP.next (WP.seq ?_))
 refine WP.region [0, 1] rfl ?_; refine WP.mv rfl rfl ?_; refine WP.loud rfl rfl ?_; refine Op.cl (code_digits (n := n)) rfl Tryz.func98 rfl rfl rfl rfl ?_; rintro v2 J L1 - ⟨rfl, c, rfl, rfl⟩
 try simp only [nf]
 refine WP.nil (WP.next ?_)
 refine WP.rangeFunc (gf := 108) (us := [.pointer (some ⟨c, 0, none⟩)]) (L1 := (bx, row 192 [.pointer (some ⟨q, 0, none⟩)]) :: (q, row 215 [v]) :: (Lv ++ [(c, row 44 [.int .u64 (n : Int)])])) rfl Tryz.func108 rfl rfl (by simp only [nf]; exact zP) (fun fn a D ha => ?_)
 generalize hl : D + 1 = l
 refine Spec.mono (code_digits1 (t0 := ⟨bs, v, Lv⟩) (bx := bx) (D := D) (q := q) (l := l) ?_ hn ho hb) ?_
 rotate_left
 ·rintro v3 J L' - ⟨t', rfl, hb', ho', rfl⟩
  exact ⟨_, _, rfl, List.sublist_cons_self _ _, rfl, rfl, _, _, (by rw [← hb']; exact ho'), rfl⟩
 ·rintro t v F2 W R hW ⟨⟨x, rfl⟩, ho, hfit⟩ hR
  obtain ⟨bs2, v2, Lv2⟩ := t
  dsimp only [WrS.own] at ho hfit
  obtain ⟨At, ct, rfl, _⟩ := ho.slice
  refine round_of (n := 18) (p := 7) ⟨a, rfl, ha⟩ rfl (hW : Has I ((l, .loop _) :: (_ ++ F2)) W) ?_; refine WP.regionIn (some l) [0] rfl rfl noOut_then ?_; refine WP.mv rfl rfl ?_; refine WP.nil ?_; refine WP.beginRound zT ?_; try simp only [nf]
  refine WP.blockIn ?_; refine WD.startIn (some l) (by rfl) Tryzmixed 10 (fun c o => (c = bx ∧ o = row 192 [.pointer (some ⟨q, 0, none⟩)]) ∨ (c = q ∧ o = row 215 [.slice At bs2.length ct])) (fun _ _ => False) (by rintro _ _ (⟨rfl, rfl⟩ | ⟨rfl, rfl⟩) <;> exact zM) (fun _ _ h => h.elim) 11 [false, false, false, false, false, false, false, false, false, false, false] rfl rfl ?_; refine WD.val1 (i := 0) rfl rfl rfl rfl zK rfl zK (Yld.load (v := .pointer (some ⟨q, 0, none⟩)) rfl ty_sc_192 rfl (.inl (.inl ⟨rfl, rfl⟩)) rfl) ?_; refine WD.val1 (i := 1) rfl rfl rfl rfl zK rfl zK (Yld.load (v := .pointer (some ⟨q, 0, none⟩)) rfl ty_sc_192 rfl (.inl (.inl ⟨rfl, rfl⟩)) rfl) ?_; refine WD.vl (i := 2) rfl (Yld.nilCheck rfl rfl) ?_; refine WD.vl (i := 3) rfl (Yld.fieldAddr rfl ty_fd_215_0 rfl) ?_; refine WD.val1 (i := 4) rfl rfl rfl rfl zK rfl zK (Yld.load (v := .slice At bs2.length ct) rfl ty_sc_47 rfl (.inl (.inr ⟨rfl, rfl⟩)) rfl) ?_; refine WD.vl (i := 5) rfl (Yld.move rfl rfl) ?_; refine WD.loud (i := 6) zK rfl rfl rfl ?_; refine Op.buildSlice rfl ty_sl_47 ty_el2_47 rfl rfl rfl rfl (vs := [_]) rfl (segs := [(0, [_])]) (cs := bytesV [x]) rfl rfl zS (fun b14 => ?_)
  refine WD.go (.inr (by rintro _ _ (⟨rfl, rfl⟩ | ⟨rfl, rfl⟩) <;> exact zM)) (fun _ _ h => h.elim) ?_; refine WD.loud (i := 7) zK rfl rfl rfl ?_; refine Op.append (m := 1) rfl ty_sl_47 ty_el_47 rfl rfl rfl rfl rfl ho (SlRd.lit (m := 1) zM rfl (Nat.le_refl _)) zT rfl (by omega) (by omega) (fun vn Ln hn2 => ?_)
  try simp only [nf]
  obtain ⟨An, cn, rfl, _⟩ := hn2.slice
  refine WD.go (.inr (by rintro _ _ (⟨rfl, rfl⟩ | ⟨rfl, rfl⟩) <;> exact zM)) (fun _ _ h => h.elim) ?_; refine WD.vl (i := 8) rfl (Yld.nilCheck rfl rfl) ?_; refine WD.vl (i := 9) rfl (Yld.fieldAddr rfl ty_fd_215_0 rfl) ?_; refine WD.loud (i := 10) zK rfl rfl rfl ?_; refine Op.s1 rfl rfl ty_sz_47 rfl rfl rfl ?_; refine WD.go (.inl rfl) (fun _ _ h => h.elim) ?_; refine WD.done zK ?_; refine WP.endRound zT (fun W2 hW2 => ?_)
  have hn3 : Own 5 1 (.slice An (bs2.length + 1) cn) (bytesV (bs2 ++ [x])) (bs2 ++ [x]).length Ln := by rw [List.length_append, bytesV_app]; exact hn2
  refine hR ⟨bs2 ++ [x], _, Ln⟩ W2 ⟨x, rfl, rfl, hn3⟩ (PX.has ?_ hW2)
  exact zP

/-- A Writer that has these bytes. -/
inductive IsWr (q : Nat) (bs : List UInt8) : Chunks → Prop
 | mk {v : Value} {Lv : Chunks} (ho : Own 5 1 v (bytesV bs) bs.length Lv) : IsWr q bs ((q, row 215 [v]) :: Lv)
theorem code_NumW {I : Imm} {q n : Nat} {bs : List UInt8} {L : Chunks} (hq : IsWr q bs L) (hn : n < 18446744073709551616) (hb : bs.length + (numB n).length ≤ 140737488355328) : Spec Tryz.prog 85 [.pointer (some ⟨q, 0, none⟩), .int .u64 (n : Int)] I L (fun r J L' => r = .tuple #[] ∧ I = J ∧ IsWr q (bs ++ numB n) L') := by
 cases hq with
 | mk ho => exact (code_Num ho hn hb).mono (by rintro v J L' - ⟨h1, h2, v', Lv', h3, rfl⟩; exact ⟨h1, h2, .mk h3⟩)
theorem code_NewWriter {I : Imm} : Spec Tryz.prog 84 [] I [] (fun v J L => I = J ∧ ∃ q, v = .pointer (some ⟨q, 0, none⟩) ∧ IsWr q [] L) := by
 refine Spec.of Tryz.func84 rfl Tryz.ntmps84 (Nat.le_of_ble_eq_true rfl) (fun F => ?_)
 try simp only [nf]
 dsimp only [argsEnv]
 refine WP.seq ?_; refine WP.region [0] rfl ?_; refine WP.mv rfl rfl ?_; refine WP.nil (WP.next (WP.seq ?_))
 refine WP.region [0, 1, 2] rfl ?_; refine WP.vl rfl (Yld.buildS (pl := []) rfl ty_zr_215 ty_zd_215 zK rfl (vs := []) rfl (segs := []) rfl rfl zS) ?_; refine WP.loud rfl rfl ?_; refine Op.box rfl rfl rfl rfl rfl (fun q => ?_)
 refine WP.mv rfl rfl ?_; refine WP.nil ?_; refine WP.sub [(0, _)] ?_ ⟨rfl, trivial⟩
 refine WP.next (WP.ret ?_)
 refine WP.fn .ret (.inr rfl) (res1 rfl rfl) [(q, row 215 [.slice none 0 0])] (Imm.le_refl _) ?_; exact ⟨rfl, q, rfl, .mk (v := .slice none 0 0) (Lv := []) .none0⟩

theorem code_Raw {I : Imm} {q : Nat} {bs : List UInt8} {L : Chunks} (hq : IsWr q bs L) {b : List UInt8} {vb : Value} (hb : SlRd (Im I) vb b.length 1 (bytesV b)) (hl : bs.length + b.length ≤ 140737488355328) : Spec Tryz.prog 109 [.pointer (some ⟨q, 0, none⟩), vb] I L (fun r J L' => r = .tuple #[] ∧ I = J ∧ IsWr q (bs ++ b) L') := by
 cases hq with
 | @mk v Lv ho =>
 obtain ⟨Aw, cw, rfl, _⟩ := ho.slice
 refine Spec.of Tryz.func109 rfl Tryz.ntmps109 (Nat.le_of_ble_eq_true rfl) (fun F => ?_)
 try simp only [nf]
 dsimp only [argsEnv]
 refine WP.region [0, 1, 2, 3, 4, 5, 6, 7, 8, 9] rfl ?_; iterate 2 refine WP.mv rfl rfl ?_
 refine WP.vl rfl (Yld.nilCheck rfl rfl) ?_; refine WP.vl rfl (Yld.fieldAddr rfl ty_fd_215_0 rfl) ?_; refine WP.vl rfl (Yld.ld (v := .slice Aw bs.length cw) rfl ty_sc_47 rfl rfl) ?_; refine WP.mv rfl rfl ?_; refine WP.loud rfl rfl ?_; refine Op.append (m := b.length) rfl ty_sl_47 ty_el_47 rfl rfl rfl rfl rfl ho (hb.mono (fun b o h => .inr h)) zT (bytesV_one _) (by omega) (by omega) (fun vn Ln hn2 => ?_)
 try simp only [nf]
 obtain ⟨An, cn, rfl, _⟩ := hn2.slice
 refine WP.vl rfl (Yld.nilCheck rfl rfl) ?_; refine WP.vl rfl (Yld.fieldAddr rfl ty_fd_215_0 rfl) ?_; refine WP.loud rfl rfl ?_; refine Op.s1 rfl rfl ty_sz_47 rfl rfl rfl ?_; refine WP.nil ?_; refine WP.sub [(0, _), (1, _)] ?_ ⟨rfl, rfl, trivial⟩
 refine WP.fn .normal (.inl rfl) (res0 rfl) ((q, row 215 [(.slice An (bs.length + b.length) cn)]) :: Ln) (Imm.le_refl _) ?_; exact ⟨rfl, rfl, .mk (by rw [bytesV_app, List.length_append]; exact hn2)⟩

theorem code_Bytes {I : Imm} {q : Nat} {bs : List UInt8} {L : Chunks} (hq : IsWr q bs L) {b : List UInt8} {vb : Value} (hb : SlRd (Im I) vb b.length 1 (bytesV b)) (hl : bs.length + ((numB b.length).length + b.length) ≤ 140737488355328) : Spec Tryz.prog 99 [.pointer (some ⟨q, 0, none⟩), vb] I L (fun r J L' => r = .tuple #[] ∧ I = J ∧ IsWr q (bs ++ (numB b.length ++ b)) L') := by
 obtain ⟨Ab, cb, rfl, _, _, _⟩ := id hb
 refine Spec.of Tryz.func99 rfl Tryz.ntmps99 (Nat.le_of_ble_eq_true rfl) (fun F => ?_)
 try simp only [nf]
 dsimp only [argsEnv]
 refine WP.seq ?_; refine WP.region [0, 1, 2, 3, 4] rfl ?_; iterate 2 refine WP.mv rfl rfl ?_
 refine WP.vl rfl (Yld.len rfl ty_sl_47 rfl) ?_; refine WP.vl rfl (Yld.conv64u b.length rfl ty_un_3 ty_ik_44 rfl (by omega)) ?_; refine WP.loud rfl rfl ?_; refine Op.cl (code_NumW hq (by omega) (by omega)) rfl Tryz.func85 rfl rfl rfl rfl ?_; rintro v J L1 - ⟨rfl, rfl, hq⟩
 try simp only [nf]
 have h10 := numB_10 (n := b.length) (by omega)
 refine WP.nil ?_; refine WP.sub [(0, _), (1, _)] ?_ ⟨rfl, rfl, trivial⟩
 refine WP.next ?_; refine WP.region [0, 1, 2] rfl ?_; iterate 2 refine WP.mv rfl rfl ?_
 refine WP.loud rfl rfl ?_; refine Op.cl (code_Raw hq hb (by rw [List.length_append]; omega)) rfl Tryz.func109 rfl rfl rfl rfl ?_; rintro v J L2 - ⟨rfl, rfl, hq⟩
 try simp only [nf]
 rw [List.append_assoc] at hq
 refine WP.nil ?_; refine WP.sub [(0, _), (1, _)] ?_ ⟨rfl, rfl, trivial⟩
 refine WP.fn .normal (.inl rfl) (res0 rfl) L2 (Imm.le_refl _) ?_; exact ⟨rfl, rfl, hq⟩

theorem code_copied {I : Imm} {b : List UInt8} {vb : Value} (hb : SlRd (Im I) vb b.length 1 (bytesV b)) (hl : b.length ≤ 140737488355328) : Spec Tryz.prog 110 [vb] I [] (fun v J L => I = J ∧ Own 5 1 v (bytesV b) b.length L) := by
 obtain ⟨Ab, cb, rfl, _, _, _⟩ := id hb
 refine Spec.of Tryz.func110 rfl Tryz.ntmps110 (Nat.le_of_ble_eq_true rfl) (fun F => ?_)
 try simp only [nf]
 dsimp only [argsEnv]
 refine WP.seq ?_; refine WP.region [0] rfl ?_; refine WP.mv rfl rfl ?_; refine WP.nil (WP.next (WP.seq ?_))
 refine WP.region [0, 1, 2, 3] rfl ?_; refine WP.mv rfl rfl ?_; refine WP.vl rfl (Yld.len rfl ty_sl_47 rfl) ?_; refine WP.loud rfl rfl ?_; refine Op.make (l := b.length) (c := b.length) rfl ty_sl_47 ty_el_47 rfl rfl rfl rfl rfl (Nat.le_refl _) (by omega) (by omega) (fun bc => ?_)
 rw [bytes0']
 refine WP.mv rfl rfl ?_; refine WP.nil ?_; refine WP.sub [(0, _), (2, _), (3, _)] ?_ ⟨rfl, rfl, rfl, trivial⟩
 refine WP.next (WP.seq ?_)
 refine WP.region [0, 1, 2] rfl ?_; iterate 2 refine WP.mv rfl rfl ?_
 refine WP.loud rfl rfl ?_; refine Op.copyB (k := 0) (m := b.length) (m2 := b.length) (q := b.length) (old := List.replicate b.length 0) (new := b) (s := b) rfl ty_sl_47 rfl rfl rfl rfl (SlAt.blk (Nat.le_refl _)) (hb.mono (fun b o h => .inr h)) (Nat.min_self _) (by simp) (by simp) (by repeat (first | exact Upd.head | apply Upd.tail | apply Upd.tailS)) ?_; refine WP.nil ?_; refine WP.sub [(0, _), (2, _), (3, _)] ?_ ⟨rfl, rfl, rfl, trivial⟩
 refine WP.next (WP.seq ?_)
 refine WP.region [0, 1] rfl ?_; iterate 2 refine WP.mv rfl rfl ?_
 refine WP.nil ?_; refine WP.sub [(0, _), (2, _), (3, _)] ?_ ⟨rfl, rfl, rfl, trivial⟩
 refine WP.next (WP.ret ?_)
 refine WP.fn .ret (.inr rfl) (res1 rfl rfl) [(bc, row 5 (bytesV b))] (Imm.le_refl _) ?_; exact ⟨rfl, own_lit rfl⟩

theorem code_Done {I : Imm} {q : Nat} {bs : List UInt8} {L : Chunks} (hq : IsWr q bs L) (hl : bs.length ≤ 140737488355328) : Spec Tryz.prog 100 [.pointer (some ⟨q, 0, none⟩)] I L (fun v J L' => Own 5 1 v (bytesV bs) bs.length L') := by
 cases hq with
 | @mk v Lv ho =>
 obtain ⟨Aw, cw, rfl, _⟩ := ho.slice
 refine Spec.of Tryz.func100 rfl Tryz.ntmps100 (Nat.le_of_ble_eq_true rfl) (fun F => ?_)
 try simp only [nf]
 dsimp only [argsEnv]
 refine WP.seq ?_; refine WP.region [0] rfl ?_; refine WP.mv rfl rfl ?_; refine WP.nil ?_; refine WP.shO ho (fun J2 hJ2 hb => ?_)
 refine WP.next (WP.seq ?_)
 refine WP.region [0, 1, 2, 3, 4, 5] rfl ?_; refine WP.mv rfl rfl ?_; refine WP.vl rfl (Yld.nilCheck rfl rfl) ?_; refine WP.vl rfl (Yld.fieldAddr rfl ty_fd_215_0 rfl) ?_; refine WP.vl rfl (Yld.ld (v := .slice Aw bs.length cw) rfl ty_sc_47 rfl rfl) ?_; refine WP.loud rfl rfl ?_; refine Op.cl (code_copied hb hl) rfl Tryz.func110 rfl rfl rfl rfl ?_; rintro v J Lc - ⟨rfl, hc⟩
 try simp only [nf]
 refine WP.mv rfl rfl ?_; refine WP.nil ?_; refine WP.sub [(0, _), (2, _)] ?_ ⟨rfl, rfl, trivial⟩
 refine WP.next (WP.ret ?_)
 refine WP.fn .ret (.inr rfl) (res1 rfl rfl) Lc hJ2 ?_; exact hc

section
variable {P : Program} {n : Nat} {E : Env} {I : Imm} {L : Chunks} {o : Oper}
theorem Enters.bound {f : Nat} {fn : Func} {x : Operand} {xs : Array Operand} {ts : Array TypeId} {rs us vs : List Value} (hop : o.op = .call { callee := .value x, args := xs, argTypes := ts })
  (hf : P.funcs[f]? = some fn) (hfn : ((fn.name == "runtime.NumGoroutine") || fn.body.isNone) = false) (hx : E.ev x = some (.func (.func f) rs.toArray us.toArray)) (hxs : xs.toList.map E.ev = vs.map some) : Enters P n E I L o f (rs ++ vs ++ us) := fun a W ha hW => by
 simp only [Bool.or_eq_false_iff] at hfn
 have hfn1 : fn.name ≠ "runtime.NumGoroutine" := by simpa using hfn.1
 have hfn2 : fn.body ≠ none := fun e => by simp [e] at hfn
 have hargs := evs_ok ha hxs
 simp [execOp, hop, resolve, Deferred.ofValue, Go.invoke, ha.ev hx, hargs, callFunc, hf, hfn1, hfn2]

end

/-- Nodes that are read. -/
structure RNodes (I : Imm) (vn : Value) (l : List (Bool × List UInt8)) : Prop where
 ex : ∃ nv, SlRd (Imv I) vn l.length 2 (nv.flatMap ndV) ∧ NodesOk (Imv I) nv l
theorem RNodes.mono {I J : Imm} {vn : Value} {l : List (Bool × List UInt8)} (h : RNodes I vn l) (hJ : I.le J) : RNodes J vn l := by
 obtain ⟨nv, h1, h2⟩ := h.ex
 exact ⟨nv, h1.mono (Imv.le hJ), h2.mono (Imv.le hJ)⟩
/-- A page's record. -/
structure Pr where
 page : Int
 prev : Int
 nodes : List (Bool × List UInt8)
def prV (r : Pr) (vn : Value) : List Value := [.int .i64 r.page, .int .i64 r.prev, vn]
theorem prV_len (x : Pr × Value) : (prV x.1 x.2).length = 3 := rfl
/-- Page's records that are read. -/
structure RPrs (I : Imm) (v : Value) (l : List (Pr × Value)) : Prop where
 rd : SlRd (Im I) v l.length 3 (l.flatMap fun x => prV x.1 x.2)
 el : ∀ x ∈ l, RNodes I x.2 x.1.nodes
theorem RPrs.mono {I J : Imm} {v : Value} {l : List (Pr × Value)} (h : RPrs I v l) (hJ : I.le J) : RPrs J v l := ⟨h.rd.mono fun b o q => hJ.2 b o q, fun x hx => (h.el x hx).mono hJ⟩
theorem RPrs.at_ {J : Imm} {A : Option Addr} {c : Nat} {l : List (Pr × Value)} (h : RPrs J (.slice A l.length c) l) {i : Nat} (hi : i < l.length) : ∃ b k T fr arr, A = some ⟨b, k, none⟩ ∧ J.blk b = some (.cells arr T fr) ∧ ((arr.toList.drop (k + i * 3)).take 3) = prV l[i].1 l[i].2 := by
 obtain ⟨b, k, T, fr, arr, e, hb, hseg, _⟩ := h.rd.elem hi
 refine ⟨b, k, T, fr, arr, e, hb, ?_⟩
 rw [hseg]
 have hf := flat_seg (f := fun x : Pr × Value => prV x.1 x.2) prV_len hi []
 rw [List.append_nil, Nat.zero_add] at hf
 exact hf
def pageOk (p : Int) : Prop := 1 ≤ p ∧ p ≤ 512
instance (p : Int) : Decidable (pageOk p) := inferInstanceAs (Decidable (_ ∧ _))
def chainP (l : List (Bool × List UInt8)) (b : Bool) : Prop := 1 ≤ l.length ∧ l.length ≤ 64 ∧ ∀ i (h : i < l.length), l[i].1 = (b && decide (i + 1 = l.length))
def Pr.may (r : Pr) : Prop := pageOk r.page ∧ 0 ≤ r.prev ∧ r.prev ≤ 1099511627776 ∧ chainP r.nodes (decide (r.prev = 0))
theorem flat_succ {α β : Type} (f : α → List β) {l : List α} {i : Nat} (h : i < l.length) : (l.take (i + 1)).flatMap f = (l.take i).flatMap f ++ f l[i] := by
 rw [List.take_succ_eq_append_getElem h, List.flatMap_append]; simp
theorem flat_pre {α β : Type} (f : α → List β) {l : List α} {i : Nat} (h : i < l.length) : ((l.take i).flatMap f).length + (f l[i]).length ≤ (l.flatMap f).length := by
 have e : l.flatMap f = (l.take (i + 1)).flatMap f ++ (l.drop (i + 1)).flatMap f := by rw [← List.flatMap_append, List.take_append_drop]
 rw [e, flat_succ f h, List.length_append, List.length_append]; omega
def nodeB (x : Bool × List UInt8) : List UInt8 := numB (if x.1 then 1 else 0) ++ (numB x.2.length ++ x.2)
def nodesB (l : List (Bool × List UInt8)) : List UInt8 := numB l.length ++ l.flatMap nodeB
def pageB (r : Pr) : List UInt8 := numB r.page.toNat ++ (numB r.prev.toNat ++ nodesB r.nodes)
theorem txn_isPage {I : Imm} {p : Int} : Spec Tryz.prog 96 [.int .i64 p] I [] (fun v J L => v = .bool (decide (pageOk p)) ∧ I = J ∧ L = []) := by
 refine Spec.of Tryz.func96 rfl Tryz.ntmps96 (Nat.le_of_ble_eq_true rfl) (fun F => ?_)
 try simp only [nf]
 dsimp only [argsEnv]
 refine WP.seq ?_; refine WP.region [0] rfl ?_; refine WP.mv rfl rfl ?_; refine WP.nil (WP.next (WP.seq ?_))
 refine WP.region [0, 1, 2, 3, 4, 5, 6] rfl ?_; refine WP.mv rfl rfl ?_; refine WP.split rfl rfl rfl rfl (Yld.geq rfl rfl rfl) (fun h1 => ?_) (fun h1 => ?_)
 ·refine WP.mv rfl rfl ?_
  refine WP.valG rfl rfl rfl rfl rfl rfl rfl (Yld.move rfl rfl) ?_; refine WP.splitG rfl rfl rfl rfl rfl rfl rfl (Yld.leq rfl rfl rfl) (fun h2 => ?_) (fun h2 => ?_)
  ·refine WP.vl rfl (Yld.pickT rfl rfl rfl) ?_
   refine WP.mv rfl rfl ?_; refine WP.nil ?_; refine WP.sub [(0, _), (2, _)] ?_ ⟨rfl, rfl, trivial⟩
   refine WP.next (WP.ret ?_)
   refine WP.fn .ret (.inr rfl) (res1 rfl rfl) [] (Imm.le_refl _) ?_; exact ⟨congrArg Value.bool (decide_eq_true ⟨by omega, by omega⟩).symm, rfl, rfl⟩
  ·refine WP.vl rfl (Yld.pickT rfl rfl rfl) ?_
   refine WP.mv rfl rfl ?_; refine WP.nil ?_; refine WP.sub [(0, _), (2, _)] ?_ ⟨rfl, rfl, trivial⟩
   refine WP.next (WP.ret ?_)
   refine WP.fn .ret (.inr rfl) (res1 rfl rfl) [] (Imm.le_refl _) ?_; exact ⟨congrArg Value.bool (decide_eq_false (fun h => by unfold pageOk at h; omega)).symm, rfl, rfl⟩
 ·refine WP.mv rfl rfl ?_
  iterate 2 refine WP.passG rfl rfl rfl rfl rfl rfl rfl rfl ?_
  refine WP.vl rfl (Yld.pickF rfl rfl rfl) ?_; refine WP.mv rfl rfl ?_; refine WP.nil ?_; refine WP.sub [(0, _), (2, _)] ?_ ⟨rfl, rfl, trivial⟩
  refine WP.next (WP.ret ?_)
  refine WP.fn .ret (.inr rfl) (res1 rfl rfl) [] (Imm.le_refl _) ?_; exact ⟨congrArg Value.bool (decide_eq_false (fun h => by unfold pageOk at h; omega)).symm, rfl, rfl⟩

theorem txn_chain {I : Imm} {vn : Value} {l : List (Bool × List UInt8)} {bsd : Bool} (hv : RNodes I vn l) (hln : l.length ≤ 140737488351232) : Spec Tryz.prog 97 [vn, .bool bsd] I [] (fun v J L => ∃ c, v = .bool c ∧ (c = true ↔ chainP l bsd) ∧ I = J ∧ L = []) := by
 obtain ⟨nv, hn, hno⟩ := hv.ex
 obtain ⟨An, cn, rfl, hcn⟩ := hn.slice'
 refine Spec.of Tryz.func97 rfl Tryz.ntmps97 (Nat.le_of_ble_eq_true rfl) (fun F => ?_)
 try simp only [nf]
 dsimp only [argsEnv]
 refine WP.seq ?_; refine WP.region [0] rfl ?_; refine WP.mv rfl rfl ?_; refine WP.nil (WP.next (WP.seq (WP.seq ?_)))
 refine WP.region [0, 1, 2, 3, 4, 5, 6, 7] rfl ?_; refine WP.mv rfl rfl ?_; refine WP.vl rfl (Yld.len rfl ty_sl_45 rfl) ?_; refine WP.split rfl rfl rfl rfl (Yld.lss rfl rfl rfl) (fun h1 => ?_) (fun h1 => ?_)
 ·refine WP.mv rfl rfl ?_
  iterate 3 refine WP.passG rfl rfl rfl rfl rfl rfl rfl rfl ?_
  refine WP.vl rfl (Yld.pickT rfl rfl rfl) ?_; refine WP.nil ?_; refine WP.sub [(0, _), (1, _), (4, _), (14, _)] ?_ ⟨rfl, rfl, rfl, rfl, trivial⟩
  refine WP.next ?_; refine WP.condT rfl ?_; refine WP.seq ?_; refine WP.region [0] rfl ?_; refine WP.mv rfl rfl ?_; refine WP.nil (WP.next (WP.ret ?_))
  refine WP.fn .ret (.inr rfl) (res1 rfl rfl) [] (Imm.le_refl _) ?_; exact ⟨false, rfl, ⟨fun h => (by cases h), fun h => by have h1 := h.1; have h2 := h.2.1; omega⟩, rfl, rfl⟩
 ·refine WP.mv rfl rfl ?_
  refine WP.valG rfl rfl rfl rfl rfl rfl rfl (Yld.move rfl rfl) ?_; refine WP.valG rfl rfl rfl rfl rfl rfl rfl (Yld.len rfl ty_sl_45 rfl) ?_; refine WP.splitG rfl rfl rfl rfl rfl rfl rfl (Yld.gtr rfl rfl rfl) (fun h2 => ?_) (fun h2 => ?_)
  ·refine WP.vl rfl (Yld.pickF rfl rfl rfl) ?_
   refine WP.nil ?_; refine WP.sub [(0, _), (1, _), (4, _), (14, _)] ?_ ⟨rfl, rfl, rfl, rfl, trivial⟩
   refine WP.next ?_; refine WP.condT rfl ?_; refine WP.seq ?_; refine WP.region [0] rfl ?_; refine WP.mv rfl rfl ?_; refine WP.nil (WP.next (WP.ret ?_))
   refine WP.fn .ret (.inr rfl) (res1 rfl rfl) [] (Imm.le_refl _) ?_; exact ⟨false, rfl, ⟨fun h => (by cases h), fun h => by have h1 := h.1; have h2 := h.2.1; omega⟩, rfl, rfl⟩
  ·refine WP.vl rfl (Yld.pickF rfl rfl rfl) ?_
   refine WP.nil ?_; refine WP.sub [(0, _), (1, _), (4, _), (14, _)] ?_ ⟨rfl, rfl, rfl, rfl, trivial⟩
   refine WP.next ?_; refine WP.condF rfl ?_; refine WP.skip (WP.next (WP.seq (WP.seq ?_)))
   refine WP.region [0, 1, 2] rfl ?_; refine WP.mv rfl rfl ?_; refine WP.vl rfl (Yld.len rfl ty_sl_45 rfl) ?_; refine WP.mv rfl rfl ?_; refine WP.nil (WP.next (WP.block ?_))
   refine WP.loop (X := Nat) (fun i : Nat => [(0, .slice An l.length cn), (1, .bool bsd), (15, .slice An l.length cn), (16, .int .i64 (l.length : Int)), (17, .int .i64 (i : Int))]) (fun _ => I) (fun _ : Nat => F) (fun i : Nat => i ≤ l.length ∧ ∀ k (h : k < l.length), k < i → l[k].1 = (bsd && decide (k + 1 = l.length))) (fun i => l.length - i) 0 ⟨Nat.zero_le _, fun k h hk => absurd hk (Nat.not_lt_zero _)⟩ ⟨rfl, rfl, rfl, rfl, rfl, trivial⟩ rfl zP ?_; rintro i ⟨hle, hall⟩
   try dsimp only
   try simp only [nf]
   refine WP.seq ?_; refine WP.region [0] rfl ?_; refine WP.split rfl rfl rfl rfl (Yld.lss rfl rfl rfl) (fun hlt => ?_) (fun hlt => ?_)
   ·have hni : i < l.length := by omega
    have hin : i < nv.length := by rw [hno.len]; exact hni
    obtain ⟨d, hd1, hd2⟩ := hno.at_ i _ (List.getElem?_eq_getElem hin)
    obtain ⟨Ad, cd, hvd, hcd, _⟩ := id hd2
    obtain ⟨bn, kn, Tn, frn, arn, rfl, hbn, hseg, _⟩ := hn.elem hni
    have hf := flat_seg ndV_len hin []
    rw [List.append_nil, Nat.zero_add] at hf
    rw [hf] at hseg
    have hl1 : l[i].1 = nv[i].1 := by rw [List.getElem?_eq_getElem hni] at hd1; injection hd1 with hd1; rw [hd1]
    have hl2 : l[i].2 = d := by rw [List.getElem?_eq_getElem hni] at hd1; injection hd1 with hd1; rw [hd1]
    refine WP.nil (WP.next (WP.seq ?_))
    refine WP.condT rfl ?_; refine WP.skip (WP.next (WP.seq (WP.block (WP.seq ?_))))
    refine WP.region [0, 1, 2, 3, 4, 5] rfl ?_; refine WP.mv rfl rfl ?_; refine WP.vl rfl (Yld.indexAddr (i := i) rfl ty_sl_45 rfl rfl hni) ?_; refine WP.vl rfl (Yld.loadAggC rfl ty_ag_70 rfl (There.i hbn) hseg rfl) ?_; refine WP.loud rfl rfl ?_; refine Op.alloc rfl rfl rfl ty_zr_70 (fun b6 => ?_)
    refine WP.mv rfl rfl ?_; refine WP.loud rfl rfl ?_; refine Op.sA rfl rfl ty_sz_70 rfl rfl rfl (by simp only [ndV, hvd]; rfl) rfl ?_; refine WP.nil ?_; refine WP.sub [(0, _), (1, _), (5, _), (6, _), (15, _), (16, _), (17, _), (18, _)] ?_ ⟨rfl, rfl, rfl, rfl, rfl, rfl, rfl, rfl, trivial⟩
    refine WP.next (WP.seq ?_)
    refine WP.region [0, 1, 2, 3, 4, 5, 6, 7, 8, 9, 10] rfl ?_; refine WP.vl rfl (Yld.fieldAddr rfl ty_fd_70_0 rfl) ?_; refine WP.splitB rfl rfl rfl rfl (Yld.ld rfl ty_sc_4 rfl rfl) (fun hb => ?_) (fun hb => ?_)
    ·refine WP.mv rfl rfl ?_
     refine WP.mv rfl rfl ?_; by_cases hbs : bsd = true
     ·try rw [hbs]
      iterate 2 refine WP.valG rfl rfl rfl rfl rfl rfl rfl (Yld.move rfl rfl) ?_
      refine WP.valG rfl rfl rfl rfl rfl rfl rfl (Yld.len rfl ty_sl_45 rfl) ?_; refine WP.valG rfl rfl rfl rfl rfl rfl rfl (Yld.sub64 rfl rfl rfl (by omega)) ?_; refine WP.splitG rfl rfl rfl rfl rfl rfl rfl (Yld.eql rfl rfl rfl) (fun hq => ?_) (fun hq => ?_)
      ·refine WP.vl rfl (Yld.pickT rfl rfl rfl) ?_
       refine WP.vl rfl (Yld.neqBool rfl zK rfl rfl false (by simp)) ?_; refine WP.nil ?_; refine WP.sub [(0, _), (1, _), (5, _), (6, _), (15, _), (16, _), (17, _), (18, _), (32, _)] ?_ ⟨rfl, rfl, rfl, rfl, rfl, rfl, rfl, rfl, rfl, trivial⟩
       refine WP.next ?_; refine WP.condF rfl ?_; refine WP.skip (WP.leave (WP.next ?_))
       refine WP.region [0, 1] rfl ?_; refine WP.vl rfl (Yld.add64 rfl rfl rfl (by omega)) ?_; refine WP.mv rfl rfl ?_; refine WP.nil ?_; refine WP.sub [(0, _), (1, _), (5, _), (6, _), (15, _), (16, _), (17, _), (18, _), (32, _)] ?_ ⟨rfl, rfl, rfl, rfl, rfl, rfl, rfl, rfl, rfl, trivial⟩
       exact WP.ag (i + 1) ⟨hni, fun k h hk => by
    rcases Nat.lt_succ_iff_lt_or_eq.1 hk with hk | hk
    ·have h3 := hall k h hk; rw [hbs] at h3; exact h3
    ·subst hk; rw [hl1, hb]; first | rfl | (rw [decide_eq_true (by omega)]; rfl) | (rw [decide_eq_false (by omega)]; rfl)⟩ (show l.length - (i + 1) < l.length - i by omega) ⟨rfl, rfl, rfl, rfl, rfl, trivial⟩ rfl
      ·refine WP.vl rfl (Yld.pickT rfl rfl rfl) ?_
       refine WP.vl rfl (Yld.neqBool rfl zK rfl rfl true (by simp)) ?_; refine WP.nil ?_; refine WP.sub [(0, _), (1, _), (5, _), (6, _), (15, _), (16, _), (17, _), (18, _), (32, _)] ?_ ⟨rfl, rfl, rfl, rfl, rfl, rfl, rfl, rfl, rfl, trivial⟩
       refine WP.next ?_; refine WP.condT rfl ?_; refine WP.seq ?_; refine WP.region [0] rfl ?_; refine WP.mv rfl rfl ?_; refine WP.nil (WP.next (WP.ret ?_))
       refine WP.fn .ret (.inr rfl) (res1 rfl rfl) [] (Imm.le_refl _) ?_; exact ⟨false, rfl, ⟨fun h => (by cases h), fun h => by
    have h3 := h.2.2 i hni; rw [hl1, hb] at h3
    first | (rw [show decide (i + 1 = l.length) = true from decide_eq_true (by omega)] at h3; cases h3) | (rw [show decide (i + 1 = l.length) = false from decide_eq_false (by omega)] at h3; cases h3) | (simp at h3)⟩, rfl, rfl⟩
     ·have hbs : bsd = false := eq_false_of_ne_true hbs
      try rw [hbs]
      iterate 5 refine WP.passG rfl rfl rfl rfl rfl rfl rfl rfl ?_
      refine WP.vl rfl (Yld.pickF rfl rfl rfl) ?_; refine WP.vl rfl (Yld.neqBool rfl zK rfl rfl true (by simp)) ?_; refine WP.nil ?_; refine WP.sub [(0, _), (1, _), (5, _), (6, _), (15, _), (16, _), (17, _), (18, _), (32, _)] ?_ ⟨rfl, rfl, rfl, rfl, rfl, rfl, rfl, rfl, rfl, trivial⟩
      refine WP.next ?_; refine WP.condT rfl ?_; refine WP.seq ?_; refine WP.region [0] rfl ?_; refine WP.mv rfl rfl ?_; refine WP.nil (WP.next (WP.ret ?_))
      refine WP.fn .ret (.inr rfl) (res1 rfl rfl) [] (Imm.le_refl _) ?_; exact ⟨false, rfl, ⟨fun h => (by cases h), fun h => by
    have h3 := h.2.2 i hni; rw [hl1, hb] at h3
    first | (rw [show decide (i + 1 = l.length) = true from decide_eq_true (by omega)] at h3; cases h3) | (rw [show decide (i + 1 = l.length) = false from decide_eq_false (by omega)] at h3; cases h3) | (simp at h3)⟩, rfl, rfl⟩
    ·refine WP.mv rfl rfl ?_
     refine WP.mv rfl rfl ?_; by_cases hbs : bsd = true
     ·try rw [hbs]
      iterate 2 refine WP.valG rfl rfl rfl rfl rfl rfl rfl (Yld.move rfl rfl) ?_
      refine WP.valG rfl rfl rfl rfl rfl rfl rfl (Yld.len rfl ty_sl_45 rfl) ?_; refine WP.valG rfl rfl rfl rfl rfl rfl rfl (Yld.sub64 rfl rfl rfl (by omega)) ?_; refine WP.splitG rfl rfl rfl rfl rfl rfl rfl (Yld.eql rfl rfl rfl) (fun hq => ?_) (fun hq => ?_)
      ·refine WP.vl rfl (Yld.pickT rfl rfl rfl) ?_
       refine WP.vl rfl (Yld.neqBool rfl zK rfl rfl true (by simp)) ?_; refine WP.nil ?_; refine WP.sub [(0, _), (1, _), (5, _), (6, _), (15, _), (16, _), (17, _), (18, _), (32, _)] ?_ ⟨rfl, rfl, rfl, rfl, rfl, rfl, rfl, rfl, rfl, trivial⟩
       refine WP.next ?_; refine WP.condT rfl ?_; refine WP.seq ?_; refine WP.region [0] rfl ?_; refine WP.mv rfl rfl ?_; refine WP.nil (WP.next (WP.ret ?_))
       refine WP.fn .ret (.inr rfl) (res1 rfl rfl) [] (Imm.le_refl _) ?_; exact ⟨false, rfl, ⟨fun h => (by cases h), fun h => by
    have h3 := h.2.2 i hni; rw [hl1, hb] at h3
    first | (rw [show decide (i + 1 = l.length) = true from decide_eq_true (by omega)] at h3; cases h3) | (rw [show decide (i + 1 = l.length) = false from decide_eq_false (by omega)] at h3; cases h3) | (simp at h3)⟩, rfl, rfl⟩
      ·refine WP.vl rfl (Yld.pickT rfl rfl rfl) ?_
       refine WP.vl rfl (Yld.neqBool rfl zK rfl rfl false (by simp)) ?_; refine WP.nil ?_; refine WP.sub [(0, _), (1, _), (5, _), (6, _), (15, _), (16, _), (17, _), (18, _), (32, _)] ?_ ⟨rfl, rfl, rfl, rfl, rfl, rfl, rfl, rfl, rfl, trivial⟩
       refine WP.next ?_; refine WP.condF rfl ?_; refine WP.skip (WP.leave (WP.next ?_))
       refine WP.region [0, 1] rfl ?_; refine WP.vl rfl (Yld.add64 rfl rfl rfl (by omega)) ?_; refine WP.mv rfl rfl ?_; refine WP.nil ?_; refine WP.sub [(0, _), (1, _), (5, _), (6, _), (15, _), (16, _), (17, _), (18, _), (32, _)] ?_ ⟨rfl, rfl, rfl, rfl, rfl, rfl, rfl, rfl, rfl, trivial⟩
       exact WP.ag (i + 1) ⟨hni, fun k h hk => by
    rcases Nat.lt_succ_iff_lt_or_eq.1 hk with hk | hk
    ·have h3 := hall k h hk; rw [hbs] at h3; exact h3
    ·subst hk; rw [hl1, hb]; first | rfl | (rw [decide_eq_true (by omega)]; rfl) | (rw [decide_eq_false (by omega)]; rfl)⟩ (show l.length - (i + 1) < l.length - i by omega) ⟨rfl, rfl, rfl, rfl, rfl, trivial⟩ rfl
     ·have hbs : bsd = false := eq_false_of_ne_true hbs
      try rw [hbs]
      iterate 5 refine WP.passG rfl rfl rfl rfl rfl rfl rfl rfl ?_
      refine WP.vl rfl (Yld.pickF rfl rfl rfl) ?_; refine WP.vl rfl (Yld.neqBool rfl zK rfl rfl false (by simp)) ?_; refine WP.nil ?_; refine WP.sub [(0, _), (1, _), (5, _), (6, _), (15, _), (16, _), (17, _), (18, _), (32, _)] ?_ ⟨rfl, rfl, rfl, rfl, rfl, rfl, rfl, rfl, rfl, trivial⟩
      refine WP.next ?_; refine WP.condF rfl ?_; refine WP.skip (WP.leave (WP.next ?_))
      refine WP.region [0, 1] rfl ?_; refine WP.vl rfl (Yld.add64 rfl rfl rfl (by omega)) ?_; refine WP.mv rfl rfl ?_; refine WP.nil ?_; refine WP.sub [(0, _), (1, _), (5, _), (6, _), (15, _), (16, _), (17, _), (18, _), (32, _)] ?_ ⟨rfl, rfl, rfl, rfl, rfl, rfl, rfl, rfl, rfl, trivial⟩
      exact WP.ag (i + 1) ⟨hni, fun k h hk => by
    rcases Nat.lt_succ_iff_lt_or_eq.1 hk with hk | hk
    ·have h3 := hall k h hk; rw [hbs] at h3; exact h3
    ·subst hk; rw [hl1, hb]; first | rfl | (rw [decide_eq_true (by omega)]; rfl) | (rw [decide_eq_false (by omega)]; rfl)⟩ (show l.length - (i + 1) < l.length - i by omega) ⟨rfl, rfl, rfl, rfl, rfl, trivial⟩ rfl
   ·refine WP.nil ?_
    refine WP.next (WP.seq ?_)
    refine WP.condF rfl ?_; refine WP.exit (WP.thenE (WP.thenE (WP.hit (WP.next (WP.seq ?_)))))
    refine WP.region [0] rfl ?_; refine WP.mv rfl rfl ?_; refine WP.nil (WP.next (WP.ret ?_))
    refine WP.fn .ret (.inr rfl) (res1 rfl rfl) [] (Imm.le_refl _) ?_; exact ⟨true, rfl, ⟨fun _ => ⟨by omega, by omega, fun k hk => hall k hk (by omega)⟩, fun _ => rfl⟩, rfl, rfl⟩


theorem flat3_take (f : (Pr × Value) → List Value) (hf : ∀ x, (f x).length = 3) : ∀ (l : List (Pr × Value)) (k : Nat), (l.flatMap f).take (k * 3) = (l.take k).flatMap f
 | [], k => by simp
 | x :: l, 0 => by simp
 | x :: l, k + 1 => by
  rw [List.flatMap_cons, List.take_succ_cons, List.flatMap_cons, List.take_append, hf, List.take_of_length_le (by rw [hf]; omega), show (k + 1) * 3 - 3 = k * 3 by omega, flat3_take f hf l k]
theorem flat3_drop (f : (Pr × Value) → List Value) (hf : ∀ x, (f x).length = 3) : ∀ (l : List (Pr × Value)) (k : Nat), (l.flatMap f).drop (k * 3) = (l.drop k).flatMap f
 | [], k => by simp
 | x :: l, 0 => by simp
 | x :: l, k + 1 => by
  rw [List.flatMap_cons, List.drop_succ_cons, List.drop_append, hf, List.drop_of_length_le (by rw [hf]; omega), show (k + 1) * 3 - 3 = k * 3 by omega, List.nil_append, flat3_drop f hf l k]
theorem RPrs.sub {J : Imm} {v : Value} {l : List (Pr × Value)} (h : RPrs J v l) {a b : Nat} (h1 : a ≤ b) (h2 : b ≤ l.length) : RPrs J (subSl 3 a b v) ((l.drop a).take (b - a)) := by
 have q := h.rd.sub h1 h2
 rw [flat3_drop _ (fun _ => rfl), flat3_take _ (fun _ => rfl)] at q
 refine ⟨?_, fun x hx => h.el x (List.mem_of_mem_drop (List.mem_of_mem_take hx))⟩
 rw [show ((l.drop a).take (b - a)).length = b - a by rw [List.length_take, List.length_drop]; omega]
 exact q
theorem txn_may {I : Imm} {r : Pr} {vn : Value} (hr : RNodes I vn r.nodes) (hln : r.nodes.length ≤ 140737488351232) : Spec Tryz.prog 83 [.agg ([.int .i64 r.page, .int .i64 r.prev, vn]).toArray] I [] (fun v J L => ∃ c : Bool, v = .bool c ∧ (c = true ↔ r.may) ∧ I = J ∧ L = []) := by
 obtain ⟨nv, hn, hno⟩ := id hr.ex
 obtain ⟨An, cn, rfl, hcn⟩ := hn.slice'
 refine Spec.of Tryz.func83 rfl Tryz.ntmps83 (Nat.le_of_ble_eq_true rfl) (fun F => ?_)
 try simp only [nf]
 dsimp only [argsEnv]
 refine WP.seq ?_; refine WP.region [0, 1] rfl ?_; refine WP.loud rfl rfl ?_; refine Op.box rfl rfl rfl rfl rfl (fun b1 => ?_)
 refine WP.mv rfl rfl ?_; refine WP.nil (WP.next (WP.seq ?_))
 refine WP.region [0, 1, 2, 3, 4, 5, 6, 7, 8, 9, 10, 11, 12, 13, 14, 15, 16, 17, 18, 19, 20, 21] rfl ?_; refine WP.vl rfl (Yld.fieldAddr rfl ty_fd_104_0 rfl) ?_; refine WP.vl rfl (Yld.ld rfl ty_sc_3 rfl rfl) ?_; refine WP.loud rfl rfl ?_; refine Op.cl (txn_isPage (p := r.page)) rfl Tryz.func96 rfl rfl rfl rfl ?_; rintro v J L1 - ⟨rfl, rfl, rfl⟩
 try simp only [nf]
 by_cases hp : (decide (pageOk r.page)) = true
 ·try rw [hp]
  refine WP.mv rfl rfl ?_; refine WP.valG rfl rfl rfl rfl rfl rfl rfl (Yld.fieldAddr rfl ty_fd_104_1 rfl) ?_; refine WP.valG rfl rfl rfl rfl rfl rfl rfl (Yld.ld rfl ty_sc_3 rfl rfl) ?_; refine WP.splitG rfl rfl rfl rfl rfl rfl rfl (Yld.geq rfl rfl rfl) (fun h2 => ?_) (fun h2 => ?_)
  ·refine WP.vl rfl (Yld.pickT rfl rfl rfl) ?_
   refine WP.mv rfl rfl ?_; refine WP.valG rfl rfl rfl rfl rfl rfl rfl (Yld.fieldAddr rfl ty_fd_104_1 rfl) ?_; refine WP.valG rfl rfl rfl rfl rfl rfl rfl (Yld.ld rfl ty_sc_3 rfl rfl) ?_; refine WP.splitG rfl rfl rfl rfl rfl rfl rfl (Yld.leq rfl rfl rfl) (fun h3 => ?_) (fun h3 => ?_)
   ·refine WP.vl rfl (Yld.pickT rfl rfl rfl) ?_
    refine WP.mv rfl rfl ?_; refine WP.valG rfl rfl rfl rfl rfl rfl rfl (Yld.fieldAddr rfl ty_fd_104_2 rfl) ?_; refine WP.valG rfl rfl rfl rfl rfl rfl rfl (Yld.ld rfl ty_sc_45 rfl rfl) ?_; refine WP.valG rfl rfl rfl rfl rfl rfl rfl (Yld.fieldAddr rfl ty_fd_104_1 rfl) ?_; refine WP.valG rfl rfl rfl rfl rfl rfl rfl (Yld.ld rfl ty_sc_3 rfl rfl) ?_; refine WP.valG rfl rfl rfl rfl rfl rfl rfl (Yld.eql rfl rfl rfl _ rfl) ?_; refine WP.loudG rfl rfl rfl rfl rfl ?_; refine Op.cl (txn_chain hr hln (bsd := decide (r.prev = 0))) rfl Tryz.func97 rfl rfl rfl rfl ?_; rintro v J L1 - ⟨c, rfl, hc, rfl, rfl⟩
    try simp only [nf]
    refine WP.vl rfl (Yld.pickT rfl rfl rfl) ?_; refine WP.mv rfl rfl ?_; refine WP.nil ?_; refine WP.sub [(0, _), (1, _), (2, _)] ?_ ⟨rfl, rfl, rfl, trivial⟩
    refine WP.next (WP.ret ?_)
    refine WP.fn .ret (.inr rfl) (res1 rfl rfl) [] (Imm.le_refl _) ?_; exact ⟨c, rfl, hc.trans ⟨fun h => ⟨of_decide_eq_true hp, by omega, by omega, h⟩, fun h => h.2.2.2⟩, rfl, rfl⟩
   ·refine WP.vl rfl (Yld.pickT rfl rfl rfl) ?_
    refine WP.mv rfl rfl ?_; iterate 6 refine WP.passG rfl rfl rfl rfl rfl rfl rfl rfl ?_
    refine WP.vl rfl (Yld.pickF rfl rfl rfl) ?_; refine WP.mv rfl rfl ?_; refine WP.nil ?_; refine WP.sub [(0, _), (1, _), (2, _)] ?_ ⟨rfl, rfl, rfl, trivial⟩
    refine WP.next (WP.ret ?_)
    refine WP.fn .ret (.inr rfl) (res1 rfl rfl) [] (Imm.le_refl _) ?_; exact ⟨false, rfl, ⟨fun h => (by cases h), fun h => by have q1 := h.1; have q2 := h.2.1; have q3 := h.2.2.1; first | (exact absurd q1 (of_decide_eq_false hp)) | omega⟩, rfl, rfl⟩
  ·refine WP.vl rfl (Yld.pickT rfl rfl rfl) ?_
   refine WP.mv rfl rfl ?_; iterate 3 refine WP.passG rfl rfl rfl rfl rfl rfl rfl rfl ?_
   refine WP.vl rfl (Yld.pickF rfl rfl rfl) ?_; refine WP.mv rfl rfl ?_; iterate 6 refine WP.passG rfl rfl rfl rfl rfl rfl rfl rfl ?_
   refine WP.vl rfl (Yld.pickF rfl rfl rfl) ?_; refine WP.mv rfl rfl ?_; refine WP.nil ?_; refine WP.sub [(0, _), (1, _), (2, _)] ?_ ⟨rfl, rfl, rfl, trivial⟩
   refine WP.next (WP.ret ?_)
   refine WP.fn .ret (.inr rfl) (res1 rfl rfl) [] (Imm.le_refl _) ?_; exact ⟨false, rfl, ⟨fun h => (by cases h), fun h => by have q1 := h.1; have q2 := h.2.1; have q3 := h.2.2.1; first | (exact absurd q1 (of_decide_eq_false hp)) | omega⟩, rfl, rfl⟩
 ·have hp : (decide (pageOk r.page)) = false := eq_false_of_ne_true hp
  try rw [hp]
  refine WP.mv rfl rfl ?_; iterate 3 refine WP.passG rfl rfl rfl rfl rfl rfl rfl rfl ?_
  refine WP.vl rfl (Yld.pickF rfl rfl rfl) ?_; refine WP.mv rfl rfl ?_; iterate 3 refine WP.passG rfl rfl rfl rfl rfl rfl rfl rfl ?_
  refine WP.vl rfl (Yld.pickF rfl rfl rfl) ?_; refine WP.mv rfl rfl ?_; iterate 6 refine WP.passG rfl rfl rfl rfl rfl rfl rfl rfl ?_
  refine WP.vl rfl (Yld.pickF rfl rfl rfl) ?_; refine WP.mv rfl rfl ?_; refine WP.nil ?_; refine WP.sub [(0, _), (1, _), (2, _)] ?_ ⟨rfl, rfl, rfl, trivial⟩
  refine WP.next (WP.ret ?_)
  refine WP.fn .ret (.inr rfl) (res1 rfl rfl) [] (Imm.le_refl _) ?_; exact ⟨false, rfl, ⟨fun h => (by cases h), fun h => by have q1 := h.1; have q2 := h.2.1; have q3 := h.2.2.1; first | (exact absurd q1 (of_decide_eq_false hp)) | omega⟩, rfl, rfl⟩

theorem txn_layNodes {I : Imm} {q : Nat} {bs : List UInt8} {L : Chunks} (hq : IsWr q bs L) {vn : Value} {l : List (Bool × List UInt8)} (hv : RNodes I vn l) (hln : l.length ≤ 140737488351232) (hb : bs.length + ((numB l.length).length + (l.flatMap nodeB).length) ≤ 140737488355328) : Spec Tryz.prog 86 [.pointer (some ⟨q, 0, none⟩), vn] I L (fun r J L' => r = .tuple #[] ∧ I = J ∧ IsWr q (bs ++ nodesB l) L') := by
 obtain ⟨nv, hn, hno⟩ := hv.ex
 obtain ⟨An, cn, rfl, hcn⟩ := hn.slice'
 refine Spec.of Tryz.func86 rfl Tryz.ntmps86 (Nat.le_of_ble_eq_true rfl) (fun F => ?_)
 try simp only [nf]
 dsimp only [argsEnv]
 refine WP.seq ?_; refine WP.region [0, 1, 2, 3, 4] rfl ?_; iterate 2 refine WP.mv rfl rfl ?_
 refine WP.vl rfl (Yld.len rfl ty_sl_45 rfl) ?_; refine WP.vl rfl (Yld.conv64u l.length rfl ty_un_3 ty_ik_44 rfl (by omega)) ?_; refine WP.loud rfl rfl ?_; refine Op.cl (code_NumW hq (by omega) (by omega)) rfl Tryz.func85 rfl rfl rfl rfl ?_; rintro v J L1 - ⟨rfl, rfl, hq⟩
 try simp only [nf]
 refine WP.nil ?_; refine WP.sub [(0, _), (1, _)] ?_ ⟨rfl, rfl, trivial⟩
 refine WP.next (WP.seq ?_)
 refine WP.region [0, 1, 2] rfl ?_; refine WP.mv rfl rfl ?_; refine WP.vl rfl (Yld.len rfl ty_sl_45 rfl) ?_; refine WP.mv rfl rfl ?_; refine WP.nil (WP.next (WP.block ?_))
 refine WP.loop (X := Nat × Chunks) (fun t : Nat × Chunks => [(0, .pointer (some ⟨q, 0, none⟩)), (12, .slice An l.length cn), (13, .int .i64 (l.length : Int)), (14, .int .i64 (t.1 : Int))]) (fun _ => I) (fun t : Nat × Chunks => t.2 ++ F) (fun t : Nat × Chunks => t.1 ≤ l.length ∧ IsWr q (bs ++ (numB l.length ++ (l.take t.1).flatMap nodeB)) t.2) (fun t => l.length - t.1) (0, L1) ⟨Nat.zero_le _, (by simpa using hq)⟩ ⟨rfl, rfl, rfl, rfl, trivial⟩ rfl zP ?_; rintro ⟨i, Lx⟩ ⟨hle, hq⟩; dsimp only at hle hq
 try dsimp only
 try simp only [nf]
 refine WP.seq ?_; refine WP.region [0] rfl ?_; refine WP.split rfl rfl rfl rfl (Yld.lss rfl rfl rfl) (fun hlt => ?_) (fun hlt => ?_)
 ·have hni : i < l.length := by omega
  have hin : i < nv.length := by rw [hno.len]; exact hni
  obtain ⟨d, hd1, hd2⟩ := hno.at_ i _ (List.getElem?_eq_getElem hin)
  obtain ⟨Ad, cd, hvd, hcd, _⟩ := id hd2
  obtain ⟨bn, kn, Tn, frn, arn, rfl, hbn, hseg, _⟩ := hn.elem hni
  have hf := flat_seg ndV_len hin []
  rw [List.append_nil, Nat.zero_add] at hf
  rw [hf] at hseg
  have hl1 : l[i].1 = nv[i].1 := by rw [List.getElem?_eq_getElem hni] at hd1; injection hd1 with hd1; rw [hd1]
  have hl2 : l[i].2 = d := by rw [List.getElem?_eq_getElem hni] at hd1; injection hd1 with hd1; rw [hd1]
  have hpre := flat_pre nodeB hni
  have hnb : (nodeB l[i]).length = (numB (if nv[i].1 then 1 else 0)).length + ((numB d.length).length + d.length) := by unfold nodeB; rw [hl1, hl2, List.length_append, List.length_append]
  refine WP.nil (WP.next (WP.seq ?_))
  refine WP.condT rfl ?_; refine WP.skip (WP.next (WP.seq (WP.block (WP.seq ?_))))
  refine WP.region [0, 1, 2, 3] rfl ?_; refine WP.vl rfl (Yld.indexAddr (i := i) rfl ty_sl_45 rfl rfl hni) ?_; refine WP.vl rfl (Yld.loadAggC rfl ty_ag_70 rfl (There.i hbn) hseg rfl) ?_; refine WP.loud rfl rfl ?_; refine Op.alloc rfl rfl rfl ty_zr_70 (fun b5 => ?_)
  refine WP.loud rfl rfl ?_; refine Op.sA rfl rfl ty_sz_70 rfl rfl rfl (by simp only [ndV, hvd]; rfl) rfl ?_; refine WP.nil ?_; refine WP.sub [(0, _), (5, _), (12, _), (13, _), (14, _), (15, _)] ?_ ⟨rfl, rfl, rfl, rfl, rfl, rfl, trivial⟩
  refine WP.next (WP.seq ?_)
  refine WP.region [0] rfl ?_; refine WP.mv rfl rfl ?_; refine WP.nil (WP.next (WP.seq (WP.seq ?_)))
  refine WP.region [0, 1] rfl ?_; refine WP.vl rfl (Yld.fieldAddr rfl ty_fd_70_0 rfl) ?_; refine WP.splitB rfl rfl rfl rfl (Yld.ld rfl ty_sc_4 rfl rfl) (fun hb => ?_) (fun hb => ?_)
  ·refine WP.nil ?_
   refine WP.sub [(0, _), (5, _), (6, _), (12, _), (13, _), (14, _), (15, _), (19, _)] ?_ ⟨rfl, rfl, rfl, rfl, rfl, rfl, rfl, rfl, trivial⟩
   refine WP.next ?_; refine WP.condT rfl ?_; refine WP.region [0] rfl ?_; refine WP.mv rfl rfl ?_; refine WP.nil (WP.next (WP.seq ?_))
   refine WP.region [0, 1, 2] rfl ?_; iterate 2 refine WP.mv rfl rfl ?_
   refine WP.loud rfl rfl ?_; refine Op.cl (code_NumW (n := 1) hq (by decide) (by rw [hb] at hnb; simp only [List.length_append] at *; simp only [if_true, Bool.false_eq_true, if_false] at hnb; omega)) rfl Tryz.func85 rfl rfl rfl rfl ?_; rintro v J L7 - ⟨rfl, rfl, hq⟩
   try simp only [nf]
   refine WP.nil ?_; refine WP.sub [(0, _), (5, _), (6, _), (12, _), (13, _), (14, _), (15, _), (19, _)] ?_ ⟨rfl, rfl, rfl, rfl, rfl, rfl, rfl, rfl, trivial⟩
   refine WP.next ?_; refine WP.region [0, 1, 2, 3] rfl ?_; refine WP.mv rfl rfl ?_; refine WP.vl rfl (Yld.fieldAddr rfl ty_fd_70_1 rfl) ?_; refine WP.vl rfl (Yld.ld (v := nv[i].2) rfl ty_sc_47 rfl rfl) ?_; refine WP.loud rfl rfl ?_; refine Op.cl (code_Bytes hq hd2 (by rw [hb] at hnb; simp only [List.length_append] at *; simp only [if_true, Bool.false_eq_true, if_false] at hnb; omega)) rfl Tryz.func99 rfl rfl rfl rfl ?_; rintro v J L8 - ⟨rfl, rfl, hq⟩
   try simp only [nf]
   refine WP.nil ?_; refine WP.sub [(0, _), (5, _), (6, _), (12, _), (13, _), (14, _), (15, _), (19, _)] ?_ ⟨rfl, rfl, rfl, rfl, rfl, rfl, rfl, rfl, trivial⟩
   refine WP.leave (WP.next ?_)
   refine WP.region [0, 1] rfl ?_; refine WP.vl rfl (Yld.add64 rfl rfl rfl (by omega)) ?_; refine WP.mv rfl rfl ?_; refine WP.nil ?_; refine WP.sub [(0, _), (5, _), (6, _), (12, _), (13, _), (14, _), (15, _), (19, _)] ?_ ⟨rfl, rfl, rfl, rfl, rfl, rfl, rfl, rfl, trivial⟩
   exact WP.ag (i + 1, L8) ⟨hni, (by rw [flat_succ nodeB hni]; have e : nodeB l[i] = numB (if nv[i].1 then 1 else 0) ++ (numB d.length ++ d) := (by unfold nodeB; rw [hl1, hl2]); rw [e, hb]; simpa using hq)⟩ (show l.length - (i + 1) < l.length - i by omega) ⟨rfl, rfl, rfl, rfl, trivial⟩ rfl
  ·refine WP.nil ?_
   refine WP.sub [(0, _), (5, _), (6, _), (12, _), (13, _), (14, _), (15, _), (19, _)] ?_ ⟨rfl, rfl, rfl, rfl, rfl, rfl, rfl, rfl, trivial⟩
   refine WP.next ?_; refine WP.condF rfl ?_; refine WP.skip (WP.next (WP.seq ?_))
   refine WP.region [0, 1, 2] rfl ?_; iterate 2 refine WP.mv rfl rfl ?_
   refine WP.loud rfl rfl ?_; refine Op.cl (code_NumW (n := 0) hq (by decide) (by rw [hb] at hnb; simp only [List.length_append] at *; simp only [if_true, Bool.false_eq_true, if_false] at hnb; omega)) rfl Tryz.func85 rfl rfl rfl rfl ?_; rintro v J L7 - ⟨rfl, rfl, hq⟩
   try simp only [nf]
   refine WP.nil ?_; refine WP.sub [(0, _), (5, _), (6, _), (12, _), (13, _), (14, _), (15, _), (19, _)] ?_ ⟨rfl, rfl, rfl, rfl, rfl, rfl, rfl, rfl, trivial⟩
   refine WP.next ?_; refine WP.region [0, 1, 2, 3] rfl ?_; refine WP.mv rfl rfl ?_; refine WP.vl rfl (Yld.fieldAddr rfl ty_fd_70_1 rfl) ?_; refine WP.vl rfl (Yld.ld (v := nv[i].2) rfl ty_sc_47 rfl rfl) ?_; refine WP.loud rfl rfl ?_; refine Op.cl (code_Bytes hq hd2 (by rw [hb] at hnb; simp only [List.length_append] at *; simp only [if_true, Bool.false_eq_true, if_false] at hnb; omega)) rfl Tryz.func99 rfl rfl rfl rfl ?_; rintro v J L8 - ⟨rfl, rfl, hq⟩
   try simp only [nf]
   refine WP.nil ?_; refine WP.sub [(0, _), (5, _), (6, _), (12, _), (13, _), (14, _), (15, _), (19, _)] ?_ ⟨rfl, rfl, rfl, rfl, rfl, rfl, rfl, rfl, trivial⟩
   refine WP.leave (WP.next ?_)
   refine WP.region [0, 1] rfl ?_; refine WP.vl rfl (Yld.add64 rfl rfl rfl (by omega)) ?_; refine WP.mv rfl rfl ?_; refine WP.nil ?_; refine WP.sub [(0, _), (5, _), (6, _), (12, _), (13, _), (14, _), (15, _), (19, _)] ?_ ⟨rfl, rfl, rfl, rfl, rfl, rfl, rfl, rfl, trivial⟩
   exact WP.ag (i + 1, L8) ⟨hni, (by rw [flat_succ nodeB hni]; have e : nodeB l[i] = numB (if nv[i].1 then 1 else 0) ++ (numB d.length ++ d) := (by unfold nodeB; rw [hl1, hl2]); rw [e, hb]; simpa using hq)⟩ (show l.length - (i + 1) < l.length - i by omega) ⟨rfl, rfl, rfl, rfl, trivial⟩ rfl
 ·refine WP.nil ?_
  refine WP.next (WP.seq ?_)
  refine WP.condF rfl ?_; refine WP.exit (WP.thenE (WP.thenE (WP.hit ?_)))
  refine WP.fn .normal (.inl rfl) (res0 rfl) Lx (Imm.le_refl _) ?_; obtain rfl : i = l.length := by omega
  rw [List.take_length] at hq
  exact ⟨rfl, rfl, hq⟩


end Go.Hp
