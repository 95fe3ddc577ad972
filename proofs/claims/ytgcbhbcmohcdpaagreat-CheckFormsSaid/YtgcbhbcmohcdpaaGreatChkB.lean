import Derived.Test.YtgcbhbcmohcdpaaGreatChkA
set_option linter.unusedVariables false
set_option linter.unusedSimpArgs false
namespace Go.Hp
open Go Go.Proofs

theorem ints_at {J : Imm} {A : Option Addr} {m c : Nat} {l : List Int} (h : SlRd (Im J) (.slice A m c) l.length 1 (l.map (Value.int .i64))) {i : Nat} (hi : i < l.length) : ∃ b k T fr arr, A = some ⟨b, k, none⟩ ∧ J.blk b = some (.cells arr T fr) ∧ arr[k + i * 1]? = some (.int .i64 l[i]) := by
 obtain ⟨b, k, c', T, fr, arr, e, hc, hb, hcd⟩ := h.get (by omega)
 refine ⟨b, k, T, fr, arr, by injection e, hb, ?_⟩
 have := take_cells hcd i (.int .i64 l[i]) (by simp [hi]) (by rw [List.length_map]; exact hi)
 rw [Array.getElem?_toList] at this
 rwa [Nat.mul_one]


def numZ (z : Int) : List UInt8 := numB z.toNat
theorem numZ_le {z : Int} (h : 0 ≤ z ∧ z ≤ 1099511627776) : (numZ z).length ≤ 10 := numB_10 (n := z.toNat) (by omega)
theorem numZs_le : ∀ {l : List Int}, (∀ z ∈ l, 0 ≤ z ∧ z ≤ 1099511627776) → (l.flatMap numZ).length ≤ l.length * 10
 | [], _ => Nat.le_refl _
 | z :: l, h => by
  have h1 := numZ_le (h z List.mem_cons_self)
  have h2 := numZs_le (l := l) fun q hq => h q (List.mem_cons_of_mem _ hq)
  rw [List.flatMap_cons, List.length_append, List.length_cons, Nat.succ_mul]; omega
theorem flatTake {α β : Type} (f : α → List β) {l : List α} {i : Nat} (h : i < l.length) : (l.take (i + 1)).flatMap f = (l.take i).flatMap f ++ f l[i] := by
 rw [List.take_succ_eq_append_getElem h, List.flatMap_append, List.flatMap_cons, List.flatMap_nil, List.append_nil]
theorem numZ_hd {c : Ck} : [c.fr, c.pl, c.root, c.nx, (c.ps.length : Int)].flatMap numZ = ckH c := by
 simp only [List.flatMap_cons, List.flatMap_nil, List.append_nil, numZ, Int.toNat_natCast]; rfl
theorem numZ_mp {p : Mp} : [p.page, p.place, p.no, p.low].flatMap numZ = mpB p := by
 simp only [List.flatMap_cons, List.flatMap_nil, List.append_nil, numZ]; rfl
def KEnc (c : Ck) (xs : List UInt8) (e : Int) : Prop := (¬ c.may ∧ xs = [] ∧ e = 170) ∨ (c.may ∧ 12671 < (ckB c).length ∧ xs = [] ∧ e = 2) ∨ (c.may ∧ (ckB c).length ≤ 12671 ∧ xs = ckB c ∧ e = 0)
theorem KEnc.uniq {c : Ck} {xs ys : List UInt8} {e f : Int} (h : KEnc c xs e) (g : KEnc c ys f) : xs = ys ∧ e = f := by
 rcases h with ⟨h1, rfl, rfl⟩ | ⟨h1, h2, rfl, rfl⟩ | ⟨h1, h2, rfl, rfl⟩ <;> rcases g with ⟨g1, rfl, rfl⟩ | ⟨g1, g2, rfl, rfl⟩ | ⟨g1, g2, rfl, rfl⟩ <;> first | exact ⟨rfl, rfl⟩ | exact absurd h1 g1 | exact absurd g1 h1 | omega
theorem KEnc.le {c : Ck} {xs : List UInt8} {e : Int} (h : KEnc c xs e) : xs.length ≤ 12671 := by
 rcases h with ⟨h1, rfl, rfl⟩ | ⟨h1, h2, rfl, rfl⟩ | ⟨h1, h2, rfl, rfl⟩ <;> first | exact Nat.zero_le _ | exact h2
def kZ : Ck := ⟨0, 0, 0, 0, []⟩
def KDec (b : List UInt8) (c : Ck) (e : Int) : Prop := (okK b ∧ e = 0 ∧ c = (rCk b).1) ∨ (¬ okK b ∧ e = 170 ∧ c = kZ)
theorem KDec.uniq {b : List UInt8} {c d : Ck} {e f : Int} (h : KDec b c e) (g : KDec b d f) : c = d ∧ e = f := by
 rcases h with ⟨h1, rfl, rfl⟩ | ⟨h1, rfl, rfl⟩ <;> rcases g with ⟨g1, rfl, rfl⟩ | ⟨g1, rfl, rfl⟩ <;> first | exact ⟨rfl, rfl⟩ | exact absurd h1 g1 | exact absurd g1 h1
theorem kEnc_dec {c d : Ck} {xs : List UInt8} {e : Int} (h : KEnc c xs 0) (g : KDec xs d e) : e = 0 ∧ d = c := by
 rcases h with ⟨_, _, h⟩ | ⟨_, _, _, h⟩ | ⟨h1, h2, rfl, _⟩
 ·cases h
 ·cases h
 ·obtain ⟨q1, q2⟩ := okK_lay h1 h2
  rcases g with ⟨g1, rfl, rfl⟩ | ⟨g1, rfl, rfl⟩
  ·exact ⟨rfl, q2⟩
  ·exact absurd q1 g1
structure EcX where
 i : Nat
 J : Imm
 L : Chunks
theorem ecB_le {c : Ck} (h : c.may) {i : Nat} (hi : i ≤ c.ps.length) : (ckH c ++ (c.ps.take i).flatMap mpB).length ≤ 20530 := by
 have h1 := ckH_le h
 have h2 := mpBs_le (l := c.ps.take i) fun p hp => Ck.el h p (List.mem_of_mem_take hp)
 have h3 := Ck.len h
 rw [List.length_append]
 rw [List.length_take] at h2
 have : min i c.ps.length * 40 ≤ 512 * 40 := Nat.mul_le_mul_right _ (by omega)
 omega
theorem chk_lay {I : Imm} {q wb : Nat} {bs : List UInt8} {L : Chunks} {zs : List Int} {vs : Value} (hq : IsWr q bs L) (hs : SlRd (Im I) vs zs.length 1 (zs.map (Value.int .i64))) (hz : ∀ z ∈ zs, 0 ≤ z ∧ z ≤ 1099511627776) (hb : bs.length + zs.length * 10 ≤ 140737488355328) : Spec Tryz.prog 16 [vs, .pointer (some ⟨wb, 0, none⟩)] I ((wb, row 58 [.pointer (some ⟨q, 0, none⟩)]) :: L) (fun v J L' => v = .tuple #[] ∧ I = J ∧ ∃ Lw, L' = (wb, row 58 [.pointer (some ⟨q, 0, none⟩)]) :: Lw ∧ IsWr q (bs ++ zs.flatMap numZ) Lw) := by
 obtain ⟨As, cs, rfl, _, _, _⟩ := id hs
 refine Spec.of Tryz.func16 rfl Tryz.ntmps16 (Nat.le_of_ble_eq_true rfl) (fun F => ?_)
 try simp only [nf]
 dsimp only [argsEnv]
 refine WP.seq ?_; refine WP.region [0, 1, 2] rfl ?_; refine WP.mv rfl rfl ?_; refine WP.vl rfl (Yld.len rfl ty_sl_60 rfl) ?_; refine WP.mv rfl rfl ?_; refine WP.nil (WP.next (WP.block ?_))
 refine WP.loop (X := Nat × Chunks) (fun u : Nat × Chunks => [(1, .pointer (some ⟨wb, 0, none⟩)), (5, .slice As zs.length cs), (6, .int .i64 (zs.length : Int)), (7, .int .i64 (u.1 : Int))]) (fun _ => I) (fun u : Nat × Chunks => (wb, row 58 [.pointer (some ⟨q, 0, none⟩)]) :: (u.2 ++ F)) (fun u : Nat × Chunks => u.1 ≤ zs.length ∧ IsWr q (bs ++ (zs.take u.1).flatMap numZ) u.2) (fun u => zs.length - u.1) (0, L) ⟨Nat.zero_le _, by simpa using hq⟩ ⟨rfl, rfl, rfl, rfl, trivial⟩ rfl zA ?_; rintro ⟨i, Lw⟩ ⟨hle, hw⟩; dsimp only at hle hw
 try dsimp only
 try simp only [nf]
 refine WP.seq ?_; refine WP.region [0] rfl ?_; refine WP.split rfl rfl rfl rfl (Yld.lss rfl rfl rfl) (fun hlt => ?_) (fun hlt => ?_)
 ·have hi : i < zs.length := by omega
  obtain ⟨bp, kp, Tp, fp, arp, ep, hbp, hcp⟩ := ints_at hs hi
  obtain ⟨hz1, hz2⟩ := hz _ (List.getElem_mem hi)
  have hbn : (bs ++ (zs.take i).flatMap numZ).length + 10 ≤ 140737488355328 := by
   have h1 := numZs_le (l := zs.take i) fun z h => hz z (List.mem_of_mem_take h)
   rw [List.length_take] at h1
   have : min i zs.length * 10 + 10 ≤ zs.length * 10 := by omega
   rw [List.length_append]; omega
  refine WP.nil (WP.next (WP.seq ?_))
  refine WP.condT rfl ?_; refine WP.skip (WP.next (WP.seq (WP.block (WP.seq ?_))))
  refine WP.region [0, 1, 2] rfl ?_; refine WP.vl rfl (Yld.indexAddr (i := i) rfl ty_sl_60 (congrArg (fun a => some (Value.slice a zs.length cs)) ep) rfl hi) ?_; refine WP.vl rfl (Yld.loadC rfl ty_sc_3 rfl (There.i hbp) hcp) ?_; refine WP.mv rfl rfl ?_; refine WP.nil ?_; refine WP.sub [(1, _), (4, _), (5, _), (6, _), (7, _), (8, _)] ?_ ⟨rfl, rfl, rfl, rfl, rfl, rfl, trivial⟩
  refine WP.next ?_; refine WP.region [0, 1, 2, 3] rfl ?_; refine WP.vl rfl (Yld.ld rfl ty_sc_58 rfl rfl) ?_; refine WP.mv rfl rfl ?_; refine WP.vl rfl (Yld.conv64u (zs[i].toNat) rfl ty_un_3 ty_ik_62 (congrArg (fun z => some (Value.int .i64 z)) (Int.toNat_of_nonneg hz1).symm) (by omega)) ?_; refine WP.loud rfl rfl ?_; refine Op.cl (code_NumW hw (n := zs[i].toNat) (by omega) (by have := numB_10 (n := zs[i].toNat) (by omega); omega)) rfl Tryz.func17 rfl rfl rfl rfl ?_; rintro v J L1 - ⟨rfl, rfl, hw1⟩
  try simp only [nf]
  refine WP.nil ?_; refine WP.sub [(1, _), (4, _), (5, _), (6, _), (7, _), (8, _)] ?_ ⟨rfl, rfl, rfl, rfl, rfl, rfl, trivial⟩
  refine WP.leave (WP.next ?_)
  refine WP.region [0, 1] rfl ?_; refine WP.vl rfl (Yld.add64 rfl rfl rfl (by omega)) ?_; refine WP.mv rfl rfl ?_; refine WP.nil ?_; refine WP.sub [(1, _), (4, _), (5, _), (6, _), (7, _), (8, _)] ?_ ⟨rfl, rfl, rfl, rfl, rfl, rfl, trivial⟩
  exact WP.again (i + 1, L1) ⟨hi, by rw [flatTake numZ hi, ← List.append_assoc]; exact hw1⟩ (show zs.length - (i + 1) < zs.length - i by omega) ⟨rfl, rfl, rfl, rfl, trivial⟩ rfl zA
 ·obtain rfl : i = zs.length := by omega
  rw [List.take_length] at hw
  refine WP.nil (WP.next (WP.seq ?_))
  refine WP.condF rfl ?_; refine WP.exit (WP.thenE (WP.thenE (WP.hit ?_)))
  refine WP.fn .normal (.inl rfl) (res0 rfl) ((wb, row 58 [.pointer (some ⟨q, 0, none⟩)]) :: Lw) (Imm.le_refl _) ?_; exact ⟨rfl, rfl, Lw, rfl, hw⟩


theorem hd_el {c : Ck} (h : c.may) : ∀ z ∈ [c.fr, c.pl, c.root, c.nx, (c.ps.length : Int)], 0 ≤ z ∧ z ≤ 1099511627776 := by
 obtain ⟨⟨a1, a2⟩, ⟨a3, a4⟩, ⟨a5, a6⟩, a7, a8⟩ := h.1
 have hl := Ck.len h
 intro z hz
 simp only [List.mem_cons, List.not_mem_nil, or_false] at hz
 rcases hz with rfl | rfl | rfl | rfl | rfl <;> omega
theorem mp_el {c : Ck} (h : c.may) {i : Nat} (hi : i < c.ps.length) : ∀ z ∈ [c.ps[i].page, c.ps[i].place, c.ps[i].no, c.ps[i].low], 0 ≤ z ∧ z ≤ 1099511627776 := by
 obtain ⟨⟨a1, a2⟩, ⟨a3, a4⟩, ⟨a5, a6⟩, a7, a8⟩ := Ck.el h _ (List.getElem_mem hi)
 intro z hz
 simp only [List.mem_cons, List.not_mem_nil, or_false] at hz
 rcases hz with rfl | rfl | rfl | rfl <;> omega
theorem chk_Encode {I : Imm} {c : Ck} {vp : Value} (hv : SlRd (Im I) vp c.ps.length 4 (c.ps.flatMap mpV)) : Spec Tryz.prog 5 [.agg (kV c vp).toArray] I [] (fun v J L' => ∃ vb xs, ∃ e : Int, v = .tuple #[vb, .int .i64 e] ∧ KEnc c xs e ∧ Own 5 1 vb (bytesV xs) xs.length L') := by
 obtain ⟨Ap, cp, rfl, _, _, _⟩ := id hv
 refine Spec.of Tryz.func5 rfl Tryz.ntmps5 (Nat.le_of_ble_eq_true rfl) (fun F => ?_)
 try simp only [nf]
 dsimp only [argsEnv]
 refine WP.seq ?_; refine WP.region [0, 1, 2] rfl ?_; refine WP.loud rfl rfl ?_; refine Op.box rfl rfl rfl rfl rfl (fun b1 => ?_)
 iterate 2 refine WP.mv rfl rfl ?_
 refine WP.nil (WP.next (WP.seq (WP.seq ?_)))
 refine WP.region [0, 1, 2] rfl ?_; refine WP.vl rfl (Yld.ldg (vs := kV c (.slice Ap c.ps.length cp)) rfl ty_ag_24 rfl rfl rfl) ?_; refine WP.loud rfl rfl ?_; refine Op.cl (chk_may hv) rfl Tryz.func14 rfl rfl rfl rfl ?_; rintro v J L1 - ⟨bm, rfl, hbm, rfl, rfl⟩
 try simp only [nf]
 by_cases hb1 : bm = true
 ·try rw [hb1]
  refine WP.vl rfl (Yld.not rfl rfl) ?_; refine WP.nil ?_; refine WP.sub [(0, _), (1, _), (2, _), (3, _), (11, _)] ?_ ⟨rfl, rfl, rfl, rfl, rfl, trivial⟩
  refine WP.next ?_; refine WP.condF rfl ?_; refine WP.skip (WP.next (WP.seq ?_))
  have hmay := hbm.1 hb1
  have hln5 := Ck.len hmay
  refine WP.region [0, 1, 2] rfl ?_; refine WP.loud rfl rfl ?_; refine Op.cl code_NewWriter rfl Tryz.func15 rfl rfl rfl rfl ?_; rintro v J L1 - ⟨rfl, q, rfl, hw⟩
  try simp only [nf]
  refine WP.loud rfl rfl ?_; refine Op.alloc rfl rfl rfl ty_zr_58 (fun wb => ?_)
  refine WP.loud rfl rfl ?_; refine Op.s1 rfl rfl ty_sz_58 rfl rfl rfl ?_; refine WP.nil ?_; refine WP.sub [(0, _), (1, _), (2, _), (3, _), (4, _), (11, _)] ?_ ⟨rfl, rfl, rfl, rfl, rfl, rfl, trivial⟩
  refine WP.next (WP.seq ?_)
  refine WP.region [0, 1] rfl ?_; refine WP.vl rfl (Yld.makeFunc rfl (vs := []) (us := [_]) rfl rfl) ?_; refine WP.mv rfl rfl ?_; refine WP.nil ?_; refine WP.sub [(0, _), (1, _), (2, _), (3, _), (4, _), (5, _), (11, _)] ?_ ⟨rfl, rfl, rfl, rfl, rfl, rfl, rfl, trivial⟩
  refine WP.next (WP.seq ?_)
  refine WP.region [0, 1, 2, 3, 4, 5, 6, 7, 8, 9, 10, 11, 12, 13] rfl ?_; refine WP.mv rfl rfl ?_; refine WP.vl rfl (Yld.fieldAddr rfl ty_fd_24_0 rfl) ?_; refine WP.vl rfl (Yld.ld rfl ty_sc_3 rfl rfl) ?_; refine WP.vl rfl (Yld.fieldAddr rfl ty_fd_24_1 rfl) ?_; refine WP.vl rfl (Yld.ld rfl ty_sc_3 rfl rfl) ?_; refine WP.vl rfl (Yld.fieldAddr rfl ty_fd_24_2 rfl) ?_; refine WP.vl rfl (Yld.ld rfl ty_sc_3 rfl rfl) ?_; refine WP.vl rfl (Yld.fieldAddr rfl ty_fd_24_3 rfl) ?_; refine WP.vl rfl (Yld.ld rfl ty_sc_3 rfl rfl) ?_; refine WP.vl rfl (Yld.fieldAddr rfl ty_fd_24_4 rfl) ?_; refine WP.vl rfl (Yld.ld (v := .slice Ap c.ps.length cp) rfl ty_sc_22 rfl rfl) ?_; refine WP.vl rfl (Yld.len rfl ty_sl_22 rfl) ?_; refine WP.loud rfl rfl ?_; refine Op.buildSlice rfl ty_sl_60 ty_el2_60 rfl rfl rfl rfl (vs := [_, _, _, _, _]) rfl (segs := [(0, [_]), (1, [_]), (2, [_]), (3, [_]), (4, [_])]) (cs := [.int .i64 c.fr, .int .i64 c.pl, .int .i64 c.root, .int .i64 c.nx, .int .i64 (c.ps.length : Int)]) rfl rfl (.seg (Nat.le_of_ble_eq_true rfl) rfl (.seg (Nat.le_of_ble_eq_true rfl) rfl (.seg (Nat.le_of_ble_eq_true rfl) rfl (.seg (Nat.le_of_ble_eq_true rfl) rfl (.seg (Nat.le_of_ble_eq_true rfl) rfl .nil))))) (fun bh => ?_)
  refine WP.share (fun J1 hJ1 hh0 => ?_)
  have hh : SlRd (Im J1) (.slice (some ⟨bh, 0, none⟩) 5 5) 5 1 (([c.fr, c.pl, c.root, c.nx, (c.ps.length : Int)] : List Int).map (Value.int .i64)) := SlRd.lit (V := Im J1) (m := 5) hh0 rfl (Nat.le_refl _)
  refine WP.loud rfl rfl ?_; refine Op.callE (chk_lay (zs := [c.fr, c.pl, c.root, c.nx, (c.ps.length : Int)]) hw hh (hd_el hmay) (by show 0 + 50 ≤ _; decide)) (Enters.closure rfl Tryz.func16 rfl (us := [.pointer (some ⟨wb, 0, none⟩)]) rfl (vs := [_]) rfl) rfl rfl zT ?_; rintro v J L5 - ⟨rfl, rfl, Lw0, rfl, hw⟩
  try simp only [nf]
  rw [numZ_hd, List.nil_append] at hw
  refine WP.nil ?_; refine WP.sub [(0, _), (1, _), (2, _), (3, _), (4, _), (5, _), (11, _)] ?_ ⟨rfl, rfl, rfl, rfl, rfl, rfl, rfl, trivial⟩
  refine WP.next (WP.seq (WP.seq ?_))
  refine WP.region [0, 1, 2, 3] rfl ?_; refine WP.vl rfl (Yld.fieldAddr rfl ty_fd_24_4 rfl) ?_; refine WP.vl rfl (Yld.ld (v := .slice Ap c.ps.length cp) rfl ty_sc_22 rfl rfl) ?_; refine WP.vl rfl (Yld.len rfl ty_sl_22 rfl) ?_; refine WP.mv rfl rfl ?_; refine WP.nil ?_; refine WP.sub [(0, _), (1, _), (2, _), (3, _), (4, _), (5, _), (11, _), (29, _), (30, _), (31, _)] ?_ ⟨rfl, rfl, rfl, rfl, rfl, rfl, rfl, rfl, rfl, rfl, trivial⟩
  refine WP.next (WP.block ?_)
  refine WP.loop (X := EcX) (fun u : EcX => [(1, .pointer (some ⟨b1, 0, none⟩)), (4, .pointer (some ⟨wb, 0, none⟩)), (5, .func (.func 16) #[] #[.pointer (some ⟨wb, 0, none⟩)]), (29, .slice Ap c.ps.length cp), (30, .int .i64 (c.ps.length : Int)), (31, .int .i64 (u.i : Int))]) (fun u => u.J) (fun u : EcX => (b1, row 24 (kV c (.slice Ap c.ps.length cp))) :: (wb, row 58 [.pointer (some ⟨q, 0, none⟩)]) :: (u.L ++ F)) (fun u : EcX => I.le u.J ∧ u.i ≤ c.ps.length ∧ IsWr q (ckH c ++ (c.ps.take u.i).flatMap mpB) u.L) (fun u => c.ps.length - u.i) ⟨0, J1, Lw0⟩ ⟨hJ1, Nat.zero_le _, by simpa using hw⟩ ⟨rfl, rfl, rfl, rfl, rfl, rfl, trivial⟩ rfl zA ?_; rintro ⟨i, J, Lw⟩ ⟨hJ, hle, hw⟩; dsimp only at hJ hle hw; have hbl := ecB_le hmay hle
  try dsimp only
  try simp only [nf]
  refine WP.seq ?_; refine WP.region [0] rfl ?_; refine WP.split rfl rfl rfl rfl (Yld.lss rfl rfl rfl) (fun hlt => ?_) (fun hlt => ?_)
  ·have hi : i < c.ps.length := by omega
   obtain ⟨bp, kp, Tp, fp, arp, ep, hbp0, hcp⟩ := mps_at hv hi
   have hbp := hJ.2 _ _ hbp0
   refine WP.nil (WP.next (WP.seq ?_))
   refine WP.condT rfl ?_; refine WP.skip (WP.next (WP.seq (WP.block (WP.seq ?_))))
   refine WP.region [0, 1, 2, 3] rfl ?_; refine WP.vl rfl (Yld.indexAddr (i := i) rfl ty_sl_22 (congrArg (fun a => some (Value.slice a c.ps.length cp)) ep) rfl hi) ?_; refine WP.vl rfl (Yld.loadAggC (vs := mpV (c.ps[i])) rfl ty_ag_65 rfl (There.i hbp) hcp rfl) ?_; refine WP.loud rfl rfl ?_; refine Op.alloc rfl rfl rfl ty_zr_65 (fun b7 => ?_)
   refine WP.loud rfl rfl ?_; refine Op.sA rfl rfl ty_sz_65 rfl rfl rfl rfl rfl ?_; refine WP.nil ?_; refine WP.sub [(1, _), (4, _), (5, _), (7, _), (29, _), (30, _), (31, _), (32, _)] ?_ ⟨rfl, rfl, rfl, rfl, rfl, rfl, rfl, rfl, trivial⟩
   refine WP.next ?_; refine WP.region [0, 1, 2, 3, 4, 5, 6, 7, 8, 9, 10] rfl ?_; refine WP.mv rfl rfl ?_; refine WP.vl rfl (Yld.fieldAddr rfl ty_fd_65_0 rfl) ?_; refine WP.vl rfl (Yld.ld rfl ty_sc_3 rfl rfl) ?_; refine WP.vl rfl (Yld.fieldAddr rfl ty_fd_65_1 rfl) ?_; refine WP.vl rfl (Yld.ld rfl ty_sc_3 rfl rfl) ?_; refine WP.vl rfl (Yld.fieldAddr rfl ty_fd_65_2 rfl) ?_; refine WP.vl rfl (Yld.ld rfl ty_sc_3 rfl rfl) ?_; refine WP.vl rfl (Yld.fieldAddr rfl ty_fd_65_3 rfl) ?_; refine WP.vl rfl (Yld.ld rfl ty_sc_3 rfl rfl) ?_; refine WP.loud rfl rfl ?_; refine Op.buildSlice rfl ty_sl_60 ty_el2_60 rfl rfl rfl rfl (vs := [_, _, _, _]) rfl (segs := [(0, [_]), (1, [_]), (2, [_]), (3, [_])]) (cs := [.int .i64 c.ps[i].page, .int .i64 c.ps[i].place, .int .i64 c.ps[i].no, .int .i64 c.ps[i].low]) rfl rfl (.seg (Nat.le_of_ble_eq_true rfl) rfl (.seg (Nat.le_of_ble_eq_true rfl) rfl (.seg (Nat.le_of_ble_eq_true rfl) rfl (.seg (Nat.le_of_ble_eq_true rfl) rfl .nil)))) (fun bl => ?_)
   refine WP.share (fun J3 hJ3 hh0 => ?_)
   have hh : SlRd (Im J3) (.slice (some ⟨bl, 0, none⟩) 4 4) 4 1 (([c.ps[i].page, c.ps[i].place, c.ps[i].no, c.ps[i].low] : List Int).map (Value.int .i64)) := SlRd.lit (V := Im J3) (m := 4) hh0 rfl (Nat.le_refl _)
   refine WP.loud rfl rfl ?_; refine Op.callE (chk_lay (zs := [c.ps[i].page, c.ps[i].place, c.ps[i].no, c.ps[i].low]) hw hh (mp_el hmay hi) (by show _ + 40 ≤ _; omega)) (Enters.closure rfl Tryz.func16 rfl (us := [.pointer (some ⟨wb, 0, none⟩)]) rfl (vs := [_]) rfl) rfl rfl zT ?_; rintro v J L9 - ⟨rfl, rfl, Lw3, rfl, hw3⟩
   try simp only [nf]
   rw [numZ_mp] at hw3
   refine WP.nil ?_; refine WP.sub [(1, _), (4, _), (5, _), (7, _), (29, _), (30, _), (31, _), (32, _)] ?_ ⟨rfl, rfl, rfl, rfl, rfl, rfl, rfl, rfl, trivial⟩
   refine WP.leave (WP.next ?_)
   refine WP.region [0, 1] rfl ?_; refine WP.vl rfl (Yld.add64 rfl rfl rfl (by omega)) ?_; refine WP.mv rfl rfl ?_; refine WP.nil ?_; refine WP.sub [(1, _), (4, _), (5, _), (7, _), (29, _), (30, _), (31, _), (32, _)] ?_ ⟨rfl, rfl, rfl, rfl, rfl, rfl, rfl, rfl, trivial⟩
   exact WP.again ⟨i + 1, J3, Lw3⟩ ⟨Imm.le_trans hJ hJ3, hi, by rw [flatTake mpB hi, ← List.append_assoc]; exact hw3⟩ (show c.ps.length - (i + 1) < c.ps.length - i by omega) ⟨rfl, rfl, rfl, rfl, rfl, rfl, trivial⟩ rfl zA
  ·obtain rfl : i = c.ps.length := by omega
   rw [List.take_length] at hw hbl
   refine WP.nil (WP.next (WP.seq ?_))
   refine WP.condF rfl ?_; refine WP.exit (WP.thenE (WP.thenE (WP.hit (WP.next (WP.seq ?_)))))
   refine WP.region [0, 1, 2] rfl ?_; refine WP.vl rfl (Yld.ld rfl ty_sc_58 rfl rfl) ?_; refine WP.loud rfl rfl ?_; refine Op.cl (code_Done hw (by omega)) rfl Tryz.func18 rfl rfl rfl rfl ?_; rintro v J4 Ld hJ4 hod
   try simp only [nf]
   obtain ⟨Ad, cd, rfl, _⟩ := hod.slice
   refine WP.mv rfl rfl ?_; refine WP.nil ?_; refine WP.sub [(1, _), (4, _), (5, _), (8, _), (29, _), (30, _), (31, _), (32, _)] ?_ ⟨rfl, rfl, rfl, rfl, rfl, rfl, rfl, rfl, trivial⟩
   refine WP.next (WP.seq (WP.seq ?_))
   refine WP.region [0, 1, 2] rfl ?_; refine WP.mv rfl rfl ?_; refine WP.vl rfl (Yld.len rfl ty_sl_25 rfl) ?_; refine WP.split rfl rfl rfl rfl (Yld.gtr rfl rfl rfl) (fun hlong => ?_) (fun hlong => ?_)
   ·refine WP.nil ?_
    refine WP.sub [(1, _), (4, _), (5, _), (8, _), (29, _), (30, _), (31, _), (32, _), (51, _)] ?_ ⟨rfl, rfl, rfl, rfl, rfl, rfl, rfl, rfl, rfl, trivial⟩
    refine WP.next ?_; refine WP.condT rfl ?_; refine WP.seq ?_; refine WP.region [0, 1] rfl ?_; iterate 2 refine WP.mv rfl rfl ?_
    refine WP.nil (WP.next (WP.ret ?_))
    refine WP.fn .ret (.inr rfl) (res2 rfl rfl rfl) [] (Imm.le_trans hJ hJ4) ?_; exact ⟨_, [], 2, rfl, .inr (.inl ⟨hmay, (show 12671 < (ckH c ++ c.ps.flatMap mpB).length by omega), rfl, rfl⟩), .none0⟩
   ·refine WP.nil ?_
    refine WP.sub [(1, _), (4, _), (5, _), (8, _), (29, _), (30, _), (31, _), (32, _), (51, _)] ?_ ⟨rfl, rfl, rfl, rfl, rfl, rfl, rfl, rfl, rfl, trivial⟩
    refine WP.next ?_; refine WP.condF rfl ?_; refine WP.skip (WP.next (WP.seq ?_))
    refine WP.region [0, 1, 2] rfl ?_; iterate 3 refine WP.mv rfl rfl ?_
    refine WP.nil ?_; refine WP.sub [(1, _), (2, _), (3, _), (4, _), (5, _), (8, _), (29, _), (30, _), (31, _), (32, _), (51, _)] ?_ ⟨rfl, rfl, rfl, rfl, rfl, rfl, rfl, rfl, rfl, rfl, rfl, trivial⟩
    refine WP.next (WP.ret ?_)
    refine WP.fn .ret (.inr rfl) (res2 rfl rfl rfl) Ld (Imm.le_trans hJ hJ4) ?_; exact ⟨_, _, 0, rfl, .inr (.inr ⟨hmay, (show (ckH c ++ c.ps.flatMap mpB).length ≤ 12671 by omega), rfl, rfl⟩), hod⟩
 ·have hb1 : bm = false := eq_false_of_ne_true hb1
  try rw [hb1]
  refine WP.vl rfl (Yld.not rfl rfl) ?_; refine WP.nil ?_; refine WP.sub [(0, _), (1, _), (2, _), (3, _), (11, _)] ?_ ⟨rfl, rfl, rfl, rfl, rfl, trivial⟩
  refine WP.next ?_; refine WP.condT rfl ?_; refine WP.seq ?_; refine WP.region [0, 1] rfl ?_; iterate 2 refine WP.mv rfl rfl ?_
  refine WP.nil (WP.next (WP.ret ?_))
  refine WP.fn .ret (.inr rfl) (res2 rfl rfl rfl) [] (Imm.le_refl _) ?_; exact ⟨_, [], 170, rfl, .inl ⟨(fun h => by rw [hbm.2 h] at hb1; cases hb1), rfl, rfl⟩, .none0⟩


end Go.Hp
