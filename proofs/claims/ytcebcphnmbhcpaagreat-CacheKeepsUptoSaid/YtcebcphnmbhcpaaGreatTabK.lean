import Derived.Test.YtcebcphnmbhcpaaGreatTabH
set_option linter.unusedVariables false
set_option linter.unusedSimpArgs false
namespace Go.Hp
open Go Go.Proofs

theorem tabT_Alloc {I : Imm} {t : Nat} {x : Tb} {L : Chunks} (hT : IsT I t x L) (htk : x.tok + 1 < 18446744073709551616) : Spec Tryz.prog 10 [.pointer (some ⟨t, 0, none⟩)] I L (fun v J L' => ∃ p, 1 ≤ p ∧ (∀ k, 1 ≤ k → k < p → (x.get k).isSome = true) ∧ x.get p = none ∧ ((512 < p ∧ v = .tuple #[.int .i64 0, .int .i64 91] ∧ I = J ∧ IsT J t x L') ∨ (p ≤ 512 ∧ v = .tuple #[.int .i64 p, .int .i64 0] ∧ ∃ x', x.Used x' p zeroEnt ∧ IsT J t x' L'))) := by
 cases hT with | @mk q c vc l s sw m a Lt hd =>
 refine Spec.of Tryz.func10 rfl Tryz.ntmps10 (Nat.le_of_ble_eq_true rfl) (fun F => ?_)
 try simp only [nf]
 dsimp only [argsEnv]
 refine WP.seq ?_; refine WP.region [0, 1] rfl ?_; iterate 2 refine WP.mv rfl rfl ?_
 refine WP.nil (WP.next (WP.seq ?_))
 refine WP.region [0] rfl ?_; refine WP.mv rfl rfl ?_; refine WP.nil (WP.next (WP.seq (WP.block ?_)))
 refine WP.loop (X := Int) (fun p : Int => [(0, .pointer (some ⟨t, 0, none⟩)), (4, .int .i64 p)]) (fun _ => I) (fun _ => (q, row 165 [.int .i64 vc, .pointer (some ⟨c, 0, none⟩)]) :: (c, row 168 [.int .i64 l, .int .i64 s, .int .i64 sw, .int .i64 m, .int .i64 a]) :: (Lt ++ F)) (fun p : Int => 1 ≤ p ∧ p ≤ 513 ∧ ∀ k, 1 ≤ k → k < p → (x.get k).isSome = true) (fun p : Int => (513 - p).toNat) 1 ⟨Int.le_refl _, by omega, fun k h1 h2 => by omega⟩ ⟨rfl, rfl, trivial⟩ rfl zP ?_; rintro p ⟨hp1, hp2, hall⟩
 try dsimp only
 try simp only [nf]
 refine WP.seq (WP.seq ?_)
 refine WP.region [0, 1, 2, 3] rfl ?_; iterate 2 refine WP.mv rfl rfl ?_
 refine WP.loud rfl rfl ?_; refine Op.cl (tab_find hd) rfl Tryz.func32 rfl rfl rfl rfl ?_; rintro v J Lt - ⟨rfl, rfl, rfl⟩
 try simp only [nf]
 refine WP.vl rfl (Yld.neqNil rfl ty_pt_89 rfl rfl) ?_; by_cases hg : (!(slotP (x.get p)).isNone) = true
 ·try rw [hg]
  refine WP.nil ?_; refine WP.sub [(0, _), (4, _), (8, _)] ?_ ⟨rfl, rfl, rfl, trivial⟩
  refine WP.next ?_; refine WP.condT rfl ?_; refine WP.skip (WP.next (WP.block ?_))
  have hsome : (x.get p).isSome = true := by rw [slotP_none] at hg; cases hh : x.get p <;> simp_all
  have hle : p ≤ 512 := by obtain ⟨e, he⟩ := Option.isSome_iff_exists.1 hsome; have := Tb.in_of_get he; have := hd.size_le; omega
  refine WP.region [0, 1, 2] rfl ?_; refine WP.mv rfl rfl ?_; refine WP.vl rfl (Yld.add64 rfl rfl rfl (by omega)) ?_; refine WP.mv rfl rfl ?_; refine WP.nil ?_; refine WP.sub [(0, _), (4, _), (8, _)] ?_ ⟨rfl, rfl, rfl, trivial⟩
  refine WP.leave ?_; exact WP.ag (p + 1) ⟨by omega, by omega, fun k h1 h2 => by rcases Int.lt_or_eq_of_le (show k ≤ p by omega) with h | rfl; exact hall k h1 h; exact hsome⟩ (show (513 - (p + 1)).toNat < (513 - p).toNat by omega) ⟨rfl, rfl, trivial⟩ rfl
 ·have hg : (!(slotP (x.get p)).isNone) = false := eq_false_of_ne_true hg
  try rw [hg]
  refine WP.nil ?_; refine WP.sub [(0, _), (4, _), (8, _)] ?_ ⟨rfl, rfl, rfl, trivial⟩
  refine WP.next ?_; refine WP.condF rfl ?_; refine WP.exit (WP.thenE (WP.thenE (WP.hit (WP.next (WP.seq (WP.seq ?_))))))
  have hnone : x.get p = none := by rw [slotP_none] at hg; cases hh : x.get p <;> simp_all
  refine WP.region [0, 1] rfl ?_; refine WP.mv rfl rfl ?_; refine WP.split rfl rfl rfl rfl (Yld.gtr rfl rfl rfl) (fun h512 => ?_) (fun h512 => ?_)
  ·refine WP.nil ?_
   refine WP.sub [(0, _), (4, _), (8, _), (12, _)] ?_ ⟨rfl, rfl, rfl, rfl, trivial⟩
   refine WP.next ?_; refine WP.condT rfl ?_; refine WP.seq ?_; refine WP.region [0, 1] rfl ?_; iterate 2 refine WP.mv rfl rfl ?_
   refine WP.nil (WP.next (WP.ret ?_))
   refine WP.fn .ret (.inr rfl) (resT (rs := [.tmp 2, .tmp 3]) (vs := [_, _]) rfl ⟨rfl, rfl, trivial⟩ rfl) ((q, row 165 [.int .i64 vc, .pointer (some ⟨c, 0, none⟩)]) :: (c, row 168 [.int .i64 l, .int .i64 s, .int .i64 sw, .int .i64 m, .int .i64 a]) :: Lt) (Imm.le_refl _) ?_; exact ⟨p, hp1, hall, hnone, .inl ⟨by omega, rfl, rfl, .mk hd⟩⟩
  ·refine WP.nil ?_
   refine WP.sub [(0, _), (4, _), (8, _), (12, _)] ?_ ⟨rfl, rfl, rfl, rfl, trivial⟩
   refine WP.next ?_; refine WP.condF rfl ?_; refine WP.skip (WP.next (WP.seq ?_))
   refine WP.region [0, 1, 2, 3] rfl ?_; iterate 2 refine WP.mv rfl rfl ?_
   refine WP.vl rfl (Yld.buildS (pl := []) rfl ty_zr_50 ty_zd_50 zK rfl (vs := []) rfl (segs := []) rfl rfl zS) ?_; refine WP.loud rfl rfl ?_; refine Op.cl (tab_use hd (zero_rent I) zero_sized htk ⟨hp1, by omega⟩) rfl Tryz.func33 rfl rfl rfl rfl ?_; rintro v J2 L9 hJ2 ⟨x2, rfl, hu, hd2⟩
   try simp only [nf]
   refine WP.nil ?_; refine WP.sub [(0, _), (4, _), (8, _), (12, _)] ?_ ⟨rfl, rfl, rfl, rfl, trivial⟩
   refine WP.next (WP.seq ?_)
   refine WP.region [0, 1, 2] rfl ?_; iterate 3 refine WP.mv rfl rfl ?_
   refine WP.nil ?_; refine WP.sub [(0, _), (2, _), (3, _), (4, _), (8, _), (12, _)] ?_ ⟨rfl, rfl, rfl, rfl, rfl, rfl, trivial⟩
   refine WP.next (WP.ret ?_)
   refine WP.fn .ret (.inr rfl) (resT (rs := [.tmp 2, .tmp 3]) (vs := [_, _]) rfl ⟨rfl, rfl, trivial⟩ rfl) ((q, row 165 [.int .i64 vc, .pointer (some ⟨c, 0, none⟩)]) :: (c, row 168 [.int .i64 l, .int .i64 s, .int .i64 sw, .int .i64 m, .int .i64 a]) :: L9) hJ2 ?_; exact ⟨p, hp1, hall, hnone, .inr ⟨by omega, rfl, x2, hu, .mk hd2⟩⟩


theorem tabT_Load1 {I : Imm} {t : Nat} {x : Tb} {L : Chunks} (hT : IsT I t x L) {p : Int} {e : Nat × Ent} (hg : x.get p = some e) : Spec Tryz.prog 20 [.pointer (some ⟨t, 0, none⟩), .int .i64 p] I L (fun v J L' => ∃ cs, v = .tuple #[.agg cs.toArray, .int .i64 0] ∧ REnt J e.2 cs ∧ IsT J t x L') := by
 cases hT with | @mk q c vc l s sw m a Lt hd =>
 obtain ⟨hes, es, hbe, hre⟩ := hd.entOk hg
 have hre' := hre
 obtain ⟨vn, vw, nv, rfl, hn, hno, hw⟩ := hre'.ex
 obtain ⟨An, cn, rfl, hcn⟩ := hn.slice'
 obtain ⟨Aw, cw, rfl, hcw⟩ := hw.slice'
 cases hd with | mk ok ow =>
 obtain ⟨bv, cv, spv, rfl, rfl, hcv, hnv⟩ := ow.get (by have := ok.n1; omega)
 have hn1 := ok.n1
 have hn2 := ok.n2
 refine Spec.of Tryz.func20 rfl Tryz.ntmps20 (Nat.le_of_ble_eq_true rfl) (fun F => ?_)
 try simp only [nf]
 dsimp only [argsEnv]
 refine WP.seq ?_; refine WP.region [0, 1] rfl ?_; refine WP.loud rfl rfl ?_; refine Op.alloc rfl rfl rfl ty_zr_50 (fun b4 => ?_)
 refine WP.mv rfl rfl ?_; refine WP.nil (WP.next (WP.seq ?_))
 refine WP.region [0, 1, 2, 3] rfl ?_; iterate 2 refine WP.mv rfl rfl ?_
 refine WP.loud rfl rfl ?_; refine Op.cl (tab_find (IsTab.mk ok ow)) rfl Tryz.func32 rfl rfl rfl rfl ?_; rintro v J L1 - ⟨rfl, rfl, rfl⟩
 try simp only [nf]
 rw [hg]
 refine WP.mv rfl rfl ?_; refine WP.nil ?_; refine WP.sub [(0, _), (1, _), (4, _), (5, _), (6, _)] ?_ ⟨rfl, rfl, rfl, rfl, rfl, trivial⟩
 refine WP.next (WP.seq (WP.seq ?_))
 refine WP.region [0, 1] rfl ?_; refine WP.mv rfl rfl ?_; refine WP.vl rfl (Yld.eqlNil rfl ty_pt_89 rfl rfl) ?_; refine WP.nil ?_; refine WP.sub [(0, _), (1, _), (4, _), (5, _), (6, _), (11, _)] ?_ ⟨rfl, rfl, rfl, rfl, rfl, rfl, trivial⟩
 refine WP.next ?_; refine WP.condF rfl ?_; refine WP.skip (WP.next (WP.seq ?_))
 refine WP.region [0, 1, 2, 3, 4] rfl ?_; refine WP.mv rfl rfl ?_; refine WP.vl rfl (Yld.nilCheck rfl rfl) ?_; refine WP.vl rfl (Yld.fieldAddr rfl ty_fd_100_0 rfl) ?_; refine WP.vl rfl (Yld.ld rfl ty_sc_97 rfl rfl) ?_; refine WP.loud rfl rfl ?_; refine Op.cl cell_Load rfl Tryz.func43 rfl rfl rfl rfl ?_; rintro v J L1 - ⟨rfl, rfl, rfl⟩
 try simp only [nf]
 refine WP.nil ?_; refine WP.sub [(0, _), (1, _), (4, _), (5, _), (6, _), (11, _)] ?_ ⟨rfl, rfl, rfl, rfl, rfl, rfl, trivial⟩
 refine WP.next (WP.seq ?_)
 refine WP.region [0, 1, 2, 3, 4, 5] rfl ?_; refine WP.mv rfl rfl ?_; refine WP.vl rfl (Yld.nilCheck rfl rfl) ?_; refine WP.vl rfl (Yld.lda rfl ty_ag_50 rfl rfl) ?_; refine WP.loud rfl rfl ?_; refine Op.cl (tab_copied hre hes) rfl Tryz.func44 rfl rfl rfl rfl ?_; rintro v J2 L1 hJ2 ⟨cs2, rfl, hre2, rfl⟩
 try simp only [nf]
 obtain ⟨vn2, vw2, nv2, rfl, hn2, hno2, hw2⟩ := hre2.ex
 obtain ⟨An2, cn2, rfl, hcn2⟩ := hn2.slice'
 obtain ⟨Aw2, cw2, rfl, hcw2⟩ := hw2.slice'
 refine WP.loud rfl rfl ?_; refine Op.sA rfl rfl ty_sz_50 rfl rfl rfl rfl rfl ?_; refine WP.mv rfl rfl ?_; refine WP.nil ?_; refine WP.sub [(0, _), (1, _), (4, _), (5, _), (6, _), (11, _)] ?_ ⟨rfl, rfl, rfl, rfl, rfl, rfl, trivial⟩
 refine WP.next (WP.ret ?_)
 refine WP.fn .ret (.inr rfl) (resT (rs := [.cell 4 50, .tmp 5]) (vs := [_, _]) rfl ⟨⟨_, _, _, _, rfl, zM, .inl ⟨ty_ag_50, by rfl, rfl⟩⟩, rfl, trivial⟩ rfl) ((q, row 165 [.int .i64 vc, .pointer (some ⟨c, 0, none⟩)]) :: (c, row 168 [.int .i64 (IntKind.i64.wrap (l + 1)), .int .i64 s, .int .i64 sw, .int .i64 m, .int .i64 a]) :: ((t, row 100 [.pointer (some ⟨q, 0, none⟩), .int .u64 (x.tok : Int), .slice (some ⟨bv, 0, none⟩) x.cks.length cv, .int .i64 x.next]) :: ((bv, row 142 (ckps x.cks ++ spv)) :: x.cks.flatMap ckCh))) hJ2 ?_; exact ⟨_, rfl, ⟨_, _, nv2, rfl, hn2, hno2, hw2⟩, .mk (IsTab.mk (ok.mono hJ2) ow)⟩

theorem tabT_Swap0 {I : Imm} {t : Nat} {x : Tb} {L : Chunks} (hT : IsT I t x L) {p : Int} {tk : Nat} {e : Ent} {cs : List Value} (he : REnt I e cs) (hg : x.get p = none) : Spec Tryz.prog 11 [.pointer (some ⟨t, 0, none⟩), .int .i64 p, .int .u64 (tk : Int), .agg cs.toArray] I L (fun v J L' => v = .int .i64 90 ∧ I = J ∧ L' = L) := by
 cases hT with | @mk q c vc l s sw m a Lt hd =>
 obtain ⟨vn, vw, nv, rfl, hn, hno, hw⟩ := he.ex
 obtain ⟨An, cn, rfl, hcn⟩ := hn.slice'
 obtain ⟨Aw, cw, rfl, hcw⟩ := hw.slice'
 refine Spec.of Tryz.func11 rfl Tryz.ntmps11 (Nat.le_of_ble_eq_true rfl) (fun F => ?_)
 try simp only [nf]
 dsimp only [argsEnv]
 refine WP.seq ?_; refine WP.region [0, 1] rfl ?_; refine WP.loud rfl rfl ?_; refine Op.box rfl rfl rfl rfl rfl (fun b7 => ?_)
 refine WP.mv rfl rfl ?_; refine WP.nil (WP.next (WP.seq ?_))
 refine WP.region [0, 1, 2, 3] rfl ?_; iterate 2 refine WP.mv rfl rfl ?_
 refine WP.loud rfl rfl ?_; refine Op.cl (tab_find hd) rfl Tryz.func32 rfl rfl rfl rfl ?_; rintro v J Lt - ⟨rfl, rfl, rfl⟩
 try simp only [nf]
 rw [hg]
 refine WP.mv rfl rfl ?_; refine WP.nil ?_; refine WP.sub [(0, _), (1, _), (2, _), (3, _), (7, _), (8, _), (9, _)] ?_ ⟨rfl, rfl, rfl, rfl, rfl, rfl, rfl, trivial⟩
 refine WP.next (WP.seq (WP.block (WP.seq ?_)))
 refine WP.region [0, 1, 2] rfl ?_; refine WP.mv rfl rfl ?_; refine WP.vl rfl (Yld.eqlNil rfl ty_pt_89 rfl rfl) ?_; refine WP.mv rfl rfl ?_; refine WP.nil ?_; refine WP.sub [(0, _), (1, _), (2, _), (3, _), (7, _), (8, _), (9, _), (13, _)] ?_ ⟨rfl, rfl, rfl, rfl, rfl, rfl, rfl, rfl, trivial⟩
 refine WP.next ?_; refine WP.condT rfl ?_; refine WP.seq ?_; refine WP.region [0] rfl ?_; refine WP.mv rfl rfl ?_; refine WP.nil (WP.next (WP.ret ?_))
 refine WP.fn .ret (.inr rfl) (res1 rfl rfl) ((q, row 165 [.int .i64 vc, .pointer (some ⟨c, 0, none⟩)]) :: (c, row 168 [.int .i64 l, .int .i64 s, .int .i64 sw, .int .i64 m, .int .i64 a]) :: Lt) (Imm.le_refl _) ?_; exact ⟨rfl, rfl, rfl⟩


theorem ckV_at' {f : Slots} {j : Nat} (h : j < 16) {o : Option (Nat × Ent)} (ho : f j = o) : (ckV f)[j]? = some (slotV o) := by
 subst ho; simpa using ckV_at (f := f) h
theorem ckV_set' {f : Slots} {j : Nat} (h : j < 16) (x : Option (Nat × Ent)) : SetAt (ckV f) j (slotV x) (ckV (putSl f j x)) := by simpa using ckV_set (f := f) h x
theorem tabT_Swap1a {I : Imm} {t : Nat} {x : Tb} {L : Chunks} (hT : IsT I t x L) {p : Int} {tk : Nat} {e0 : Nat × Ent} {i j : Nat} (hp : p = (i : Int) * 16 + j + 1) (hj : j < 16) (hi : i < x.cks.length) (hg : x.get p = some e0) {e : Ent} {cs : List Value} (he : REnt I e cs) (hsz : e.sized) (htk : x.tok + 1 < 18446744073709551616) (hne : ¬ e0.2.tok = tk) : Spec Tryz.prog 11 [.pointer (some ⟨t, 0, none⟩), .int .i64 p, .int .u64 (tk : Int), .agg cs.toArray] I L (fun v J L' => (¬ e.mayP ∧ v = .int .i64 1 ∧ I = J ∧ IsT J t x L') ∨ (e.mayP ∧ e0.2.tok ≠ tk ∧ v = .int .i64 5 ∧ I = J ∧ IsT J t x L') ∨ (e.mayP ∧ e0.2.tok = tk ∧ v = .int .i64 0 ∧ ∃ x', x.Swapped x' p e ∧ IsT J t x' L')) := by
 cases hT with | @mk q c vc l s sw m a Lt hd =>
 have he0 := he
 obtain ⟨vn, vw, nv, rfl, hn, hno, hw⟩ := he.ex
 obtain ⟨An, cn, rfl, hcn⟩ := hn.slice'
 obtain ⟨Aw, cw, rfl, hcw⟩ := hw.slice'
 obtain ⟨hes, es, hbe, hre⟩ := hd.entOk hg
 have hre' := hre
 obtain ⟨vn0, vw0, nv0, rfl, _, _, _⟩ := hre'.ex
 cases hd with | mk ok ow =>
 obtain ⟨bv, cv, spv, rfl, rfl, hcv, hnv⟩ := ow.get (by have := ok.n1; omega)
 have hn1 := ok.n1
 have hn2 := ok.n2
 refine Spec.of Tryz.func11 rfl Tryz.ntmps11 (Nat.le_of_ble_eq_true rfl) (fun F => ?_)
 try simp only [nf]
 dsimp only [argsEnv]
 refine WP.seq ?_; refine WP.region [0, 1] rfl ?_; refine WP.loud rfl rfl ?_; refine Op.box rfl rfl rfl rfl rfl (fun b7 => ?_)
 refine WP.mv rfl rfl ?_; refine WP.nil (WP.next (WP.seq ?_))
 refine WP.region [0, 1, 2, 3] rfl ?_; iterate 2 refine WP.mv rfl rfl ?_
 refine WP.loud rfl rfl ?_; refine Op.cl (tab_find (IsTab.mk ok ow)) rfl Tryz.func32 rfl rfl rfl rfl ?_; rintro v J L1 - ⟨rfl, rfl, rfl⟩
 try simp only [nf]
 rw [hg]
 refine WP.mv rfl rfl ?_; refine WP.nil ?_; refine WP.sub [(0, _), (1, _), (2, _), (3, _), (7, _), (8, _), (9, _)] ?_ ⟨rfl, rfl, rfl, rfl, rfl, rfl, rfl, trivial⟩
 refine WP.next (WP.seq (WP.block (WP.seq ?_)))
 refine WP.region [0, 1, 2] rfl ?_; refine WP.mv rfl rfl ?_; refine WP.vl rfl (Yld.eqlNil rfl ty_pt_89 rfl rfl) ?_; refine WP.mv rfl rfl ?_; refine WP.nil ?_; refine WP.sub [(0, _), (1, _), (2, _), (3, _), (7, _), (8, _), (9, _), (13, _)] ?_ ⟨rfl, rfl, rfl, rfl, rfl, rfl, rfl, rfl, trivial⟩
 refine WP.next ?_; refine WP.condF rfl ?_; refine WP.seq ?_; refine WP.region [0, 1, 2, 3] rfl ?_; refine WP.vl rfl (Yld.lda rfl ty_ag_50 rfl rfl) ?_; refine WP.loud rfl rfl ?_; refine Op.cl (tab_may he0 hsz) rfl Tryz.func34 rfl rfl rfl rfl ?_; rintro v J L1 - ⟨bm, rfl, hbm, rfl, rfl⟩
 try simp only [nf]
 by_cases hm : bm = true
 ·try rw [hm]
  refine WP.vl rfl (Yld.not rfl rfl) ?_; refine WP.mv rfl rfl ?_; refine WP.nil ?_; refine WP.sub [(0, _), (1, _), (2, _), (3, _), (7, _), (8, _), (9, _), (13, _), (16, _)] ?_ ⟨rfl, rfl, rfl, rfl, rfl, rfl, rfl, rfl, rfl, trivial⟩
  refine WP.next ?_; refine WP.condF rfl ?_; refine WP.seq ?_; refine WD.start Tryzmixed 18 (There I _) (There I []) (fun _ _ h => h) SubL.nil 18 [false, false, false, false, false, false, false, false, false, false, false, false, false, false, false, false, false, false] rfl rfl ?_; refine WD.vl (i := 0) rfl (Yld.move rfl rfl) ?_; refine WD.vl (i := 1) rfl (Yld.nilCheck rfl rfl) ?_; refine WD.vl (i := 2) rfl (Yld.fieldAddr rfl ty_fd_50_0 rfl) ?_; refine WD.vl (i := 3) rfl (Yld.ld rfl ty_sc_44 rfl rfl) ?_; refine WD.vl (i := 4) rfl (Yld.move rfl rfl) ?_; refine WD.vl (i := 5) rfl (Yld.neq rfl rfl rfl true (decide_eq_true (by omega))) ?_; refine WD.vl (i := 6) rfl (Yld.move rfl rfl) ?_; refine WD.passG (i := 7) rfl rfl rfl rfl rfl rfl rfl rfl zK rfl ?_; refine WD.passG (i := 8) rfl rfl rfl rfl rfl rfl rfl rfl zK rfl ?_; refine WD.passG (i := 9) rfl rfl rfl rfl rfl rfl rfl rfl zK rfl ?_; refine WD.passG (i := 10) rfl rfl rfl rfl rfl rfl rfl rfl zK rfl ?_; refine WD.passG (i := 11) rfl rfl rfl rfl rfl rfl rfl rfl zK rfl ?_; refine WD.passG (i := 12) rfl rfl rfl rfl rfl rfl rfl rfl zK rfl ?_; refine WD.passG (i := 13) rfl rfl rfl rfl rfl rfl rfl rfl zK rfl ?_; refine WD.passG (i := 14) rfl rfl rfl rfl rfl rfl rfl rfl zK rfl ?_; refine WD.passG (i := 15) rfl rfl rfl rfl rfl rfl rfl rfl zK rfl ?_; refine WD.vl (i := 16) rfl (Yld.pickT rfl rfl rfl) ?_; refine WD.vl (i := 17) rfl (Yld.assign rfl rfl) ?_; refine WD.done zK ?_; refine WP.sub [(0, _), (1, _), (2, _), (3, _), (7, _), (8, _), (9, _), (13, _), (16, _), (20, _)] ?_ ⟨rfl, rfl, rfl, rfl, rfl, rfl, rfl, rfl, rfl, rfl, trivial⟩
  refine WP.next ?_; refine WP.condT rfl ?_; refine WP.seq ?_; refine WP.region [0, 1, 2, 3, 4] rfl ?_; refine WP.mv rfl rfl ?_; refine WP.vl rfl (Yld.nilCheck rfl rfl) ?_; refine WP.vl rfl (Yld.fieldAddr rfl ty_fd_100_0 rfl) ?_; refine WP.vl rfl (Yld.ld rfl ty_sc_97 rfl rfl) ?_; refine WP.loud rfl rfl ?_; refine Op.cl cell_CAS rfl Tryz.func38 rfl rfl rfl rfl ?_; rintro v J L1 - ⟨rfl, rfl, rfl⟩
  try simp only [nf]
  refine WP.nil ?_; refine WP.sub [(0, _), (1, _), (2, _), (3, _), (7, _), (8, _), (9, _), (13, _), (16, _), (20, _)] ?_ ⟨rfl, rfl, rfl, rfl, rfl, rfl, rfl, rfl, rfl, rfl, trivial⟩
  refine WP.next (WP.seq ?_)
  refine WP.region [0] rfl ?_; refine WP.mv rfl rfl ?_; refine WP.nil (WP.next (WP.ret ?_))
  refine WP.fn .ret (.inr rfl) (res1 rfl rfl) ((q, row 165 [.int .i64 (if vc = 1 then 1 else vc), .pointer (some ⟨c, 0, none⟩)]) :: (c, row 168 [.int .i64 l, .int .i64 s, .int .i64 (if vc = 1 then (IntKind.i64.wrap (sw + 1)) else sw), .int .i64 (if vc = 1 then m else (IntKind.i64.wrap (m + 1))), .int .i64 a]) :: ((t, row 100 [.pointer (some ⟨q, 0, none⟩), .int .u64 (x.tok : Int), .slice (some ⟨bv, 0, none⟩) x.cks.length cv, .int .i64 x.next]) :: ((bv, row 142 (ckps x.cks ++ spv)) :: x.cks.flatMap ckCh))) (Imm.le_refl _) ?_; exact .inr (.inl ⟨hbm.1 hm, hne, rfl, rfl, .mk (.mk ok ow)⟩)
 ·have hm : bm = false := eq_false_of_ne_true hm
  try rw [hm]
  refine WP.vl rfl (Yld.not rfl rfl) ?_; refine WP.mv rfl rfl ?_; refine WP.nil ?_; refine WP.sub [(0, _), (1, _), (2, _), (3, _), (7, _), (8, _), (9, _), (13, _), (16, _)] ?_ ⟨rfl, rfl, rfl, rfl, rfl, rfl, rfl, rfl, rfl, trivial⟩
  refine WP.next ?_; refine WP.condT rfl ?_; refine WP.seq ?_; refine WP.region [0] rfl ?_; refine WP.mv rfl rfl ?_; refine WP.nil (WP.next (WP.ret ?_))
  refine WP.fn .ret (.inr rfl) (res1 rfl rfl) ((q, row 165 [.int .i64 vc, .pointer (some ⟨c, 0, none⟩)]) :: (c, row 168 [.int .i64 l, .int .i64 s, .int .i64 sw, .int .i64 m, .int .i64 a]) :: ((t, row 100 [.pointer (some ⟨q, 0, none⟩), .int .u64 (x.tok : Int), .slice (some ⟨bv, 0, none⟩) x.cks.length cv, .int .i64 x.next]) :: ((bv, row 142 (ckps x.cks ++ spv)) :: x.cks.flatMap ckCh))) (Imm.le_refl _) ?_; exact .inl ⟨fun h => (by have := hbm.2 h; rw [hm] at this; cases this), rfl, rfl, .mk (.mk ok ow)⟩

theorem tabT_Swap1b {I : Imm} {t : Nat} {x : Tb} {L : Chunks} (hT : IsT I t x L) {p : Int} {tk : Nat} {e0 : Nat × Ent} {i j : Nat} (hp : p = (i : Int) * 16 + j + 1) (hj : j < 16) (hi : i < x.cks.length) (hg : x.get p = some e0) {e : Ent} {cs : List Value} (he : REnt I e cs) (hsz : e.sized) (htk : x.tok + 1 < 18446744073709551616) (heq : e0.2.tok = tk) : Spec Tryz.prog 11 [.pointer (some ⟨t, 0, none⟩), .int .i64 p, .int .u64 (tk : Int), .agg cs.toArray] I L (fun v J L' => (¬ e.mayP ∧ v = .int .i64 1 ∧ I = J ∧ IsT J t x L') ∨ (e.mayP ∧ e0.2.tok ≠ tk ∧ v = .int .i64 5 ∧ I = J ∧ IsT J t x L') ∨ (e.mayP ∧ e0.2.tok = tk ∧ v = .int .i64 0 ∧ ∃ x', x.Swapped x' p e ∧ IsT J t x' L')) := by
 cases hT with | @mk q c vc l s sw m a Lt hd =>
 have he0 := he
 obtain ⟨vn, vw, nv, rfl, hn, hno, hw⟩ := he.ex
 obtain ⟨An, cn, rfl, hcn⟩ := hn.slice'
 obtain ⟨Aw, cw, rfl, hcw⟩ := hw.slice'
 obtain ⟨hes, es, hbe, hre⟩ := hd.entOk hg
 have hre' := hre
 obtain ⟨vn0, vw0, nv0, rfl, _, _, _⟩ := hre'.ex
 cases hd with | mk ok ow =>
 obtain ⟨bv, cv, spv, rfl, rfl, hcv, hnv⟩ := ow.get (by have := ok.n1; omega)
 have hn1 := ok.n1
 have hn2 := ok.n2
 refine Spec.of Tryz.func11 rfl Tryz.ntmps11 (Nat.le_of_ble_eq_true rfl) (fun F => ?_)
 try simp only [nf]
 dsimp only [argsEnv]
 refine WP.seq ?_; refine WP.region [0, 1] rfl ?_; refine WP.loud rfl rfl ?_; refine Op.box rfl rfl rfl rfl rfl (fun b7 => ?_)
 refine WP.mv rfl rfl ?_; refine WP.nil (WP.next (WP.seq ?_))
 refine WP.region [0, 1, 2, 3] rfl ?_; iterate 2 refine WP.mv rfl rfl ?_
 refine WP.loud rfl rfl ?_; refine Op.cl (tab_find (IsTab.mk ok ow)) rfl Tryz.func32 rfl rfl rfl rfl ?_; rintro v J L1 - ⟨rfl, rfl, rfl⟩
 try simp only [nf]
 rw [hg]
 refine WP.mv rfl rfl ?_; refine WP.nil ?_; refine WP.sub [(0, _), (1, _), (2, _), (3, _), (7, _), (8, _), (9, _)] ?_ ⟨rfl, rfl, rfl, rfl, rfl, rfl, rfl, trivial⟩
 refine WP.next (WP.seq (WP.block (WP.seq ?_)))
 refine WP.region [0, 1, 2] rfl ?_; refine WP.mv rfl rfl ?_; refine WP.vl rfl (Yld.eqlNil rfl ty_pt_89 rfl rfl) ?_; refine WP.mv rfl rfl ?_; refine WP.nil ?_; refine WP.sub [(0, _), (1, _), (2, _), (3, _), (7, _), (8, _), (9, _), (13, _)] ?_ ⟨rfl, rfl, rfl, rfl, rfl, rfl, rfl, rfl, trivial⟩
 refine WP.next ?_; refine WP.condF rfl ?_; refine WP.seq ?_; refine WP.region [0, 1, 2, 3] rfl ?_; refine WP.vl rfl (Yld.lda rfl ty_ag_50 rfl rfl) ?_; refine WP.loud rfl rfl ?_; refine Op.cl (tab_may he0 hsz) rfl Tryz.func34 rfl rfl rfl rfl ?_; rintro v J L1 - ⟨bm, rfl, hbm, rfl, rfl⟩
 try simp only [nf]
 by_cases hm : bm = true
 ·try rw [hm]
  refine WP.vl rfl (Yld.not rfl rfl) ?_; refine WP.mv rfl rfl ?_; refine WP.nil ?_; refine WP.sub [(0, _), (1, _), (2, _), (3, _), (7, _), (8, _), (9, _), (13, _), (16, _)] ?_ ⟨rfl, rfl, rfl, rfl, rfl, rfl, rfl, rfl, rfl, trivial⟩
  refine WP.next ?_; refine WP.condF rfl ?_; refine WP.seq ?_; refine WD.start Tryzmixed 13 (There I _) (fun _ _ => False) (fun _ _ h => h) (fun _ _ h => h.elim) 18 [false, false, false, false, false, false, false, false, false, false, false, false, false, false, false, false, false, false] rfl rfl ?_; refine WD.vl (i := 0) rfl (Yld.move rfl rfl) ?_; refine WD.vl (i := 1) rfl (Yld.nilCheck rfl rfl) ?_; refine WD.vl (i := 2) rfl (Yld.fieldAddr rfl ty_fd_50_0 rfl) ?_; refine WD.val1 (i := 3) rfl rfl rfl rfl zK rfl zK (Yld.load rfl ty_sc_44 rfl (.inl zM) rfl) ?_; refine WD.vl (i := 4) rfl (Yld.move rfl rfl) ?_; refine WD.vl (i := 5) rfl (Yld.neq rfl rfl rfl false (decide_eq_false (by omega))) ?_; refine WD.vl (i := 6) rfl (Yld.move rfl rfl) ?_; refine WD.valG (i := 7) rfl rfl rfl rfl rfl rfl rfl zK rfl (Yld.move rfl rfl) ?_; refine WD.valG (i := 8) rfl rfl rfl rfl rfl rfl rfl zK rfl (Yld.move rfl rfl) ?_; refine WD.valG (i := 10) rfl rfl rfl rfl rfl rfl rfl zK rfl (Yld.move rfl rfl) ?_; refine WD.valG (i := 11) rfl rfl rfl rfl rfl rfl rfl zK rfl (Yld.move rfl rfl) ?_; refine WD.val1G (i := 12) rfl rfl rfl rfl rfl rfl rfl zK rfl zK (Yld.loadAll rfl ty_ag_50 rfl (.inl zM) rfl) ?_; refine WD.loudG (i := 9) zK rfl rfl rfl rfl rfl rfl ?_; refine Op.cl (tab_at1 (IsTab.mk ok ow) hp hj hi) rfl Tryz.func35 rfl rfl rfl rfl ?_; rintro v J L1 - ⟨rfl, rfl, rfl⟩
  try simp only [nf]
  refine WD.go (.inr (fun _ _ h => h)) (fun _ _ h => h.elim) ?_; refine WD.loudG (i := 13) zK rfl rfl rfl rfl rfl rfl ?_; refine Op.cl (tab_fresh (IsTab.mk ok ow) he0 hsz htk) rfl Tryz.func37 rfl rfl rfl rfl ?_; rintro v J2 L9 hJ2 ⟨b9, rfl, hb9, hy4⟩
  try simp only [nf]
  generalize hz : ({ x with tok := x.tok + 1 } : Tb) = z at hy4
  have hzc : z.cks = x.cks := by rw [← hz]
  have hzt : z.tok = x.tok + 1 := by rw [← hz]
  have hzn : z.next = x.next := by rw [← hz]
  have hiz : i < z.cks.length := by rw [hzc]; exact hi
  have hzi : z.cks[i].1 = x.cks[i].1 := by simp only [hzc]
  have hzg : ∀ k, z.get k = x.get k := fun k => by simp only [Tb.get, hzc]
  have hzs : z.size = x.size := by simp only [Tb.size, hzc]
  have hcell : z.cks[i].2 j = some e0 := by rw [← Tb.get_at hp hj hiz, hzg, hg]
  obtain ⟨_, es9, hbe9, hre9⟩ := id hb9
  rw [← hzi]
  cases hy4 with | mk ok4 ow4 => _
  obtain ⟨bv4, cv4, spv4, rfl, rfl, hcv4, hnv4⟩ := ow4.get (by have := ok4.n1; omega)
  simp only [nf]
  refine WP.outL (f := ckCh) (l := z.cks) i hiz (by repeat (first | exact Rm.chunk | exact Rm.here | exact Rm.nil0 | apply Rm.skip | apply Rm.skipS)) ?_; simp only [ckCh, List.cons_append, List.nil_append]
  refine WD.go (.inl rfl) (fun _ _ h => h.elim) ?_; refine WD.loudG (i := 14) zK rfl rfl rfl rfl rfl rfl ?_; refine Op.cl (slot_CAS (b1 := e0.1) (ckV_at' hj hcell) (hJ2.2 _ _ hbe) rfl hbe9 hre9.cells.1 (ckV_set' hj (some (b9, { e with tok := x.tok + 1 })))) rfl Tryz.func36 rfl rfl rfl rfl ?_; rintro v J L1 - ⟨rfl, rfl, rfl⟩
  try simp only [nf]
  refine WP.backL (f := ckCh) (l := z.cks) i hiz (z.cks[i].1, putSl z.cks[i].2 j (some (b9, { e with tok := x.tok + 1 }))) zT (by repeat (first | exact Rm.chunk | exact Rm.here | exact Rm.nil0 | apply Rm.skip | apply Rm.skipS)) ?_; refine WD.go (.inl rfl) (fun _ _ h => h.elim) ?_; refine WD.valG (i := 15) rfl rfl rfl rfl rfl rfl rfl zK rfl (Yld.not rfl rfl) ?_; refine WD.vl (i := 16) rfl (Yld.pickF rfl rfl rfl) ?_; refine WD.vl (i := 17) rfl (Yld.assign rfl rfl) ?_; refine WD.done zK ?_; refine WP.sub [(0, _), (1, _), (2, _), (3, _), (7, _), (8, _), (9, _), (13, _), (16, _), (20, _)] ?_ ⟨rfl, rfl, rfl, rfl, rfl, rfl, rfl, rfl, rfl, rfl, trivial⟩
  refine WP.next ?_; refine WP.condF rfl ?_; refine WP.skip (WP.leave (WP.next (WP.seq ?_)))
  refine WP.region [0, 1, 2, 3, 4] rfl ?_; refine WP.mv rfl rfl ?_; refine WP.vl rfl (Yld.nilCheck rfl rfl) ?_; refine WP.vl rfl (Yld.fieldAddr rfl ty_fd_100_0 rfl) ?_; refine WP.vl rfl (Yld.ld rfl ty_sc_97 rfl rfl) ?_; refine WP.loud rfl rfl ?_; refine Op.cl cell_CAS rfl Tryz.func38 rfl rfl rfl rfl ?_; rintro v J L1 - ⟨rfl, rfl, rfl⟩
  try simp only [nf]
  refine WP.nil ?_; refine WP.sub [(0, _), (1, _), (2, _), (3, _), (7, _), (8, _), (9, _), (13, _), (16, _), (20, _)] ?_ ⟨rfl, rfl, rfl, rfl, rfl, rfl, rfl, rfl, rfl, rfl, trivial⟩
  refine WP.next (WP.seq ?_)
  refine WP.region [0] rfl ?_; refine WP.mv rfl rfl ?_; refine WP.nil (WP.next (WP.ret ?_))
  refine WP.fn .ret (.inr rfl) (res1 rfl rfl) ((q, row 165 [.int .i64 (if vc = 0 then 0 else vc), .pointer (some ⟨c, 0, none⟩)]) :: (c, row 168 [.int .i64 l, .int .i64 s, .int .i64 (if vc = 0 then (IntKind.i64.wrap (sw + 1)) else sw), .int .i64 (if vc = 0 then m else (IntKind.i64.wrap (m + 1))), .int .i64 a]) :: ((t, row 100 [.pointer (some ⟨q, 0, none⟩), .int .u64 (z.tok : Int), .slice (some ⟨bv4, 0, none⟩) z.cks.length cv4, .int .i64 z.next]) :: ((bv4, row 142 (ckps z.cks ++ spv4)) :: (z.cks.set i (z.cks[i].1, putSl z.cks[i].2 j (some (b9, { e with tok := x.tok + 1 })))).flatMap ckCh))) hJ2 ?_; refine .inr (.inr ⟨hbm.1 hm, heq, rfl, z.setAt i j hiz (some (b9, { e with tok := x.tok + 1 })), ⟨hzt, hzn, ?_, b9, fun k => ?_⟩, .mk (IsTab.setAt ok4 ow4 hiz (o := some (b9, { e with tok := x.tok + 1 })) (fun e' he' => by cases he'; exact hb9))⟩)
  ·simp only [Tb.size, Tb.setAt, List.length_set] at *; omega
  ·rw [Tb.setAt_get hiz hp hj, hzg]
 ·have hm : bm = false := eq_false_of_ne_true hm
  try rw [hm]
  refine WP.vl rfl (Yld.not rfl rfl) ?_; refine WP.mv rfl rfl ?_; refine WP.nil ?_; refine WP.sub [(0, _), (1, _), (2, _), (3, _), (7, _), (8, _), (9, _), (13, _), (16, _)] ?_ ⟨rfl, rfl, rfl, rfl, rfl, rfl, rfl, rfl, rfl, trivial⟩
  refine WP.next ?_; refine WP.condT rfl ?_; refine WP.seq ?_; refine WP.region [0] rfl ?_; refine WP.mv rfl rfl ?_; refine WP.nil (WP.next (WP.ret ?_))
  refine WP.fn .ret (.inr rfl) (res1 rfl rfl) ((q, row 165 [.int .i64 vc, .pointer (some ⟨c, 0, none⟩)]) :: (c, row 168 [.int .i64 l, .int .i64 s, .int .i64 sw, .int .i64 m, .int .i64 a]) :: ((t, row 100 [.pointer (some ⟨q, 0, none⟩), .int .u64 (x.tok : Int), .slice (some ⟨bv, 0, none⟩) x.cks.length cv, .int .i64 x.next]) :: ((bv, row 142 (ckps x.cks ++ spv)) :: x.cks.flatMap ckCh))) (Imm.le_refl _) ?_; exact .inl ⟨fun h => (by have := hbm.2 h; rw [hm] at this; cases this), rfl, rfl, .mk (.mk ok ow)⟩


theorem tabT_Swap {I : Imm} {t : Nat} {x : Tb} {L : Chunks} (hT : IsT I t x L) {p : Int} {tk : Nat}  {e : Ent} {cs : List Value} (he : REnt I e cs) (hsz : e.sized) (htk : x.tok + 1 < 18446744073709551616) : Spec Tryz.prog 11 [.pointer (some ⟨t, 0, none⟩), .int .i64 p, .int .u64 (tk : Int), .agg cs.toArray] I L (fun v J L' => (x.get p = none ∧ v = .int .i64 90 ∧ I = J ∧ IsT J t x L') ∨ ∃ e0, x.get p = some e0 ∧ ((¬ e.mayP ∧ v = .int .i64 1 ∧ I = J ∧ IsT J t x L') ∨ (e.mayP ∧ e0.2.tok ≠ tk ∧ v = .int .i64 5 ∧ I = J ∧ IsT J t x L') ∨ (e.mayP ∧ e0.2.tok = tk ∧ v = .int .i64 0 ∧ ∃ x', x.Swapped x' p e ∧ IsT J t x' L'))) := by
 cases hg : x.get p with
 | none => exact (tabT_Swap0 hT he hg).mono (by rintro v J L' _ ⟨rfl, rfl, rfl⟩; exact .inl ⟨rfl, rfl, rfl, hT⟩)
 | some e0 =>
  obtain ⟨i, j, h1, h2, h3⟩ := Tb.split (Tb.in_of_get hg)
  by_cases ht : e0.2.tok = tk
  ·exact (tabT_Swap1b hT h1 h2 h3 hg he hsz htk ht).mono (fun v J L' _ h => .inr ⟨e0, rfl, h⟩)
  ·exact (tabT_Swap1a hT h1 h2 h3 hg he hsz htk ht).mono (fun v J L' _ h => .inr ⟨e0, rfl, h⟩)
end Go.Hp
