import Derived.Test.YtdobkjbpehdokaaTabH
set_option linter.unusedVariables false
set_option linter.unusedSimpArgs false
namespace Go.Hp
open Go Go.Proofs
theorem tabT_Alloc {I : Imm} {t : Nat} {x : Tb} {L : Chunks} (hT : IsT I t x L) (htk : x.tok + 1 < 18446744073709551616) : Spec Try.prog 29 [.pointer (some ⟨t, 0, none⟩)] I L (fun v J L' => ∃ p, 1 ≤ p ∧ (∀ k, 1 ≤ k → k < p → (x.get k).isSome = true) ∧ x.get p = none ∧ ((512 < p ∧ v = .tuple #[.int .i64 0, .int .i64 91] ∧ I = J ∧ IsT J t x L') ∨ (p ≤ 512 ∧ v = .tuple #[.int .i64 p, .int .i64 0] ∧ ∃ x', x.Used x' p zeroEnt ∧ IsT J t x' L'))) := by
  cases hT with | @mk q c vc l s sw m a Lt hd =>
  refine Spec.of Try.func29 rfl Try.ntmps29 (Nat.le_of_ble_eq_true rfl) (fun F => ?_)
  try simp only [List.cons_append, List.nil_append, List.append_assoc]
  dsimp only [argsEnv]
  refine WP.seq ?_
  refine WP.region [0, 1] rfl ?_
  refine WP.val rfl rfl rfl rfl (Yld.assign rfl rfl) ?_
  refine WP.val rfl rfl rfl rfl (Yld.assign rfl rfl) ?_
  refine WP.nil ?_
  refine WP.next ?_
  refine WP.seq ?_
  refine WP.region [0] rfl ?_
  refine WP.val rfl rfl rfl rfl (Yld.assign rfl rfl) ?_
  refine WP.nil ?_
  refine WP.next ?_
  refine WP.seq ?_
  refine WP.block ?_
  refine WP.loop (X := Int) (fun p : Int => [(0, .pointer (some ⟨t, 0, none⟩)), (4, .int .i64 p)]) (fun _ => I) (fun _ => (q, row 85 [.int .i64 vc, .pointer (some ⟨c, 0, none⟩)]) :: (c, row 83 [.int .i64 l, .int .i64 s, .int .i64 sw, .int .i64 m, .int .i64 a]) :: (Lt ++ F)) (fun p : Int => 1 ≤ p ∧ p ≤ 513 ∧ ∀ k, 1 ≤ k → k < p → (x.get k).isSome = true) (fun p : Int => (513 - p).toNat) 1 ⟨Int.le_refl _, by omega, fun k h1 h2 => by omega⟩ ⟨rfl, rfl, trivial⟩ rfl (by (try dsimp only); repeat (first | exact Rm.chunk | exact Rm.here | exact Rm.nil0 | apply Rm.skip | apply Rm.skipS | apply PX.cons | (apply PX.done; (repeat (first | exact Leave.done | apply Leave.drop | apply Leave.dropS)); done) | apply PX.app)) ?_
  rintro p ⟨hp1, hp2, hall⟩
  try dsimp only
  try simp only [List.cons_append, List.nil_append, List.append_assoc]
  refine WP.seq ?_
  refine WP.seq ?_
  refine WP.region [0, 1, 2, 3] rfl ?_
  refine WP.val rfl rfl rfl rfl (Yld.move rfl rfl) ?_
  refine WP.val rfl rfl rfl rfl (Yld.move rfl rfl) ?_
  refine WP.loud rfl rfl ?_
  refine Op.call (tab_find hd) rfl Try.func45 rfl rfl rfl rfl (by repeat (first | exact Take.nil | with_reducible apply Take.cons | apply Take.app | exact Rm.chunk | exact Rm.here | exact Rm.nil0 | apply Rm.skip | apply Rm.skipS | (focus (apply Take.all; (repeat (first | exact Rm.chunk | exact Rm.here | exact Rm.nil0 | apply Rm.skip | apply Rm.skipS)); done)) | apply Take.cons)) ?_
  rintro v J Lt hJ ⟨rfl, rfl, rfl⟩
  clear hJ; try simp only [List.cons_append, List.nil_append, List.append_assoc]
  refine WP.val rfl rfl rfl rfl (Yld.neqNil rfl ty_pt_104 rfl rfl) ?_
  by_cases hg : (!(slotP (x.get p)).isNone) = true
  · rw [hg]
    refine WP.nil ?_
    refine WP.sub [(0, _), (4, _), (8, _)] ?_ ⟨rfl, rfl, rfl, trivial⟩
    refine WP.next ?_
    refine WP.condT rfl ?_
    refine WP.skip ?_
    refine WP.next ?_
    refine WP.block ?_
    have hsome : (x.get p).isSome = true := by rw [slotP_none] at hg; cases hh : x.get p <;> simp_all
    have hle : p ≤ 512 := by obtain ⟨e, he⟩ := Option.isSome_iff_exists.1 hsome; have := Tb.in_of_get he; have := hd.size_le; omega
    refine WP.region [0, 1, 2] rfl ?_
    refine WP.val rfl rfl rfl rfl (Yld.move rfl rfl) ?_
    refine WP.val rfl rfl rfl rfl (Yld.add64 rfl rfl rfl (by omega)) ?_
    refine WP.val rfl rfl rfl rfl (Yld.assign rfl rfl) ?_
    refine WP.nil ?_
    refine WP.sub [(0, _), (4, _), (8, _)] ?_ ⟨rfl, rfl, rfl, trivial⟩
    refine WP.leave ?_
    exact WP.again (p + 1) ⟨by omega, by omega, fun k h1 h2 => by rcases Int.lt_or_eq_of_le (show k ≤ p by omega) with h | rfl; exact hall k h1 h; exact hsome⟩ (show (513 - (p + 1)).toNat < (513 - p).toNat by omega) ⟨rfl, rfl, trivial⟩ rfl (by (try dsimp only); repeat (first | exact Rm.chunk | exact Rm.here | exact Rm.nil0 | apply Rm.skip | apply Rm.skipS | apply PX.cons | (apply PX.done; (repeat (first | exact Leave.done | apply Leave.drop | apply Leave.dropS)); done) | apply PX.app))
  · have hg : (!(slotP (x.get p)).isNone) = false := by simpa using hg
    rw [hg]
    refine WP.nil ?_
    refine WP.sub [(0, _), (4, _), (8, _)] ?_ ⟨rfl, rfl, rfl, trivial⟩
    refine WP.next ?_
    refine WP.condF rfl ?_
    refine WP.exit ?_
    refine WP.thenE ?_
    refine WP.thenE ?_
    refine WP.hit ?_
    refine WP.next ?_
    refine WP.seq ?_
    refine WP.seq ?_
    have hnone : x.get p = none := by rw [slotP_none] at hg; cases hh : x.get p <;> simp_all
    refine WP.region [0, 1] rfl ?_
    refine WP.val rfl rfl rfl rfl (Yld.move rfl rfl) ?_
    refine WP.split rfl rfl rfl rfl (Yld.gtr rfl rfl rfl) (fun h512 => ?_) (fun h512 => ?_)
    · refine WP.nil ?_
      refine WP.sub [(0, _), (4, _), (8, _), (12, _)] ?_ ⟨rfl, rfl, rfl, rfl, trivial⟩
      refine WP.next ?_
      refine WP.condT rfl ?_
      refine WP.seq ?_
      refine WP.region [0, 1] rfl ?_
      refine WP.val rfl rfl rfl rfl (Yld.assign rfl rfl) ?_
      refine WP.val rfl rfl rfl rfl (Yld.assign rfl rfl) ?_
      refine WP.nil ?_
      refine WP.next ?_
      refine WP.ret ?_
      refine WP.fin .ret (.inr rfl) (res2 rfl rfl rfl) ((q, row 85 [.int .i64 vc, .pointer (some ⟨c, 0, none⟩)]) :: (c, row 83 [.int .i64 l, .int .i64 s, .int .i64 sw, .int .i64 m, .int .i64 a]) :: Lt) (by repeat (first | exact Take.nil | with_reducible apply Take.cons | apply Take.app | exact Rm.chunk | exact Rm.here | exact Rm.nil0 | apply Rm.skip | apply Rm.skipS | (focus (apply Take.all; (repeat (first | exact Rm.chunk | exact Rm.here | exact Rm.nil0 | apply Rm.skip | apply Rm.skipS)); done)) | apply Take.cons)) (by repeat (first | exact Leave.done | apply Leave.drop | apply Leave.dropS)) (Imm.le_refl _) ?_
      exact ⟨p, hp1, hall, hnone, .inl ⟨by omega, rfl, rfl, .mk hd⟩⟩
    · refine WP.nil ?_
      refine WP.sub [(0, _), (4, _), (8, _), (12, _)] ?_ ⟨rfl, rfl, rfl, rfl, trivial⟩
      refine WP.next ?_
      refine WP.condF rfl ?_
      refine WP.skip ?_
      refine WP.next ?_
      refine WP.seq ?_
      refine WP.region [0, 1, 2, 3] rfl ?_
      refine WP.val rfl rfl rfl rfl (Yld.move rfl rfl) ?_
      refine WP.val rfl rfl rfl rfl (Yld.move rfl rfl) ?_
      refine WP.val rfl rfl rfl rfl (Yld.buildS (pl := []) rfl ty_zr_63 ty_zd_63 (by kernel_rfl) rfl (vs := []) rfl (segs := []) rfl rfl (by repeat (first | exact SetSeg.nil | apply SetSeg.one | exact SetAt.zero | apply SetAt.succ))) ?_
      refine WP.loud rfl rfl ?_
      refine Op.call (tab_use hd (zero_rent I) zero_sized htk ⟨hp1, by omega⟩) rfl Try.func46 rfl rfl rfl rfl (by repeat (first | exact Take.nil | with_reducible apply Take.cons | apply Take.app | exact Rm.chunk | exact Rm.here | exact Rm.nil0 | apply Rm.skip | apply Rm.skipS | (focus (apply Take.all; (repeat (first | exact Rm.chunk | exact Rm.here | exact Rm.nil0 | apply Rm.skip | apply Rm.skipS)); done)) | apply Take.cons)) ?_
      rintro v J2 L9 hJ2 ⟨x2, rfl, hu, hd2⟩
      try simp only [List.cons_append, List.nil_append, List.append_assoc]
      refine WP.nil ?_
      refine WP.sub [(0, _), (4, _), (8, _), (12, _)] ?_ ⟨rfl, rfl, rfl, rfl, trivial⟩
      refine WP.next ?_
      refine WP.seq ?_
      refine WP.region [0, 1, 2] rfl ?_
      refine WP.val rfl rfl rfl rfl (Yld.move rfl rfl) ?_
      refine WP.val rfl rfl rfl rfl (Yld.assign rfl rfl) ?_
      refine WP.val rfl rfl rfl rfl (Yld.assign rfl rfl) ?_
      refine WP.nil ?_
      refine WP.sub [(0, _), (2, _), (3, _), (4, _), (8, _), (12, _)] ?_ ⟨rfl, rfl, rfl, rfl, rfl, rfl, trivial⟩
      refine WP.next ?_
      refine WP.ret ?_
      refine WP.fin .ret (.inr rfl) (res2 rfl rfl rfl) ((q, row 85 [.int .i64 vc, .pointer (some ⟨c, 0, none⟩)]) :: (c, row 83 [.int .i64 l, .int .i64 s, .int .i64 sw, .int .i64 m, .int .i64 a]) :: L9) (by repeat (first | exact Take.nil | with_reducible apply Take.cons | apply Take.app | exact Rm.chunk | exact Rm.here | exact Rm.nil0 | apply Rm.skip | apply Rm.skipS | (focus (apply Take.all; (repeat (first | exact Rm.chunk | exact Rm.here | exact Rm.nil0 | apply Rm.skip | apply Rm.skipS)); done)) | apply Take.cons)) (by repeat (first | exact Leave.done | apply Leave.drop | apply Leave.dropS)) hJ2 ?_
      exact ⟨p, hp1, hall, hnone, .inr ⟨by omega, rfl, x2, hu, .mk hd2⟩⟩

theorem tabT_Free0 {I : Imm} {t : Nat} {x : Tb} {L : Chunks} (hT : IsT I t x L) {p : Int} (hg : x.get p = none) : Spec Try.prog 32 [.pointer (some ⟨t, 0, none⟩), .int .i64 p] I L (fun v J L' => v = .int .i64 90 ∧ I = J ∧ L' = L) := by
  cases hT with | @mk q c vc l s sw m a Lt hd =>
  refine Spec.of Try.func32 rfl Try.ntmps32 (Nat.le_of_ble_eq_true rfl) (fun F => ?_)
  try simp only [List.cons_append, List.nil_append, List.append_assoc]
  dsimp only [argsEnv]
  refine WP.seq ?_
  refine WP.region [0] rfl ?_
  refine WP.val rfl rfl rfl rfl (Yld.assign rfl rfl) ?_
  refine WP.nil ?_
  refine WP.next ?_
  refine WP.seq ?_
  refine WP.seq ?_
  refine WP.region [0, 1, 2, 3] rfl ?_
  refine WP.val rfl rfl rfl rfl (Yld.move rfl rfl) ?_
  refine WP.val rfl rfl rfl rfl (Yld.move rfl rfl) ?_
  refine WP.loud rfl rfl ?_
  refine Op.call (tab_find hd) rfl Try.func45 rfl rfl rfl rfl (by repeat (first | exact Take.nil | with_reducible apply Take.cons | apply Take.app | exact Rm.chunk | exact Rm.here | exact Rm.nil0 | apply Rm.skip | apply Rm.skipS | (focus (apply Take.all; (repeat (first | exact Rm.chunk | exact Rm.here | exact Rm.nil0 | apply Rm.skip | apply Rm.skipS)); done)) | apply Take.cons)) ?_
  rintro v J Lt hJ ⟨rfl, rfl, rfl⟩
  clear hJ; try simp only [List.cons_append, List.nil_append, List.append_assoc]
  rw [hg]
  refine WP.val rfl rfl rfl rfl (Yld.eqlNil rfl ty_pt_104 rfl rfl) ?_
  refine WP.nil ?_
  refine WP.sub [(0, _), (1, _), (4, _), (8, _)] ?_ ⟨rfl, rfl, rfl, rfl, trivial⟩
  refine WP.next ?_
  refine WP.condT rfl ?_
  refine WP.seq ?_
  refine WP.region [0] rfl ?_
  refine WP.val rfl rfl rfl rfl (Yld.assign rfl rfl) ?_
  refine WP.nil ?_
  refine WP.next ?_
  refine WP.ret ?_
  refine WP.fin .ret (.inr rfl) (res1 rfl rfl) ((q, row 85 [.int .i64 vc, .pointer (some ⟨c, 0, none⟩)]) :: (c, row 83 [.int .i64 l, .int .i64 s, .int .i64 sw, .int .i64 m, .int .i64 a]) :: Lt) (by repeat (first | exact Take.nil | with_reducible apply Take.cons | apply Take.app | exact Rm.chunk | exact Rm.here | exact Rm.nil0 | apply Rm.skip | apply Rm.skipS | (focus (apply Take.all; (repeat (first | exact Rm.chunk | exact Rm.here | exact Rm.nil0 | apply Rm.skip | apply Rm.skipS)); done)) | apply Take.cons)) (by repeat (first | exact Leave.done | apply Leave.drop | apply Leave.dropS)) (Imm.le_refl _) ?_
  exact ⟨rfl, rfl, rfl⟩

theorem tabT_Free1 {I : Imm} {t : Nat} {x : Tb} {L : Chunks} (hT : IsT I t x L) {p : Int} {i j : Nat} {e : Nat × Ent} (hp : p = (i : Int) * 16 + j + 1) (hj : j < 16) (hi : i < x.cks.length) (hg : x.get p = some e) : Spec Try.prog 32 [.pointer (some ⟨t, 0, none⟩), .int .i64 p] I L (fun v J L' => v = .int .i64 0 ∧ I = J ∧ IsT J t (x.setAt i j hi none) L') := by
  cases hT with | @mk q c vc l s sw m a Lt hd =>
  cases hd with | mk ok ow =>
  obtain ⟨bv, cv, spv, rfl, rfl, hcv, hnv⟩ := ow.get (by have := ok.n1; omega)
  have hn1 := ok.n1
  have hn2 := ok.n2
  refine Spec.of Try.func32 rfl Try.ntmps32 (Nat.le_of_ble_eq_true rfl) (fun F => ?_)
  try simp only [List.cons_append, List.nil_append, List.append_assoc]
  dsimp only [argsEnv]
  refine WP.seq ?_
  refine WP.region [0] rfl ?_
  refine WP.val rfl rfl rfl rfl (Yld.assign rfl rfl) ?_
  refine WP.nil ?_
  refine WP.next ?_
  refine WP.seq ?_
  refine WP.seq ?_
  refine WP.region [0, 1, 2, 3] rfl ?_
  refine WP.val rfl rfl rfl rfl (Yld.move rfl rfl) ?_
  refine WP.val rfl rfl rfl rfl (Yld.move rfl rfl) ?_
  refine WP.loud rfl rfl ?_
  refine Op.call (tab_find (IsTab.mk ok ow)) rfl Try.func45 rfl rfl rfl rfl (by repeat (first | exact Take.nil | with_reducible apply Take.cons | apply Take.app | exact Rm.chunk | exact Rm.here | exact Rm.nil0 | apply Rm.skip | apply Rm.skipS | (focus (apply Take.all; (repeat (first | exact Rm.chunk | exact Rm.here | exact Rm.nil0 | apply Rm.skip | apply Rm.skipS)); done)) | apply Take.cons)) ?_
  rintro v J L1 hJ ⟨rfl, rfl, rfl⟩
  clear hJ; try simp only [List.cons_append, List.nil_append, List.append_assoc]
  rw [hg]
  refine WP.val rfl rfl rfl rfl (Yld.eqlNil rfl ty_pt_104 rfl rfl) ?_
  refine WP.nil ?_
  refine WP.sub [(0, _), (1, _), (4, _), (8, _)] ?_ ⟨rfl, rfl, rfl, rfl, trivial⟩
  refine WP.next ?_
  refine WP.condF rfl ?_
  refine WP.skip ?_
  refine WP.next ?_
  refine WP.seq ?_
  refine WP.region [0, 1, 2, 3] rfl ?_
  refine WP.val rfl rfl rfl rfl (Yld.move rfl rfl) ?_
  refine WP.val rfl rfl rfl rfl (Yld.move rfl rfl) ?_
  refine WP.loud rfl rfl ?_
  refine Op.call (tab_at1 (IsTab.mk ok ow) hp hj hi) rfl Try.func49 rfl rfl rfl rfl (by repeat (first | exact Take.nil | with_reducible apply Take.cons | apply Take.app | exact Rm.chunk | exact Rm.here | exact Rm.nil0 | apply Rm.skip | apply Rm.skipS | (focus (apply Take.all; (repeat (first | exact Rm.chunk | exact Rm.here | exact Rm.nil0 | apply Rm.skip | apply Rm.skipS)); done)) | apply Take.cons)) ?_
  rintro v J L1 hJ ⟨rfl, rfl, rfl⟩
  clear hJ; try simp only [List.cons_append, List.nil_append, List.append_assoc]
  refine WP.outL (f := ckCh) (l := x.cks) i hi (by repeat (first | exact Rm.chunk | exact Rm.here | exact Rm.nil0 | apply Rm.skip | apply Rm.skipS)) ?_
  simp only [ckCh, List.cons_append, List.nil_append]
  refine WP.loud rfl rfl ?_
  refine Op.call (slot_Store (o := none) (fun e' he' => by cases he') (by simpa using ckV_set (f := x.cks[i].2) hj none)) rfl Try.func52 rfl rfl rfl rfl (by repeat (first | exact Take.nil | with_reducible apply Take.cons | apply Take.app | exact Rm.chunk | exact Rm.here | exact Rm.nil0 | apply Rm.skip | apply Rm.skipS | (focus (apply Take.all; (repeat (first | exact Rm.chunk | exact Rm.here | exact Rm.nil0 | apply Rm.skip | apply Rm.skipS)); done)) | apply Take.cons)) ?_
  rintro v J L1 hJ ⟨rfl, rfl, rfl⟩
  clear hJ; try simp only [List.cons_append, List.nil_append, List.append_assoc]
  refine WP.backL (f := ckCh) (l := x.cks) i hi (x.cks[i].1, putSl x.cks[i].2 j none) (by repeat (first | exact Take.nil | with_reducible apply Take.cons | apply Take.app | exact Rm.chunk | exact Rm.here | exact Rm.nil0 | apply Rm.skip | apply Rm.skipS | (focus (apply Take.all; (repeat (first | exact Rm.chunk | exact Rm.here | exact Rm.nil0 | apply Rm.skip | apply Rm.skipS)); done)) | apply Take.cons)) (by repeat (first | exact Rm.chunk | exact Rm.here | exact Rm.nil0 | apply Rm.skip | apply Rm.skipS)) ?_
  refine WP.nil ?_
  refine WP.sub [(0, _), (1, _), (4, _), (8, _)] ?_ ⟨rfl, rfl, rfl, rfl, trivial⟩
  refine WP.next ?_
  refine WP.seq ?_
  refine WP.region [0] rfl ?_
  refine WP.val rfl rfl rfl rfl (Yld.assign rfl rfl) ?_
  refine WP.nil ?_
  refine WP.next ?_
  refine WP.ret ?_
  refine WP.fin .ret (.inr rfl) (res1 rfl rfl) ((q, row 85 [.int .i64 vc, .pointer (some ⟨c, 0, none⟩)]) :: (c, row 83 [.int .i64 l, .int .i64 s, .int .i64 sw, .int .i64 m, .int .i64 a]) :: ((t, row 113 [.pointer (some ⟨q, 0, none⟩), .int .u64 (x.tok : Int), .slice (some ⟨bv, 0, none⟩) x.cks.length cv, .int .i64 x.next]) :: ((bv, row 103 (ckps x.cks ++ spv)) :: (x.cks.set i (x.cks[i].1, putSl x.cks[i].2 j none)).flatMap ckCh))) (by repeat (first | exact Take.nil | with_reducible apply Take.cons | apply Take.app | exact Rm.chunk | exact Rm.here | exact Rm.nil0 | apply Rm.skip | apply Rm.skipS | (focus (apply Take.all; (repeat (first | exact Rm.chunk | exact Rm.here | exact Rm.nil0 | apply Rm.skip | apply Rm.skipS)); done)) | apply Take.cons)) (by repeat (first | exact Leave.done | apply Leave.drop | apply Leave.dropS)) (Imm.le_refl _) ?_
  exact ⟨rfl, rfl, .mk (IsTab.setAt ok ow hi (o := none) (fun e he => by cases he))⟩


theorem tabT_Free {I : Imm} {t : Nat} {x : Tb} {L : Chunks} (hT : IsT I t x L) {p : Int} : Spec Try.prog 32 [.pointer (some ⟨t, 0, none⟩), .int .i64 p] I L (fun v J L' => ∃ x', v = .int .i64 (if (x.get p).isSome then 0 else 90) ∧ I = J ∧ IsT J t x' L' ∧ x.Freed x' p) := by
  cases hg : x.get p with
  | none => exact (tabT_Free0 hT hg).mono (by rintro v J L' _ ⟨rfl, rfl, rfl⟩; exact ⟨x, rfl, rfl, hT, rfl, rfl, rfl, fun k => by by_cases h : k = p; (rw [if_pos h, h, hg]); (rw [if_neg h])⟩)
  | some e =>
    obtain ⟨i, j, h1, h2, h3⟩ := Tb.split (Tb.in_of_get hg)
    exact (tabT_Free1 hT h1 h2 h3 hg).mono (by rintro v J L' _ ⟨rfl, rfl, h⟩; exact ⟨_, rfl, rfl, h, rfl, rfl, by simp [Tb.size, Tb.setAt], fun k => Tb.setAt_get h3 h1 h2 none k⟩)

end Go.Hp
