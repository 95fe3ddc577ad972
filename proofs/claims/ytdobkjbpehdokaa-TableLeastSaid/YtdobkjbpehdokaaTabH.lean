import Derived.Test.YtdobkjbpehdokaaTabG
set_option linter.unusedVariables false
set_option linter.unusedSimpArgs false
namespace Go.Hp
open Go Go.Proofs

inductive IsT (J : Imm) (t : Nat) (x : Tb) : Chunks → Prop
  | mk {q c : Nat} {vc l s sw m a : Int} {Lt : Chunks} (h : IsTab J t q x Lt) : IsT J t x ((q, row 85 [.int .i64 vc, .pointer (some ⟨c, 0, none⟩)]) :: (c, row 83 [.int .i64 l, .int .i64 s, .int .i64 sw, .int .i64 m, .int .i64 a]) :: Lt)
theorem IsT.mono {I J : Imm} {t : Nat} {x : Tb} {L : Chunks} (h : IsT I t x L) (hJ : I.le J) : IsT J t x L := by cases h with | mk h => exact .mk (h.mono hJ)
theorem IsTab.entOk {J : Imm} {t q : Nat} {x : Tb} {L : Chunks} (h : IsTab J t q x L) {p : Int} {e : Nat × Ent} (he : x.get p = some e) : entOk J e := by
  cases h with | mk ok ow =>
  obtain ⟨i, j, h1, h2, h3⟩ := Tb.split (Tb.in_of_get he)
  rw [Tb.get_at h1 h2 h3] at he
  exact ok.ent _ (List.getElem_mem h3) _ _ he
theorem IsTab.size_le {J : Imm} {t q : Nat} {x : Tb} {L : Chunks} (h : IsTab J t q x L) : 16 ≤ x.size ∧ x.size ≤ 512 ∧ 1 ≤ x.next ∧ x.next ≤ 513 := by
  cases h with | mk ok ow => have := ok.n1; have := ok.n2; have := ok.nx; unfold Tb.size; omega
theorem IsT.size_le {J : Imm} {t : Nat} {x : Tb} {L : Chunks} (h : IsT J t x L) : 16 ≤ x.size ∧ x.size ≤ 512 ∧ 1 ≤ x.next ∧ x.next ≤ 513 := by cases h with | mk h => exact h.size_le
theorem zero_rent (I : Imm) : REnt I zeroEnt (entV zeroEnt (.slice none 0 0) (.slice none 0 0)) := ⟨_, _, [], rfl, ⟨none, 0, rfl, Nat.le_refl _, rfl, .inl rfl⟩, ⟨rfl, fun i x hx => by simp at hx⟩, ⟨none, 0, rfl, Nat.le_refl _, rfl, .inl rfl⟩⟩
theorem zero_sized : zeroEnt.sized := ⟨Nat.zero_le _, fun x hx => (by cases hx), Nat.zero_le _⟩
theorem zero_may : zeroEnt.mayP := ⟨Nat.zero_le _, by decide, by decide, by decide, by decide, fun w hw => (by cases hw), fun i x h => by cases h⟩
structure Tb.Freed (x x' : Tb) (p : Int) : Prop where
  tok : x'.tok = x.tok
  next : x'.next = x.next
  size : x'.size = x.size
  get : ∀ k, x'.get k = if k = p then none else x.get k
structure Tb.Swapped (x x' : Tb) (p : Int) (e : Ent) : Prop where
  tok : x'.tok = x.tok + 1
  next : x'.next = x.next
  size : x'.size = x.size
  get : ∃ b, ∀ k, x'.get k = if k = p then some (b, { e with tok := x.tok + 1 }) else x.get k
theorem tabT_Size {I : Imm} {t : Nat} {x : Tb} {L : Chunks} (hT : IsT I t x L) : Spec Try.prog 35 [.pointer (some ⟨t, 0, none⟩)] I L (fun v J L' => v = .int .i64 x.size ∧ I = J ∧ L' = L) := by
  cases hT with | @mk q c vc l s sw m a Lt hd =>
  cases hd with | mk ok ow =>
  obtain ⟨bv, cv, spv, rfl, rfl, hcv, hnv⟩ := ow.get (by have := ok.n1; omega)
  have hn1 := ok.n1
  have hn2 := ok.n2
  refine Spec.of Try.func35 rfl Try.ntmps35 (Nat.le_of_ble_eq_true rfl) (fun F => ?_)
  try simp only [List.cons_append, List.nil_append, List.append_assoc]
  dsimp only [argsEnv]
  refine WP.seq ?_
  refine WP.region [0] rfl ?_
  refine WP.val rfl rfl rfl rfl (Yld.assign rfl rfl) ?_
  refine WP.nil ?_
  refine WP.next ?_
  refine WP.seq ?_
  refine WP.region [0, 1, 2, 3, 4, 5, 6] rfl ?_
  refine WP.val rfl rfl rfl rfl (Yld.move rfl rfl) ?_
  refine WP.val rfl rfl rfl rfl (Yld.nilCheck rfl rfl) ?_
  refine WP.val rfl rfl rfl rfl (Yld.fieldAddr rfl ty_fd_113_2 rfl) ?_
  refine WP.val rfl rfl rfl rfl (Yld.load rfl ty_sc_111 rfl (by repeat (first | exact There.h | exact There.i (by assumption) | apply There.t | apply There.s)) rfl) ?_
  refine WP.val rfl rfl rfl rfl (Yld.len rfl ty_sl_111 rfl) ?_
  refine WP.val rfl rfl rfl rfl (Yld.mul64 rfl rfl rfl (by omega)) ?_
  refine WP.val rfl rfl rfl rfl (Yld.assign rfl rfl) ?_
  refine WP.nil ?_
  refine WP.sub [(0, _), (2, _)] ?_ ⟨rfl, rfl, trivial⟩
  refine WP.next ?_
  refine WP.ret ?_
  refine WP.fin .ret (.inr rfl) (res1 rfl rfl) ((q, row 85 [.int .i64 vc, .pointer (some ⟨c, 0, none⟩)]) :: (c, row 83 [.int .i64 l, .int .i64 s, .int .i64 sw, .int .i64 m, .int .i64 a]) :: ((t, row 113 [.pointer (some ⟨q, 0, none⟩), .int .u64 (x.tok : Int), .slice (some ⟨bv, 0, none⟩) x.cks.length cv, .int .i64 x.next]) :: ((bv, row 103 (ckps x.cks ++ spv)) :: x.cks.flatMap ckCh))) (by repeat (first | exact Take.nil | with_reducible apply Take.cons | apply Take.app | exact Rm.chunk | exact Rm.here | exact Rm.nil0 | apply Rm.skip | apply Rm.skipS | (focus (apply Take.all; (repeat (first | exact Rm.chunk | exact Rm.here | exact Rm.nil0 | apply Rm.skip | apply Rm.skipS)); done)) | apply Take.cons)) (by repeat (first | exact Leave.done | apply Leave.drop | apply Leave.dropS)) (Imm.le_refl _) ?_
  exact ⟨rfl, rfl, rfl⟩

theorem tabT_Next {I : Imm} {t : Nat} {x : Tb} {L : Chunks} (hT : IsT I t x L) : Spec Try.prog 36 [.pointer (some ⟨t, 0, none⟩)] I L (fun v J L' => v = .int .i64 x.next ∧ I = J ∧ L' = L) := by
  cases hT with | @mk q c vc l s sw m a Lt hd =>
  cases hd with | mk ok ow =>
  obtain ⟨bv, cv, spv, rfl, rfl, hcv, hnv⟩ := ow.get (by have := ok.n1; omega)
  have hn1 := ok.n1
  have hn2 := ok.n2
  refine Spec.of Try.func36 rfl Try.ntmps36 (Nat.le_of_ble_eq_true rfl) (fun F => ?_)
  try simp only [List.cons_append, List.nil_append, List.append_assoc]
  dsimp only [argsEnv]
  refine WP.seq ?_
  refine WP.region [0] rfl ?_
  refine WP.val rfl rfl rfl rfl (Yld.assign rfl rfl) ?_
  refine WP.nil ?_
  refine WP.next ?_
  refine WP.seq ?_
  refine WP.region [0, 1, 2, 3, 4] rfl ?_
  refine WP.val rfl rfl rfl rfl (Yld.move rfl rfl) ?_
  refine WP.val rfl rfl rfl rfl (Yld.nilCheck rfl rfl) ?_
  refine WP.val rfl rfl rfl rfl (Yld.fieldAddr rfl ty_fd_113_3 rfl) ?_
  refine WP.val rfl rfl rfl rfl (Yld.load rfl ty_sc_3 rfl (by repeat (first | exact There.h | exact There.i (by assumption) | apply There.t | apply There.s)) rfl) ?_
  refine WP.val rfl rfl rfl rfl (Yld.assign rfl rfl) ?_
  refine WP.nil ?_
  refine WP.sub [(0, _), (2, _)] ?_ ⟨rfl, rfl, trivial⟩
  refine WP.next ?_
  refine WP.ret ?_
  refine WP.fin .ret (.inr rfl) (res1 rfl rfl) ((q, row 85 [.int .i64 vc, .pointer (some ⟨c, 0, none⟩)]) :: (c, row 83 [.int .i64 l, .int .i64 s, .int .i64 sw, .int .i64 m, .int .i64 a]) :: ((t, row 113 [.pointer (some ⟨q, 0, none⟩), .int .u64 (x.tok : Int), .slice (some ⟨bv, 0, none⟩) x.cks.length cv, .int .i64 x.next]) :: ((bv, row 103 (ckps x.cks ++ spv)) :: x.cks.flatMap ckCh))) (by repeat (first | exact Take.nil | with_reducible apply Take.cons | apply Take.app | exact Rm.chunk | exact Rm.here | exact Rm.nil0 | apply Rm.skip | apply Rm.skipS | (focus (apply Take.all; (repeat (first | exact Rm.chunk | exact Rm.here | exact Rm.nil0 | apply Rm.skip | apply Rm.skipS)); done)) | apply Take.cons)) (by repeat (first | exact Leave.done | apply Leave.drop | apply Leave.dropS)) (Imm.le_refl _) ?_
  exact ⟨rfl, rfl, rfl⟩

theorem cell_NewInt_nil {I : Imm} {v : Int} : Spec Try.prog 13 [.pointer none, .int .i64 v] I [] (fun v' J L => ∃ x c, v' = .pointer (some ⟨x, 0, none⟩) ∧ I = J ∧ L = [(x, row 85 [.int .i64 v, .pointer (some ⟨c, 0, none⟩)]), (c, row 83 [.int .i64 0, .int .i64 0, .int .i64 0, .int .i64 0, .int .i64 0])]) := by
  refine Spec.of Try.func13 rfl Try.ntmps13 (Nat.le_of_ble_eq_true rfl) (fun F => ?_)
  try simp only [List.cons_append, List.nil_append, List.append_assoc]
  dsimp only [argsEnv]
  refine WP.seq ?_
  refine WP.region [0] rfl ?_
  refine WP.val rfl rfl rfl rfl (Yld.assign rfl rfl) ?_
  refine WP.nil ?_
  refine WP.next ?_
  refine WP.seq ?_
  refine WP.seq ?_
  refine WP.region [0, 1] rfl ?_
  refine WP.val rfl rfl rfl rfl (Yld.move rfl rfl) ?_
  refine WP.val rfl rfl rfl rfl (Yld.eqlNil rfl ty_pt_25 rfl rfl) ?_
  refine WP.nil ?_
  refine WP.sub [(0, _), (1, _), (4, _), (7, _)] ?_ ⟨rfl, rfl, rfl, rfl, trivial⟩
  refine WP.next ?_
  refine WP.condT rfl ?_
  refine WP.region [0, 1] rfl ?_
  refine WP.loud rfl rfl ?_
  refine Op.call (cell_NewCount _) rfl Try.func12 rfl rfl rfl rfl (by repeat (first | exact Take.nil | with_reducible apply Take.cons | apply Take.app | exact Rm.chunk | exact Rm.here | exact Rm.nil0 | apply Rm.skip | apply Rm.skipS | (focus (apply Take.all; (repeat (first | exact Rm.chunk | exact Rm.here | exact Rm.nil0 | apply Rm.skip | apply Rm.skipS)); done)) | apply Take.cons)) ?_
  rintro v J L1 hJ ⟨c, rfl, rfl, rfl⟩
  clear hJ; try simp only [List.cons_append, List.nil_append, List.append_assoc]
  refine WP.val rfl rfl rfl rfl (Yld.assign rfl rfl) ?_
  refine WP.nil ?_
  refine WP.sub [(0, _), (1, _), (4, _), (7, _)] ?_ ⟨rfl, rfl, rfl, rfl, trivial⟩
  refine WP.next ?_
  refine WP.seq ?_
  refine WP.region [0, 1, 2, 3] rfl ?_
  refine WP.val rfl rfl rfl rfl (Yld.move rfl rfl) ?_
  refine WP.val rfl rfl rfl rfl (Yld.buildS (pl := [(1, 1, 1)]) rfl ty_zr_85 ty_zd_85 (by kernel_rfl) rfl (vs := [_]) rfl (segs := [(1, [_])]) rfl rfl (by repeat (first | exact SetSeg.nil | apply SetSeg.one | exact SetAt.zero | apply SetAt.succ))) ?_
  refine WP.loud rfl rfl ?_
  refine Op.box rfl rfl rfl rfl rfl (fun b11 => ?_)
  refine WP.val rfl rfl rfl rfl (Yld.assign rfl rfl) ?_
  refine WP.nil ?_
  refine WP.sub [(0, _), (1, _), (4, _), (5, _), (7, _)] ?_ ⟨rfl, rfl, rfl, rfl, rfl, trivial⟩
  refine WP.next ?_
  refine WP.seq ?_
  refine WP.region [0, 1, 2, 3, 4] rfl ?_
  refine WP.val rfl rfl rfl rfl (Yld.move rfl rfl) ?_
  refine WP.val rfl rfl rfl rfl (Yld.nilCheck rfl rfl) ?_
  refine WP.val rfl rfl rfl rfl (Yld.fieldAddr rfl ty_fd_85_0 rfl) ?_
  refine WP.val rfl rfl rfl rfl (Yld.move rfl rfl) ?_
  refine WP.loud rfl rfl ?_
  refine' Op.call (atStore ?hs) rfl Try.func37 rfl rfl rfl rfl (by repeat (first | exact Take.nil | with_reducible apply Take.cons | apply Take.app | exact Rm.chunk | exact Rm.here | exact Rm.nil0 | apply Rm.skip | apply Rm.skipS | (focus (apply Take.all; (repeat (first | exact Rm.chunk | exact Rm.here | exact Rm.nil0 | apply Rm.skip | apply Rm.skipS)); done)) | apply Take.cons)) ?_
  case hs => repeat (first | exact SetAt.zero | apply SetAt.succ)
  rintro v J L1 hJ ⟨rfl, rfl, rfl⟩
  clear hJ; try simp only [List.cons_append, List.nil_append, List.append_assoc]
  refine WP.nil ?_
  refine WP.sub [(0, _), (1, _), (4, _), (5, _), (7, _)] ?_ ⟨rfl, rfl, rfl, rfl, rfl, trivial⟩
  refine WP.next ?_
  refine WP.seq ?_
  refine WP.region [0, 1] rfl ?_
  refine WP.val rfl rfl rfl rfl (Yld.move rfl rfl) ?_
  refine WP.val rfl rfl rfl rfl (Yld.assign rfl rfl) ?_
  refine WP.nil ?_
  refine WP.sub [(0, _), (1, _), (4, _), (5, _), (7, _)] ?_ ⟨rfl, rfl, rfl, rfl, rfl, trivial⟩
  refine WP.next ?_
  refine WP.ret ?_
  refine WP.fin .ret (.inr rfl) (res1 rfl rfl) [(_, row 85 _), _] (by repeat (first | exact Take.nil | with_reducible apply Take.cons | apply Take.app | exact Rm.chunk | exact Rm.here | exact Rm.nil0 | apply Rm.skip | apply Rm.skipS | (focus (apply Take.all; (repeat (first | exact Rm.chunk | exact Rm.here | exact Rm.nil0 | apply Rm.skip | apply Rm.skipS)); done)) | apply Take.cons)) (by repeat (first | exact Leave.done | apply Leave.drop | apply Leave.dropS)) (Imm.le_refl _) ?_
  exact ⟨_, _, rfl, rfl, rfl⟩


def Tb.fresh (b : Nat) : Tb := ⟨0, [(b, fun _ => none)], 1⟩
theorem Tb.fresh_ok (J : Imm) (b : Nat) : (Tb.fresh b).ok J := ⟨Nat.le_refl _, Nat.le_of_ble_eq_true rfl, fun c hc j e he => (by cases List.mem_singleton.1 hc; cases he), Int.le_refl _, show (1 : Int) ≤ 513 by decide⟩
theorem Tb.fresh_get (b : Nat) (p : Int) : (Tb.fresh b).get p = none := by
  unfold Tb.get
  split
  · rfl
  · simp only [Tb.fresh]
    rcases hh : ((p - 1) / 16).toNat with _ | k <;> rfl
theorem tabT_NewNil {I : Imm} : Spec Try.prog 28 [.pointer none] I [] (fun v J L' => ∃ t x, v = .pointer (some ⟨t, 0, none⟩) ∧ I = J ∧ IsT J t x L' ∧ x.tok = 0 ∧ x.next = 1 ∧ x.size = 16 ∧ ∀ p, x.get p = none) := by
  refine Spec.of Try.func28 rfl Try.ntmps28 (Nat.le_of_ble_eq_true rfl) (fun F => ?_)
  try simp only [List.cons_append, List.nil_append, List.append_assoc]
  dsimp only [argsEnv]
  refine WP.seq ?_
  refine WP.region [0] rfl ?_
  refine WP.val rfl rfl rfl rfl (Yld.assign rfl rfl) ?_
  refine WP.nil ?_
  refine WP.next ?_
  refine WP.seq ?_
  refine WP.region [0, 1, 2, 3, 4, 5, 6, 7] rfl ?_
  refine WP.val rfl rfl rfl rfl (Yld.move rfl rfl) ?_
  refine WP.loud rfl rfl ?_
  refine Op.call cell_NewInt_nil rfl Try.func13 rfl rfl rfl rfl (by repeat (first | exact Take.nil | with_reducible apply Take.cons | apply Take.app | exact Rm.chunk | exact Rm.here | exact Rm.nil0 | apply Rm.skip | apply Rm.skipS | (focus (apply Take.all; (repeat (first | exact Rm.chunk | exact Rm.here | exact Rm.nil0 | apply Rm.skip | apply Rm.skipS)); done)) | apply Take.cons)) ?_
  rintro v J L1 hJ ⟨q, c, rfl, rfl, rfl⟩
  clear hJ; try simp only [List.cons_append, List.nil_append, List.append_assoc]
  refine WP.val rfl rfl rfl rfl (Yld.buildS (pl := []) rfl ty_zr_110 ty_zd_110 (by kernel_rfl) rfl (vs := []) rfl (segs := []) rfl rfl (by repeat (first | exact SetSeg.nil | apply SetSeg.one | exact SetAt.zero | apply SetAt.succ))) ?_
  refine WP.loud rfl rfl ?_
  refine Op.box rfl rfl rfl rfl rfl (fun b6 => ?_)
  refine WP.loud rfl rfl ?_
  refine Op.buildSlice rfl ty_sl_111 ty_el2_111 rfl rfl rfl rfl (vs := [_]) rfl (segs := [(0, [_])]) (cs := [_]) rfl rfl (by repeat (first | exact SetSeg.nil | apply SetSeg.one | exact SetAt.zero | apply SetAt.succ)) (fun bl => ?_)
  refine WP.val rfl rfl rfl rfl (Yld.buildS (pl := [(0, 0, 1), (2, 2, 1), (3, 3, 1)]) rfl ty_zr_113 ty_zd_113 (by kernel_rfl) rfl (vs := [_, _, _]) rfl (segs := [(0, [_]), (2, [_]), (3, [_])]) rfl rfl (by repeat (first | exact SetSeg.nil | apply SetSeg.one | exact SetAt.zero | apply SetAt.succ))) ?_
  refine WP.loud rfl rfl ?_
  refine Op.box rfl rfl rfl rfl rfl (fun b9 => ?_)
  refine WP.val rfl rfl rfl rfl (Yld.assign rfl rfl) ?_
  refine WP.nil ?_
  refine WP.sub [(0, _), (2, _)] ?_ ⟨rfl, rfl, trivial⟩
  refine WP.next ?_
  refine WP.ret ?_
  refine WP.fin .ret (.inr rfl) (res1 rfl rfl) ((q, row 85 [.int .i64 0, .pointer (some ⟨c, 0, none⟩)]) :: (c, row 83 [.int .i64 0, .int .i64 0, .int .i64 0, .int .i64 0, .int .i64 0]) :: ((b9, row 113 [.pointer (some ⟨q, 0, none⟩), .int .u64 ((Tb.fresh b6).tok : Int), .slice (some ⟨bl, 0, none⟩) (Tb.fresh b6).cks.length 1, .int .i64 (Tb.fresh b6).next]) :: ((bl, row 103 (ckps (Tb.fresh b6).cks ++ [])) :: (Tb.fresh b6).cks.flatMap ckCh))) (by repeat (first | exact Take.nil | with_reducible apply Take.cons | apply Take.app | exact Rm.chunk | exact Rm.here | exact Rm.nil0 | apply Rm.skip | apply Rm.skipS | (focus (apply Take.all; (repeat (first | exact Rm.chunk | exact Rm.here | exact Rm.nil0 | apply Rm.skip | apply Rm.skipS)); done)) | apply Take.cons)) (by repeat (first | exact Leave.done | apply Leave.drop | apply Leave.dropS)) (Imm.le_refl _) ?_
  refine ⟨_, Tb.fresh b6, rfl, rfl, IsT.mk (IsTab.mk (Lv := [(bl, row 103 (ckps (Tb.fresh b6).cks ++ []))]) (Tb.fresh_ok _ b6) (Own.blk rfl rfl (Nat.le_refl _))), rfl, rfl, rfl, Tb.fresh_get b6⟩

theorem tabT_New {I : Imm} {c : Nat} {l s sw m a : Int} : Spec Try.prog 28 [.pointer (some ⟨c, 0, none⟩)] I [(c, row 83 [.int .i64 l, .int .i64 s, .int .i64 sw, .int .i64 m, .int .i64 a])] (fun v J L' => ∃ t x, v = .pointer (some ⟨t, 0, none⟩) ∧ I = J ∧ IsT J t x L' ∧ x.tok = 0 ∧ x.next = 1 ∧ x.size = 16 ∧ ∀ p, x.get p = none) := by
  refine Spec.of Try.func28 rfl Try.ntmps28 (Nat.le_of_ble_eq_true rfl) (fun F => ?_)
  try simp only [List.cons_append, List.nil_append, List.append_assoc]
  dsimp only [argsEnv]
  refine WP.seq ?_
  refine WP.region [0] rfl ?_
  refine WP.val rfl rfl rfl rfl (Yld.assign rfl rfl) ?_
  refine WP.nil ?_
  refine WP.next ?_
  refine WP.seq ?_
  refine WP.region [0, 1, 2, 3, 4, 5, 6, 7] rfl ?_
  refine WP.val rfl rfl rfl rfl (Yld.move rfl rfl) ?_
  refine WP.loud rfl rfl ?_
  refine Op.call (cell_NewInt (o := default)) rfl Try.func13 rfl rfl rfl rfl (by repeat (first | exact Take.nil | with_reducible apply Take.cons | apply Take.app | exact Rm.chunk | exact Rm.here | exact Rm.nil0 | apply Rm.skip | apply Rm.skipS | (focus (apply Take.all; (repeat (first | exact Rm.chunk | exact Rm.here | exact Rm.nil0 | apply Rm.skip | apply Rm.skipS)); done)) | apply Take.cons)) ?_
  rintro v J L1 hJ ⟨q, rfl, rfl, rfl⟩
  clear hJ; try simp only [List.cons_append, List.nil_append, List.append_assoc]
  refine WP.val rfl rfl rfl rfl (Yld.buildS (pl := []) rfl ty_zr_110 ty_zd_110 (by kernel_rfl) rfl (vs := []) rfl (segs := []) rfl rfl (by repeat (first | exact SetSeg.nil | apply SetSeg.one | exact SetAt.zero | apply SetAt.succ))) ?_
  refine WP.loud rfl rfl ?_
  refine Op.box rfl rfl rfl rfl rfl (fun b6 => ?_)
  refine WP.loud rfl rfl ?_
  refine Op.buildSlice rfl ty_sl_111 ty_el2_111 rfl rfl rfl rfl (vs := [_]) rfl (segs := [(0, [_])]) (cs := [_]) rfl rfl (by repeat (first | exact SetSeg.nil | apply SetSeg.one | exact SetAt.zero | apply SetAt.succ)) (fun bl => ?_)
  refine WP.val rfl rfl rfl rfl (Yld.buildS (pl := [(0, 0, 1), (2, 2, 1), (3, 3, 1)]) rfl ty_zr_113 ty_zd_113 (by kernel_rfl) rfl (vs := [_, _, _]) rfl (segs := [(0, [_]), (2, [_]), (3, [_])]) rfl rfl (by repeat (first | exact SetSeg.nil | apply SetSeg.one | exact SetAt.zero | apply SetAt.succ))) ?_
  refine WP.loud rfl rfl ?_
  refine Op.box rfl rfl rfl rfl rfl (fun b9 => ?_)
  refine WP.val rfl rfl rfl rfl (Yld.assign rfl rfl) ?_
  refine WP.nil ?_
  refine WP.sub [(0, _), (2, _)] ?_ ⟨rfl, rfl, trivial⟩
  refine WP.next ?_
  refine WP.ret ?_
  refine WP.fin .ret (.inr rfl) (res1 rfl rfl) ((q, row 85 [.int .i64 0, .pointer (some ⟨c, 0, none⟩)]) :: (c, row 83 [.int .i64 l, .int .i64 s, .int .i64 sw, .int .i64 m, .int .i64 a]) :: ((b9, row 113 [.pointer (some ⟨q, 0, none⟩), .int .u64 ((Tb.fresh b6).tok : Int), .slice (some ⟨bl, 0, none⟩) (Tb.fresh b6).cks.length 1, .int .i64 (Tb.fresh b6).next]) :: ((bl, row 103 (ckps (Tb.fresh b6).cks ++ [])) :: (Tb.fresh b6).cks.flatMap ckCh))) (by repeat (first | exact Take.nil | with_reducible apply Take.cons | apply Take.app | exact Rm.chunk | exact Rm.here | exact Rm.nil0 | apply Rm.skip | apply Rm.skipS | (focus (apply Take.all; (repeat (first | exact Rm.chunk | exact Rm.here | exact Rm.nil0 | apply Rm.skip | apply Rm.skipS)); done)) | apply Take.cons)) (by repeat (first | exact Leave.done | apply Leave.drop | apply Leave.dropS)) (Imm.le_refl _) ?_
  refine ⟨_, Tb.fresh b6, rfl, rfl, IsT.mk (IsTab.mk (Lv := [(bl, row 103 (ckps (Tb.fresh b6).cks ++ []))]) (Tb.fresh_ok _ b6) (Own.blk rfl rfl (Nat.le_refl _))), rfl, rfl, rfl, Tb.fresh_get b6⟩


end Go.Hp
