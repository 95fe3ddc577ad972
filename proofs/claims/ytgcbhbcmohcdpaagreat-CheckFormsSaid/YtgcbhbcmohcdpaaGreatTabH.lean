import Derived.Test.YtgcbhbcmohcdpaaGreatTabD
set_option linter.unusedVariables false
set_option linter.unusedSimpArgs false
namespace Go.Hp
open Go Go.Proofs

theorem SlRd.elem {V : Nat → Obj → Prop} {A : Option Addr} {c m sz : Nat} {cs : List Value} (hv : SlRd V (.slice A m c) m sz cs) {i : Nat} (hi : i < m) : ∃ b k T fr arr, A = some ⟨b, k, none⟩ ∧ V b (.cells arr T fr) ∧ (arr.toList.drop (k + i * sz)).take sz = (cs.drop (i * sz)).take sz ∧ ∀ j, j < sz → arr[k + i * sz + j]? = cs[i * sz + j]? := by
 obtain ⟨A', c', e, hc, hl, h3⟩ := hv
 cases e
 obtain ⟨b, k, T, fr, arr, rfl, hb, h4⟩ := h3.resolve_left (by omega)
 have hle : (i + 1) * sz ≤ m * sz := Nat.mul_le_mul_right _ hi
 rw [Nat.add_mul, Nat.one_mul] at hle
 have hh : ∀ j, j < sz → arr[k + i * sz + j]? = cs[i * sz + j]? := fun j hj => by
  have e1 : cs[i * sz + j]? = ((arr.toList.drop k).take cs.length)[i * sz + j]? := by rw [h4]
  rw [e1, List.getElem?_take, if_pos (by omega), List.getElem?_drop, Array.getElem?_toList, Nat.add_assoc]
 refine ⟨b, k, T, fr, arr, rfl, hb, ?_, hh⟩
 apply List.ext_getElem?
 intro j
 rw [List.getElem?_take, List.getElem?_take]
 by_cases hj : j < sz
 ·rw [if_pos hj, if_pos hj, List.getElem?_drop, List.getElem?_drop, Array.getElem?_toList, hh j hj]
 ·rw [if_neg hj, if_neg hj]
theorem Tb.ok.tok {J : Imm} {x : Tb} (h : x.ok J) (n : Nat) : Tb.ok J { x with tok := n } := ⟨h.n1, h.n2, h.ent, h.nx⟩
theorem Ent.sized.tok {e : Ent} (h : e.sized) (n : Nat) : Ent.sized { e with tok := n } := ⟨h.nodes, h.data, h.with_⟩
/-- One more chunk, all of it empty. -/
def Tb.grow (x : Tb) (b : Nat) : Tb := { x with cks := x.cks ++ [(b, fun _ => none)] }
inductive IsT (J : Imm) (t : Nat) (x : Tb) : Chunks → Prop
 | mk {q c : Nat} {vc l s sw m a : Int} {Lt : Chunks} (h : IsTab J t q x Lt) : IsT J t x ((q, row 163 [.int .i64 vc, .pointer (some ⟨c, 0, none⟩)]) :: (c, row 171 [.int .i64 l, .int .i64 s, .int .i64 sw, .int .i64 m, .int .i64 a]) :: Lt)
theorem IsT.mono {I J : Imm} {t : Nat} {x : Tb} {L : Chunks} (h : IsT I t x L) (hJ : I.le J) : IsT J t x L := by cases h with | mk h => exact .mk (h.mono hJ)
theorem IsTab.entOk {J : Imm} {t q : Nat} {x : Tb} {L : Chunks} (h : IsTab J t q x L) {p : Int} {e : Nat × Ent} (he : x.get p = some e) : entOk J e := by
 cases h with | mk ok ow =>
 obtain ⟨i, j, h1, h2, h3⟩ := Tb.split (Tb.in_of_get he)
 rw [Tb.get_at h1 h2 h3] at he
 exact ok.ent _ (List.getElem_mem h3) _ _ he
theorem tabT_Next {I : Imm} {t : Nat} {x : Tb} {L : Chunks} (hT : IsT I t x L) : Spec Tryz.prog 68 [.pointer (some ⟨t, 0, none⟩)] I L (fun v J L' => v = .int .i64 x.next ∧ I = J ∧ L' = L) := by
 cases hT with | @mk q c vc l s sw m a Lt hd =>
 cases hd with | mk ok ow =>
 obtain ⟨bv, cv, spv, rfl, rfl, hcv, hnv⟩ := ow.get (by have := ok.n1; omega)
 have hn1 := ok.n1
 have hn2 := ok.n2
 refine Spec.of Tryz.func68 rfl Tryz.ntmps68 (Nat.le_of_ble_eq_true rfl) (fun F => ?_)
 try simp only [nf]
 dsimp only [argsEnv]
 refine WP.seq ?_; refine WP.region [0] rfl ?_; refine WP.mv rfl rfl ?_; refine WP.nil (WP.next (WP.seq ?_))
 refine WP.region [0, 1, 2, 3, 4] rfl ?_; refine WP.mv rfl rfl ?_; refine WP.vl rfl (Yld.nilCheck rfl rfl) ?_; refine WP.vl rfl (Yld.fieldAddr rfl ty_fd_147_3 rfl) ?_; refine WP.vl rfl (Yld.ld rfl ty_sc_3 rfl rfl) ?_; refine WP.mv rfl rfl ?_; refine WP.nil ?_; refine WP.sub [(0, _), (2, _)] ?_ ⟨rfl, rfl, trivial⟩
 refine WP.next (WP.ret ?_)
 refine WP.fn .ret (.inr rfl) (res1 rfl rfl) ((q, row 163 [.int .i64 vc, .pointer (some ⟨c, 0, none⟩)]) :: (c, row 171 [.int .i64 l, .int .i64 s, .int .i64 sw, .int .i64 m, .int .i64 a]) :: ((t, row 147 [.pointer (some ⟨q, 0, none⟩), .int .u64 (x.tok : Int), .slice (some ⟨bv, 0, none⟩) x.cks.length cv, .int .i64 x.next]) :: ((bv, row 135 (ckps x.cks ++ spv)) :: x.cks.flatMap ckCh))) (Imm.le_refl _) ?_; exact ⟨rfl, rfl, rfl⟩

theorem cell_NewInt_nil {I : Imm} {v : Int} : Spec Tryz.prog 53 [.pointer none, .int .i64 v] I [] (fun v' J L => ∃ x c, v' = .pointer (some ⟨x, 0, none⟩) ∧ I = J ∧ L = [(x, row 163 [.int .i64 v, .pointer (some ⟨c, 0, none⟩)]), (c, row 171 [.int .i64 0, .int .i64 0, .int .i64 0, .int .i64 0, .int .i64 0])]) := by
 refine Spec.of Tryz.func53 rfl Tryz.ntmps53 (Nat.le_of_ble_eq_true rfl) (fun F => ?_)
 try simp only [nf]
 dsimp only [argsEnv]
 refine WP.seq ?_; refine WP.region [0] rfl ?_; refine WP.mv rfl rfl ?_; refine WP.nil (WP.next (WP.seq (WP.seq ?_)))
 refine WP.region [0, 1] rfl ?_; refine WP.mv rfl rfl ?_; refine WP.vl rfl (Yld.eqlNil rfl ty_pt_132 rfl rfl) ?_; refine WP.nil ?_; refine WP.sub [(0, _), (1, _), (4, _), (7, _)] ?_ ⟨rfl, rfl, rfl, rfl, trivial⟩
 refine WP.next ?_; refine WP.condT rfl ?_; refine WP.region [0, 1] rfl ?_; refine WP.loud rfl rfl ?_; refine Op.cl (cell_NewCount _) rfl Tryz.func56 rfl rfl rfl rfl ?_; rintro v J L1 - ⟨c, rfl, rfl, rfl⟩
 try simp only [nf]
 refine WP.mv rfl rfl ?_; refine WP.nil ?_; refine WP.sub [(0, _), (1, _), (4, _), (7, _)] ?_ ⟨rfl, rfl, rfl, rfl, trivial⟩
 refine WP.next (WP.seq ?_)
 refine WP.region [0, 1, 2, 3] rfl ?_; refine WP.mv rfl rfl ?_; refine WP.vl rfl (Yld.buildS (pl := [(1, 1, 1)]) rfl ty_zr_163 ty_zd_163 zK rfl (vs := [_]) rfl (segs := [(1, [_])]) rfl rfl zS) ?_; refine WP.loud rfl rfl ?_; refine Op.box rfl rfl rfl rfl rfl (fun b11 => ?_)
 refine WP.mv rfl rfl ?_; refine WP.nil ?_; refine WP.sub [(0, _), (1, _), (4, _), (5, _), (7, _)] ?_ ⟨rfl, rfl, rfl, rfl, rfl, trivial⟩
 refine WP.next (WP.seq ?_)
 refine WP.region [0, 1, 2, 3, 4] rfl ?_; refine WP.mv rfl rfl ?_; refine WP.vl rfl (Yld.nilCheck rfl rfl) ?_; refine WP.vl rfl (Yld.fieldAddr rfl ty_fd_163_0 rfl) ?_; refine WP.mv rfl rfl ?_; refine WP.loud rfl rfl ?_; refine' Op.cl (atStore ?hs) rfl Tryz.func57 rfl rfl rfl rfl ?_
 case hs => repeat (first | exact SetAt.zero | apply SetAt.succ)
 rintro v J L1 - ⟨rfl, rfl, rfl⟩
 try simp only [nf]
 refine WP.nil ?_; refine WP.sub [(0, _), (1, _), (4, _), (5, _), (7, _)] ?_ ⟨rfl, rfl, rfl, rfl, rfl, trivial⟩
 refine WP.next (WP.seq ?_)
 refine WP.region [0, 1] rfl ?_; iterate 2 refine WP.mv rfl rfl ?_
 refine WP.nil ?_; refine WP.sub [(0, _), (1, _), (4, _), (5, _), (7, _)] ?_ ⟨rfl, rfl, rfl, rfl, rfl, trivial⟩
 refine WP.next (WP.ret ?_)
 refine WP.fn .ret (.inr rfl) (res1 rfl rfl) [(_, row 163 _), _] (Imm.le_refl _) ?_; exact ⟨_, _, rfl, rfl, rfl⟩


def Tb.fresh (b : Nat) : Tb := ⟨0, [(b, fun _ => none)], 1⟩
theorem Tb.fresh_ok (J : Imm) (b : Nat) : (Tb.fresh b).ok J := ⟨Nat.le_refl _, Nat.le_of_ble_eq_true rfl, fun c hc j e he => (by cases List.mem_singleton.1 hc; cases he), Int.le_refl _, show (1 : Int) ≤ 513 by decide⟩
theorem Tb.fresh_get (b : Nat) (p : Int) : (Tb.fresh b).get p = none := by
 unfold Tb.get
 split
 ·rfl
 ·simp only [Tb.fresh]
  rcases hh : ((p - 1) / 16).toNat with _ | k <;> rfl
theorem tabT_NewNil {I : Imm} : Spec Tryz.prog 43 [.pointer none] I [] (fun v J L' => ∃ t x, v = .pointer (some ⟨t, 0, none⟩) ∧ I = J ∧ IsT J t x L' ∧ x.tok = 0 ∧ x.next = 1 ∧ x.size = 16 ∧ ∀ p, x.get p = none) := by
 refine Spec.of Tryz.func43 rfl Tryz.ntmps43 (Nat.le_of_ble_eq_true rfl) (fun F => ?_)
 try simp only [nf]
 dsimp only [argsEnv]
 refine WP.seq ?_; refine WP.region [0] rfl ?_; refine WP.mv rfl rfl ?_; refine WP.nil (WP.next (WP.seq ?_))
 refine WP.region [0, 1, 2, 3, 4, 5, 6, 7] rfl ?_; refine WP.mv rfl rfl ?_; refine WP.loud rfl rfl ?_; refine Op.cl cell_NewInt_nil rfl Tryz.func53 rfl rfl rfl rfl ?_; rintro v J L1 - ⟨q, c, rfl, rfl, rfl⟩
 try simp only [nf]
 refine WP.vl rfl (Yld.buildS (pl := []) rfl ty_zr_144 ty_zd_144 zK rfl (vs := []) rfl (segs := []) rfl rfl zS) ?_; refine WP.loud rfl rfl ?_; refine Op.box rfl rfl rfl rfl rfl (fun b6 => ?_)
 refine WP.loud rfl rfl ?_; refine Op.buildSlice rfl ty_sl_145 ty_el2_145 rfl rfl rfl rfl (vs := [_]) rfl (segs := [(0, [_])]) (cs := [_]) rfl rfl zS (fun bl => ?_)
 refine WP.vl rfl (Yld.buildS (pl := [(0, 0, 1), (2, 2, 1), (3, 3, 1)]) rfl ty_zr_147 ty_zd_147 zK rfl (vs := [_, _, _]) rfl (segs := [(0, [_]), (2, [_]), (3, [_])]) rfl rfl zS) ?_; refine WP.loud rfl rfl ?_; refine Op.box rfl rfl rfl rfl rfl (fun b9 => ?_)
 refine WP.mv rfl rfl ?_; refine WP.nil ?_; refine WP.sub [(0, _), (2, _)] ?_ ⟨rfl, rfl, trivial⟩
 refine WP.next (WP.ret ?_)
 refine WP.fn .ret (.inr rfl) (res1 rfl rfl) ((q, row 163 [.int .i64 0, .pointer (some ⟨c, 0, none⟩)]) :: (c, row 171 [.int .i64 0, .int .i64 0, .int .i64 0, .int .i64 0, .int .i64 0]) :: ((b9, row 147 [.pointer (some ⟨q, 0, none⟩), .int .u64 ((Tb.fresh b6).tok : Int), .slice (some ⟨bl, 0, none⟩) (Tb.fresh b6).cks.length 1, .int .i64 (Tb.fresh b6).next]) :: ((bl, row 135 (ckps (Tb.fresh b6).cks ++ [])) :: (Tb.fresh b6).cks.flatMap ckCh))) (Imm.le_refl _) ?_; refine ⟨_, Tb.fresh b6, rfl, rfl, IsT.mk (IsTab.mk (Lv := [(bl, row 135 (ckps (Tb.fresh b6).cks ++ []))]) (Tb.fresh_ok _ b6) (Own.blk rfl rfl (Nat.le_refl _))), rfl, rfl, rfl, Tb.fresh_get b6⟩

end Go.Hp
