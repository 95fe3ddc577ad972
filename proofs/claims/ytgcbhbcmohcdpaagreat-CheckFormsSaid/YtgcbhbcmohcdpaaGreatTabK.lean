import Derived.Test.YtgcbhbcmohcdpaaGreatTabH
set_option linter.unusedVariables false
set_option linter.unusedSimpArgs false
namespace Go.Hp
open Go Go.Proofs

def Tb.pagesTo (x : Tb) (n : Nat) : List Int := ((List.range n).filter fun (k : Nat) => (x.get ((k : Int) + 1)).isSome).map fun (k : Nat) => (k : Int) + 1
/-- The pages in use. -/
def Tb.pages (x : Tb) : List Int := x.pagesTo (x.next - 1).toNat
theorem Tb.pagesTo_succ (x : Tb) (n : Nat) : x.pagesTo (n + 1) = x.pagesTo n ++ (if (x.get ((n : Int) + 1)).isSome then [(n : Int) + 1] else []) := by
 unfold Tb.pagesTo
 rw [List.range_succ, List.filter_append, List.map_append]
 by_cases h : (x.get ((n : Int) + 1)).isSome = true
 ·simp [h]
 ·simp [h]
theorem Tb.pagesTo_len (x : Tb) (n : Nat) : (x.pagesTo n).length ≤ n := by
 unfold Tb.pagesTo; rw [List.length_map]; exact Nat.le_trans (List.length_filter_le _ _) (by simp)
structure PGX where
 i : Nat
 v : Value
 L : Chunks
theorem tabT_Pages {I : Imm} {t : Nat} {x : Tb} {L : Chunks} (hT : IsT I t x L) : Spec Tryz.prog 54 [.pointer (some ⟨t, 0, none⟩)] I L (fun v J L' => ∃ Lo, I = J ∧ L' = Lo ++ L ∧ Own 3 1 v (x.pages.map (Value.int .i64)) x.pages.length Lo) := by
 cases hT with | @mk q c vc l s sw m a Lt hd =>
 cases hd with | mk ok ow =>
 obtain ⟨bv, cv, spv, rfl, rfl, hcv, hnv⟩ := ow.get (by have := ok.n1; omega)
 have hn1 := ok.n1
 have hn2 := ok.n2
 refine Spec.of Tryz.func54 rfl Tryz.ntmps54 (Nat.le_of_ble_eq_true rfl) (fun F => ?_)
 try simp only [nf]
 dsimp only [argsEnv]
 refine WP.seq ?_; refine WP.region [0] rfl ?_; refine WP.mv rfl rfl ?_; refine WP.nil (WP.next (WP.seq ?_))
 refine WP.region [0] rfl ?_; refine WP.mv rfl rfl ?_; refine WP.nil (WP.next (WP.seq (WP.seq ?_)))
 refine WP.region [0] rfl ?_; refine WP.mv rfl rfl ?_; refine WP.nil (WP.next (WP.block ?_))
 refine WP.loop (X := PGX) (fun u : PGX => [(0, .pointer (some ⟨t, 0, none⟩)), (3, u.v), (4, .int .i64 ((u.i : Int) + 1))]) (fun _ => I) (fun u : PGX => u.L ++ ((q, row 163 [.int .i64 vc, .pointer (some ⟨c, 0, none⟩)]) :: (c, row 171 [.int .i64 l, .int .i64 s, .int .i64 sw, .int .i64 m, .int .i64 a]) :: (((t, row 147 [.pointer (some ⟨q, 0, none⟩), .int .u64 (x.tok : Int), .slice (some ⟨bv, 0, none⟩) x.cks.length cv, .int .i64 x.next]) :: ((bv, row 135 (ckps x.cks ++ spv)) :: x.cks.flatMap ckCh)) ++ F))) (fun u : PGX => u.i ≤ (x.next - 1).toNat ∧ Own 3 1 u.v ((x.pagesTo u.i).map (Value.int .i64)) (x.pagesTo u.i).length u.L) (fun u : PGX => (x.next - 1).toNat - u.i) ⟨0, .slice none 0 0, []⟩ ⟨Nat.zero_le _, .none0⟩ ⟨rfl, rfl, rfl, trivial⟩ rfl zA ?_; rintro ⟨i, vo, Lo⟩ ⟨hle, how⟩; dsimp only at hle how
 try dsimp only
 try simp only [nf]
 refine WP.seq (WP.seq ?_)
 refine WP.region [0, 1, 2, 3, 4, 5] rfl ?_; iterate 2 refine WP.mv rfl rfl ?_
 refine WP.vl rfl (Yld.nilCheck rfl rfl) ?_; refine WP.vl rfl (Yld.fieldAddr rfl ty_fd_147_3 rfl) ?_; refine WP.vl rfl (Yld.ld rfl ty_sc_3 rfl rfl) ?_; refine WP.split rfl rfl rfl rfl (Yld.lss rfl rfl rfl) (fun hlt => ?_) (fun hlt => ?_)
 ·have hnx := ok.nx
  refine WP.nil ?_; refine WP.sub [(0, _), (3, _), (4, _), (10, _)] ?_ ⟨rfl, rfl, rfl, rfl, trivial⟩
  refine WP.next ?_; refine WP.condT rfl ?_; refine WP.skip (WP.next (WP.seq (WP.block (WP.seq ?_))))
  refine WP.region [0, 1, 2, 3] rfl ?_; iterate 2 refine WP.mv rfl rfl ?_
  refine WP.loud rfl rfl ?_; refine Op.cl (tab_find (IsTab.mk ok ow)) rfl Tryz.func58 rfl rfl rfl rfl ?_; rintro v J L1 - ⟨rfl, rfl, rfl⟩
  try simp only [nf]
  refine WP.vl rfl (Yld.neqNil rfl ty_pt_136 rfl rfl) ?_; by_cases hg : (!(slotP (x.get ((i : Int) + 1))).isNone) = true
  ·try rw [hg]
   refine WP.nil ?_; refine WP.sub [(0, _), (3, _), (4, _), (10, _), (16, _)] ?_ ⟨rfl, rfl, rfl, rfl, rfl, trivial⟩
   refine WP.next ?_; refine WP.condT rfl ?_; have hsome : (x.get ((i : Int) + 1)).isSome = true := by rw [slotP_none] at hg; cases hh : x.get ((i : Int) + 1) <;> simp_all
   have hlen := Tb.pagesTo_len x i
   refine WP.region [0, 1, 2, 3, 4] rfl ?_; iterate 2 refine WP.mv rfl rfl ?_
   refine WP.loud rfl rfl ?_; refine Op.buildSlice rfl ty_sl_60 ty_el2_60 rfl rfl rfl rfl (vs := [_]) rfl (segs := [(0, [_])]) (cs := [_]) rfl rfl zS (fun bl => ?_)
   refine WP.loud rfl rfl ?_; refine Op.append rfl ty_sl_60 ty_el_60 rfl rfl rfl rfl rfl how (SlRd.lit zM rfl (Nat.le_refl _)) zT rfl (by omega) (by omega) (fun vq Lq hq => ?_)
   refine WP.mv rfl rfl ?_; refine WP.nil ?_; refine WP.sub [(0, _), (3, _), (4, _), (10, _), (16, _)] ?_ ⟨rfl, rfl, rfl, rfl, rfl, trivial⟩
   refine WP.leave (WP.next ?_)
   have hcast : ((i : Int) + 1) + 1 = ((i + 1 : Nat) : Int) + 1 := by omega
   refine WP.region [0, 1, 2] rfl ?_; refine WP.mv rfl rfl ?_; refine WP.vl rfl (Yld.add64 rfl rfl rfl (by omega)) ?_; refine WP.mv rfl rfl ?_; refine WP.nil ?_; refine WP.sub [(0, _), (3, _), (4, _), (10, _), (16, _)] ?_ ⟨rfl, rfl, rfl, rfl, rfl, trivial⟩
   rw [hcast]
   exact WP.again ⟨i + 1, vq, Lq⟩ ⟨(show i + 1 ≤ (x.next - 1).toNat by omega), by dsimp only; rw [Tb.pagesTo_succ, if_pos hsome]; simpa using hq⟩ (show (x.next - 1).toNat - (i + 1) < (x.next - 1).toNat - i by omega) ⟨rfl, rfl, rfl, trivial⟩ rfl zA
  ·have hg : (!(slotP (x.get ((i : Int) + 1))).isNone) = false := eq_false_of_ne_true hg
   try rw [hg]
   refine WP.nil ?_; refine WP.sub [(0, _), (3, _), (4, _), (10, _), (16, _)] ?_ ⟨rfl, rfl, rfl, rfl, rfl, trivial⟩
   refine WP.next ?_; refine WP.condF rfl ?_; refine WP.skip (WP.leave (WP.next ?_))
   have hcast : ((i : Int) + 1) + 1 = ((i + 1 : Nat) : Int) + 1 := by omega
   refine WP.region [0, 1, 2] rfl ?_; refine WP.mv rfl rfl ?_; refine WP.vl rfl (Yld.add64 rfl rfl rfl (by omega)) ?_; refine WP.mv rfl rfl ?_; refine WP.nil ?_; refine WP.sub [(0, _), (3, _), (4, _), (10, _), (16, _)] ?_ ⟨rfl, rfl, rfl, rfl, rfl, trivial⟩
   rw [hcast]
   have hsome : ¬ (x.get ((i : Int) + 1)).isSome = true := by rw [slotP_none] at hg; cases hh : x.get ((i : Int) + 1) <;> simp_all
   exact WP.again ⟨i + 1, vo, Lo⟩ ⟨(show i + 1 ≤ (x.next - 1).toNat by omega), by dsimp only; rw [Tb.pagesTo_succ, if_neg hsome]; simpa using how⟩ (show (x.next - 1).toNat - (i + 1) < (x.next - 1).toNat - i by omega) ⟨rfl, rfl, rfl, trivial⟩ rfl zA
 ·have hnx := ok.nx
  obtain rfl : i = (x.next - 1).toNat := by omega
  refine WP.nil ?_; refine WP.sub [(0, _), (3, _), (4, _), (10, _)] ?_ ⟨rfl, rfl, rfl, rfl, trivial⟩
  refine WP.next ?_; refine WP.condF rfl ?_; refine WP.exit (WP.thenE (WP.thenE (WP.hit (WP.next (WP.seq ?_)))))
  refine WP.region [0, 1] rfl ?_; iterate 2 refine WP.mv rfl rfl ?_
  refine WP.nil ?_; refine WP.sub [(0, _), (2, _), (3, _), (4, _), (10, _)] ?_ ⟨rfl, rfl, rfl, rfl, rfl, trivial⟩
  refine WP.next (WP.ret ?_)
  refine WP.fn .ret (.inr rfl) (res1 rfl rfl) (Lo ++ ((q, row 163 [.int .i64 vc, .pointer (some ⟨c, 0, none⟩)]) :: (c, row 171 [.int .i64 l, .int .i64 s, .int .i64 sw, .int .i64 m, .int .i64 a]) :: ((t, row 147 [.pointer (some ⟨q, 0, none⟩), .int .u64 (x.tok : Int), .slice (some ⟨bv, 0, none⟩) x.cks.length cv, .int .i64 x.next]) :: ((bv, row 135 (ckps x.cks ++ spv)) :: x.cks.flatMap ckCh)))) (Imm.le_refl _) ?_; exact ⟨Lo, rfl, rfl, how⟩


end Go.Hp
