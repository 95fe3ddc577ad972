import Derived.Test.YtgcbhbcmohcdpaaGreatSupB
set_option linter.unusedVariables false
set_option linter.unusedSimpArgs false
namespace Go.Hp
open Go Go.Proofs
set_option maxRecDepth 10000

instance (s : Sp) : Decidable s.may := decidable_of_iff ((1 ≤ s.no ∧ s.no ≤ 4294967295) ∧ (1 ≤ s.era ∧ s.era ≤ 4294967295) ∧ (0 ≤ s.place ∧ s.place ≤ 1099511627776) ∧ (0 ≤ s.upto ∧ s.upto ≤ 1099511627776) ∧ (0 ≤ s.first ∧ s.first ≤ 68719476736)) ⟨fun h => ⟨h.1, h.2.1, h.2.2.1, h.2.2.2.1, h.2.2.2.2⟩, fun h => ⟨h.no, h.era, h.place, h.upto, h.first⟩⟩
theorem super_Encode {I : Imm} {s : Sp} : Spec Tryz.prog 119 [.agg (spV s).toArray] I [] (fun v J L => (s.may ∧ ∃ b vb, v = .tuple #[vb, .int .i64 0] ∧ SlAt vb b 0 64 ∧ L = [(b, row 245 (bytesV (enc s)))]) ∨ (¬ s.may ∧ v = .tuple #[.slice none 0 0, .int .i64 1] ∧ I = J ∧ L = [])) := by
 refine Spec.of Tryz.func119 rfl Tryz.ntmps119 (Nat.le_of_ble_eq_true rfl) (fun F => ?_)
 try simp only [nf]
 dsimp only [argsEnv]
 refine WP.seq ?_; refine WP.region [0, 1, 2] rfl ?_; refine WP.loud rfl rfl ?_; refine Op.box rfl rfl rfl rfl rfl (fun b1 => ?_)
 iterate 2 refine WP.mv rfl rfl ?_
 refine WP.nil (WP.next (WP.seq (WP.seq ?_)))
 refine WP.region [0, 1, 2] rfl ?_; refine WP.vl rfl (Yld.lda rfl ty_ag_37 rfl rfl) ?_; refine WP.loud rfl rfl ?_; refine Op.cl super_may rfl Tryz.func136 rfl rfl rfl rfl ?_; rintro v J L1 - ⟨bm, rfl, hbm, rfl, rfl⟩
 try simp only [nf]
 by_cases hm : bm = true
 ·try rw [hm]
  refine WP.vl rfl (Yld.not rfl rfl) ?_; refine WP.nil ?_; refine WP.sub [(0, _), (1, _), (2, _), (3, _), (7, _)] ?_ ⟨rfl, rfl, rfl, rfl, rfl, trivial⟩
  refine WP.next ?_; refine WP.condF rfl ?_; refine WP.skip (WP.next (WP.seq ?_))
  refine WP.region [0, 1, 2, 3] rfl ?_; refine WP.vl rfl (Yld.lda rfl ty_ag_37 rfl rfl) ?_; refine WP.loud rfl rfl ?_; refine Op.cl (super_laid (hbm.1 hm)) rfl Tryz.func137 rfl rfl rfl rfl ?_; rintro v J2 L1 hJ2 ⟨rfl, rfl⟩
  try simp only [nf]
  refine WP.loud rfl rfl ?_; refine Op.alloc rfl rfl rfl form_zr9 (fun b4 => ?_)
  refine WP.loud rfl rfl ?_; refine Op.sA rfl rfl ty_sz_245 rfl rfl (by rw [bytesV_len, enc_len]) (bytesV_one _) (show (bytesV (List.replicate 64 0)).length = 64 by rw [bytesV_len]; rfl) ?_; refine WP.nil ?_; refine WP.sub [(0, _), (1, _), (2, _), (3, _), (4, _), (7, _)] ?_ ⟨rfl, rfl, rfl, rfl, rfl, rfl, trivial⟩
  refine WP.next (WP.seq ?_)
  refine WP.region [0, 1, 2] rfl ?_; refine WP.vl rfl (Yld.sliceA rfl ty_ar_245 rfl Env.lim0 Env.lim0 (Nat.zero_le _) (Nat.le_refl _)) ?_; iterate 2 refine WP.mv rfl rfl ?_
  refine WP.nil ?_; refine WP.sub [(0, _), (1, _), (2, _), (3, _), (4, _), (7, _)] ?_ ⟨rfl, rfl, rfl, rfl, rfl, rfl, trivial⟩
  refine WP.next (WP.ret ?_)
  refine WP.fn .ret (.inr rfl) (resT (rs := [.tmp 2, .tmp 3]) (vs := [_, _]) rfl ⟨rfl, rfl, trivial⟩ rfl) [(b4, _)] hJ2 ?_; exact .inl ⟨hbm.1 hm, b4, _, rfl, SlAt.arr.sub (sz := 1) (Nat.zero_le _) (Nat.le_refl _), rfl⟩
 ·have hm : bm = false := eq_false_of_ne_true hm
  try rw [hm]
  refine WP.vl rfl (Yld.not rfl rfl) ?_; refine WP.nil ?_; refine WP.sub [(0, _), (1, _), (2, _), (3, _), (7, _)] ?_ ⟨rfl, rfl, rfl, rfl, rfl, trivial⟩
  refine WP.next ?_; refine WP.condT rfl ?_; refine WP.seq ?_; refine WP.region [0, 1] rfl ?_; iterate 2 refine WP.mv rfl rfl ?_
  refine WP.nil (WP.next (WP.ret ?_))
  refine WP.fn .ret (.inr rfl) (resT (rs := [.tmp 2, .tmp 3]) (vs := [_, _]) rfl ⟨rfl, rfl, trivial⟩ rfl) [] (Imm.le_refl _) ?_; exact .inr ⟨fun h => (by have := hbm.2 h; rw [hm] at this; cases this), rfl, rfl, rfl⟩


end Go.Hp
