import Derived.Test.YtgcbhbcmohcdpaaGreatSupD
set_option linter.unusedVariables false
set_option linter.unusedSimpArgs false
namespace Go.Hp
open Go Go.Proofs
set_option maxRecDepth 10000

theorem super_Encode_ok {I : Imm} {s : Sp} (hm : s.may) : Spec Tryz.prog 119 [.agg (spV s).toArray] I [] (fun v J L => ∃ b vb, v = .tuple #[vb, .int .i64 0] ∧ SlAt vb b 0 64 ∧ L = [(b, row 245 (bytesV (enc s)))]) := super_Encode.mono (fun v J L _ h => (h.resolve_right (fun h => h.1 hm)).2)
theorem super_Write_ok {I : Imm} {d n : Nat} {x : Dk} {L : Chunks} (hd : IsDisk d n x L) {s : Sp} (hm : s.may) (hwb : x.waits.length + 8192 ≤ 1954687338000) : Spec Tryz.prog 109 [.pointer (some ⟨d, 0, none⟩), .agg (spV s).toArray] I L (fun v J L' => v = .int .i64 (x.write n (s.no % 2 * 4) (enc s)).2 ∧ IsDisk d n (x.write n (s.no % 2 * 4) (enc s)).1 L') := by
 refine Spec.of Tryz.func109 rfl Tryz.ntmps109 (Nat.le_of_ble_eq_true rfl) (fun F => ?_)
 try simp only [nf]
 dsimp only [argsEnv]
 refine WP.seq ?_; refine WP.region [0, 1] rfl ?_; refine WP.loud rfl rfl ?_; refine Op.box rfl rfl rfl rfl rfl (fun b3 => ?_)
 refine WP.mv rfl rfl ?_; refine WP.nil (WP.next (WP.seq ?_))
 refine WP.region [0, 1, 2, 3, 4, 5, 6] rfl ?_; refine WP.vl rfl (Yld.lda rfl ty_ag_37 rfl rfl) ?_; refine WP.loud rfl rfl ?_; refine Op.cl (super_Encode_ok hm) rfl Tryz.func119 rfl rfl rfl rfl ?_; rintro v J2 L2 hJ2 ⟨b5, vb, rfl, hvb, rfl⟩
 try simp only [nf]
 refine WP.share (fun J3 hJ3 hb5 => ?_)
 have hbs : SlRd (Im J3) vb (enc s).length 1 (bytesV (enc s)) := by have q := hvb.rdB (V := Im J3) (l := enc s) hb5 (by rw [enc_len]; exact Nat.le_refl _); rw [enc_len]; simpa [List.take_of_length_le (show (enc s).length ≤ 64 by rw [enc_len]; exact Nat.le_refl _)] using q
 refine WP.mv rfl rfl ?_; iterate 2 refine WP.vl rfl (Yld.extract rfl rfl rfl) ?_
 iterate 2 refine WP.mv rfl rfl ?_
 refine WP.nil ?_; refine WP.sub [(0, _), (1, _), (3, _), (4, _), (5, _), (6, _)] ?_ ⟨rfl, rfl, rfl, rfl, rfl, rfl, trivial⟩
 refine WP.next (WP.seq (WP.seq ?_))
 refine WP.region [0, 1] rfl ?_; refine WP.mv rfl rfl ?_; refine WP.vl rfl (Yld.neq rfl rfl rfl false (decide_eq_false (by omega))) ?_; refine WP.nil ?_; refine WP.sub [(0, _), (1, _), (3, _), (4, _), (5, _), (6, _), (13, _)] ?_ ⟨rfl, rfl, rfl, rfl, rfl, rfl, rfl, trivial⟩
 refine WP.next ?_; refine WP.condF rfl ?_; refine WP.skip (WP.next (WP.seq ?_))
 refine WP.region [0, 1, 2, 3, 4, 5, 6, 7] rfl ?_; refine WP.mv rfl rfl ?_; refine WP.vl rfl (Yld.fieldAddr rfl ty_fd_37_0 rfl) ?_; refine WP.vl rfl (Yld.ld rfl ty_sc_3 rfl rfl) ?_; refine WP.vl rfl (Yld.rem64 rfl rfl rfl ⟨by have := hm.no; omega, by decide⟩) ?_; refine WP.vl rfl (Yld.mul64 rfl rfl rfl (by have := hm.no; omega)) ?_; refine WP.mv rfl rfl ?_; refine WP.loud rfl rfl ?_; refine Op.cl (disk_Write hd hbs hwb (by rw [enc_len]; decide)) rfl Tryz.func120 rfl rfl rfl rfl ?_; rintro v J L9 - ⟨rfl, rfl, hd2⟩
 try simp only [nf]
 refine WP.mv rfl rfl ?_; refine WP.nil ?_; refine WP.sub [(0, _), (1, _), (3, _), (4, _), (5, _), (6, _), (13, _)] ?_ ⟨rfl, rfl, rfl, rfl, rfl, rfl, rfl, trivial⟩
 refine WP.next (WP.ret ?_)
 refine WP.fn .ret (.inr rfl) (res1 rfl rfl) L9 (Imm.le_trans hJ2 hJ3) ?_; exact ⟨rfl, hd2⟩

end Go.Hp
