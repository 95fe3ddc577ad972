import Derived.Test.YtelkknmnnmmoaaaSupB
set_option linter.unusedVariables false
set_option linter.unusedSimpArgs false
namespace Go.Hp
open Go Go.Proofs

instance (s : Sp) : Decidable s.may := decidable_of_iff ((1 ≤ s.no ∧ s.no ≤ 4294967295) ∧ (1 ≤ s.era ∧ s.era ≤ 4294967295) ∧ (0 ≤ s.place ∧ s.place ≤ 1099511627776) ∧ (0 ≤ s.upto ∧ s.upto ≤ 1099511627776) ∧ (0 ≤ s.first ∧ s.first ≤ 68719476736)) ⟨fun h => ⟨h.1, h.2.1, h.2.2.1, h.2.2.2.1, h.2.2.2.2⟩, fun h => ⟨h.no, h.era, h.place, h.upto, h.first⟩⟩
def cut (bs : List UInt8) (l h : Nat) : List UInt8 := (bs.drop l).take (h - l)
theorem super_numSub {I : Imm} {b T l h N : Nat} {bs : List UInt8} (h1 : l ≤ h) (h2 : h ≤ N) (h3 : h - l ≤ 6) (hN : bs.length = N) : Spec Try.prog 34 [subSl 1 l h (.slice (some ⟨b, 0, none⟩) N N)] I [(b, row T (bytesV bs))] (fun v J L => v = .int .i64 (leN (cut bs l h) : Int) ∧ I = J ∧ L = [(b, row T (bytesV bs))]) :=
  (Spec.lend (R := fun v _ L' => v = .int .i64 (leN (cut bs l h) : Int) ∧ L' = []) (fun J hJ hb' => (super_number (bs := cut bs l h) (by
    have hh := (SlAt.arr (b := b) (k := 0) (n := N)).sub (sz := 1) h1 h2
    have hh2 := hh.rdB (V := fun b o => J.blk b = some o) (T := T) (l := bs) hb' (by omega)
    have e : (cut bs l h).length = h - l := by simp [cut]; omega
    rw [e]
    simpa [cut] using hh2) (by simp [cut]; omega)).mono (by
      rintro v J' L' _ ⟨rfl, rfl, rfl⟩
      have := leN_lt (cut bs l h)
      have h4 : 2 ^ (8 * (cut bs l h).length) ≤ 2 ^ 48 := Nat.pow_le_pow_right (by decide) (by simp [cut]; omega)
      exact ⟨rfl, by rw [bv_small (by omega)], rfl⟩))).mono (by rintro v J' L' _ ⟨rfl, L1, rfl, rfl, rfl⟩; exact ⟨rfl, rfl, rfl⟩)
theorem super_Encode {I : Imm} {s : Sp} : Spec Try.prog 9 [.agg (spV s).toArray] I [] (fun v J L => (s.may ∧ ∃ b vb, v = .tuple #[vb, .int .i64 0] ∧ SlAt vb b 0 64 ∧ L = [(b, row 61 (bytesV (enc s)))]) ∨ (¬ s.may ∧ v = .tuple #[.slice none 0 0, .int .i64 1] ∧ I = J ∧ L = [])) := by
  refine Spec.of Try.func9 rfl Try.ntmps9 (Nat.le_of_ble_eq_true rfl) (fun F => ?_)
  try simp only [List.cons_append, List.nil_append, List.append_assoc]
  dsimp only [argsEnv]
  refine WP.seq ?_
  refine WP.region [0, 1, 2] rfl ?_
  refine WP.loud rfl rfl ?_
  refine Op.box rfl rfl rfl rfl rfl (fun b1 => ?_)
  refine WP.val rfl rfl rfl rfl (Yld.assign rfl rfl) ?_
  refine WP.val rfl rfl rfl rfl (Yld.assign rfl rfl) ?_
  refine WP.nil ?_
  refine WP.next ?_
  refine WP.seq ?_
  refine WP.seq ?_
  refine WP.region [0, 1, 2] rfl ?_
  refine WP.val rfl rfl rfl rfl (Yld.loadAll rfl ty_ag_23 rfl (by repeat (first | exact There.h | exact There.i (by assumption) | apply There.t | apply There.s)) rfl) ?_
  refine WP.loud rfl rfl ?_
  refine Op.call super_may rfl Try.func30 rfl rfl rfl rfl (by repeat (first | exact Take.nil | with_reducible apply Take.cons | apply Take.app | exact Rm.chunk | exact Rm.here | exact Rm.nil0 | apply Rm.skip | apply Rm.skipS | (focus (apply Take.all; (repeat (first | exact Rm.chunk | exact Rm.here | exact Rm.nil0 | apply Rm.skip | apply Rm.skipS)); done)) | apply Take.cons)) ?_
  rintro v J L1 hJ ⟨bm, rfl, hbm, rfl, rfl⟩
  clear hJ; try simp only [List.cons_append, List.nil_append, List.append_assoc]
  by_cases hm : bm = true
  · rw [hm]
    refine WP.val rfl rfl rfl rfl (Yld.not rfl rfl) ?_
    refine WP.nil ?_
    refine WP.sub [(0, _), (1, _), (2, _), (3, _), (7, _)] ?_ ⟨rfl, rfl, rfl, rfl, rfl, trivial⟩
    refine WP.next ?_
    refine WP.condF rfl ?_
    refine WP.skip ?_
    refine WP.next ?_
    refine WP.seq ?_
    refine WP.region [0, 1, 2, 3] rfl ?_
    refine WP.val rfl rfl rfl rfl (Yld.loadAll rfl ty_ag_23 rfl (by repeat (first | exact There.h | exact There.i (by assumption) | apply There.t | apply There.s)) rfl) ?_
    refine WP.loud rfl rfl ?_
    refine Op.call (super_laid (hbm.1 hm)) rfl Try.func31 rfl rfl rfl rfl (by repeat (first | exact Take.nil | with_reducible apply Take.cons | apply Take.app | exact Rm.chunk | exact Rm.here | exact Rm.nil0 | apply Rm.skip | apply Rm.skipS | (focus (apply Take.all; (repeat (first | exact Rm.chunk | exact Rm.here | exact Rm.nil0 | apply Rm.skip | apply Rm.skipS)); done)) | apply Take.cons)) ?_
    rintro v J2 L1 hJ2 ⟨rfl, rfl⟩
    try simp only [List.cons_append, List.nil_append, List.append_assoc]
    refine WP.loud rfl rfl ?_
    refine Op.alloc rfl rfl rfl form_zr (fun b4 => ?_)
    refine WP.loud rfl rfl ?_
    refine Op.storeAll rfl rfl ty_sz_61 rfl rfl (by rw [bytesV_len, enc_len]) (bytesV_one _) (by repeat (first | exact Upd.head | apply Upd.tail | apply Upd.tailS)) (by rw [bytesV_len]; rfl) ?_
    refine WP.nil ?_
    refine WP.sub [(0, _), (1, _), (2, _), (3, _), (4, _), (7, _)] ?_ ⟨rfl, rfl, rfl, rfl, rfl, rfl, trivial⟩
    refine WP.next ?_
    refine WP.seq ?_
    refine WP.region [0, 1, 2] rfl ?_
    refine WP.val rfl rfl rfl rfl (Yld.sliceA rfl ty_ar_61 rfl Env.lim0 Env.lim0 (Nat.zero_le _) (Nat.le_refl _)) ?_
    refine WP.val rfl rfl rfl rfl (Yld.assign rfl rfl) ?_
    refine WP.val rfl rfl rfl rfl (Yld.assign rfl rfl) ?_
    refine WP.nil ?_
    refine WP.sub [(0, _), (1, _), (2, _), (3, _), (4, _), (7, _)] ?_ ⟨rfl, rfl, rfl, rfl, rfl, rfl, trivial⟩
    refine WP.next ?_
    refine WP.ret ?_
    refine WP.fin .ret (.inr rfl) (res2 rfl rfl rfl) [(b4, _)] (by repeat (first | exact Take.nil | with_reducible apply Take.cons | apply Take.app | exact Rm.chunk | exact Rm.here | exact Rm.nil0 | apply Rm.skip | apply Rm.skipS | (focus (apply Take.all; (repeat (first | exact Rm.chunk | exact Rm.here | exact Rm.nil0 | apply Rm.skip | apply Rm.skipS)); done)) | apply Take.cons)) (by repeat (first | exact Leave.done | apply Leave.drop | apply Leave.dropS)) hJ2 ?_
    exact .inl ⟨hbm.1 hm, b4, _, rfl, SlAt.arr.sub (sz := 1) (Nat.zero_le _) (Nat.le_refl _), rfl⟩
  · have hm : bm = false := by simpa using hm
    rw [hm]
    refine WP.val rfl rfl rfl rfl (Yld.not rfl rfl) ?_
    refine WP.nil ?_
    refine WP.sub [(0, _), (1, _), (2, _), (3, _), (7, _)] ?_ ⟨rfl, rfl, rfl, rfl, rfl, trivial⟩
    refine WP.next ?_
    refine WP.condT rfl ?_
    refine WP.seq ?_
    refine WP.region [0, 1] rfl ?_
    refine WP.val rfl rfl rfl rfl (Yld.assign rfl rfl) ?_
    refine WP.val rfl rfl rfl rfl (Yld.assign rfl rfl) ?_
    refine WP.nil ?_
    refine WP.next ?_
    refine WP.ret ?_
    refine WP.fin .ret (.inr rfl) (res2 rfl rfl rfl) [] (by repeat (first | exact Take.nil | with_reducible apply Take.cons | apply Take.app | exact Rm.chunk | exact Rm.here | exact Rm.nil0 | apply Rm.skip | apply Rm.skipS | (focus (apply Take.all; (repeat (first | exact Rm.chunk | exact Rm.here | exact Rm.nil0 | apply Rm.skip | apply Rm.skipS)); done)) | apply Take.cons)) (by repeat (first | exact Leave.done | apply Leave.drop | apply Leave.dropS)) (Imm.le_refl _) ?_
    exact .inr ⟨fun h => (by have := hbm.2 h; rw [hm] at this; cases this), rfl, rfl, rfl⟩


end Go.Hp
