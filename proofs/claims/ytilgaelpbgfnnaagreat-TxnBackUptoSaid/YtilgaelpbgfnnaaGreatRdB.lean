import Derived.Test.YtilgaelpbgfnnaaGreatRdA
set_option linter.unusedVariables false
set_option linter.unusedSimpArgs false
namespace Go.Hp
open Go Go.Proofs

theorem code_number {I : Imm} {most : Nat} {b : List UInt8} {vb : Value} (hb : SlRd (Im I) vb b.length 1 (bytesV b)) (hl : b.length ≤ 140737488355328) : Spec Tryz.prog 127 [vb, .int .u64 (most : Int)] I [] (fun v J L => v = .tuple #[.int .u64 ((rdN most 10 0 0 b).1 : Int), .int .i64 ((rdN most 10 0 0 b).2.1 : Int), .int .i64 (rdN most 10 0 0 b).2.2] ∧ I = J ∧ L = []) := by
 obtain ⟨Ab, cb, rfl, _, _, _⟩ := id hb
 refine Spec.of Tryz.func127 rfl Tryz.ntmps127 (Nat.le_of_ble_eq_true rfl) (fun F => ?_)
 try simp only [nf]
 dsimp only [argsEnv]
 refine WP.seq ?_
 refine WP.region [0, 1, 2] rfl ?_
 iterate 3 refine WP.mv rfl rfl ?_
 refine WP.nil ?_
 refine WP.next ?_
 refine WP.seq ?_
 refine WP.region [0] rfl ?_
 refine WP.mv rfl rfl ?_
 refine WP.nil ?_
 refine WP.next ?_
 refine WP.seq ?_
 refine WP.seq ?_
 refine WP.region [0] rfl ?_
 refine WP.mv rfl rfl ?_
 refine WP.nil ?_
 refine WP.next ?_
 refine WP.block ?_
 refine WP.loop (X := Nat × Nat) (fun t : Nat × Nat => [(0, .slice Ab b.length cb), (1, .int .u64 (most : Int)), (7, .int .u64 (t.2 : Int)), (10, .int .i64 (t.1 : Int))]) (fun _ => I) (fun _ : Nat × Nat => F) (fun t : Nat × Nat => t.1 ≤ 10 ∧ t.1 ≤ b.length ∧ t.2 < 18446744073709551616 ∧ rdN most (10 - t.1) t.1 t.2 (b.drop t.1) = (rdN most 10 0 0 b)) (fun t => 10 - t.1) (0, 0) ⟨Nat.zero_le _, Nat.zero_le _, by decide, rfl⟩ ⟨rfl, rfl, rfl, rfl, trivial⟩ rfl (by (try dsimp only); repeat (first | exact Rm.chunk | exact Rm.here | exact Rm.nil0 | apply Rm.skip | apply Rm.skipS | apply PX.cons | (apply PX.done; (repeat (first | exact Leave.done | apply Leave.drop | apply Leave.dropS)); done) | apply PX.app)) ?_
 rintro ⟨i, a⟩ ⟨h10, hib, ha, hinv⟩; dsimp only at h10 hib ha hinv
 try dsimp only
 try simp only [nf]
 refine WP.seq ?_
 refine WP.region [0] rfl ?_
 refine WP.split rfl rfl rfl rfl (Yld.lss rfl rfl rfl) (fun hlt => ?_) (fun hlt => ?_)
 ·refine WP.nil ?_
  refine WP.next ?_
  refine WP.seq ?_
  refine WP.condT rfl ?_
  refine WP.skip ?_
  refine WP.next ?_
  refine WP.seq ?_
  refine WP.block ?_
  refine WP.seq ?_
  refine WP.region [0, 1] rfl ?_
  iterate 2 refine WP.mv rfl rfl ?_
  refine WP.nil ?_
  refine WP.sub [(0, _), (1, _), (7, _), (8, _), (10, _), (11, _)] ?_ ⟨rfl, rfl, rfl, rfl, rfl, rfl, trivial⟩
  refine WP.next ?_
  refine WP.seq ?_
  refine WP.seq ?_
  refine WP.region [0, 1, 2, 3] rfl ?_
  iterate 2 refine WP.mv rfl rfl ?_
  refine WP.vl rfl (Yld.len rfl ty_sl_49 rfl) ?_
  refine WP.split rfl rfl rfl rfl (Yld.eql rfl rfl rfl) (fun heq => ?_) (fun heq => ?_)
  ·have hbe : b.drop i = [] := List.drop_eq_nil_of_le (by omega)
   obtain ⟨k, hk⟩ : ∃ k, 10 - i = k + 1 := ⟨9 - i, by omega⟩
   rw [hk, hbe] at hinv
   refine WP.nil ?_
   refine WP.sub [(0, _), (1, _), (7, _), (8, _), (10, _), (11, _), (16, _)] ?_ ⟨rfl, rfl, rfl, rfl, rfl, rfl, rfl, trivial⟩
   refine WP.next ?_
   refine WP.condT rfl ?_
   refine WP.seq ?_
   refine WP.region [0, 1, 2] rfl ?_
   iterate 3 refine WP.mv rfl rfl ?_
   refine WP.nil ?_
   refine WP.next ?_
   refine WP.ret ?_
   refine WP.fn .ret (.inr rfl) (res3 rfl rfl rfl rfl) [] (Imm.le_refl _) ?_
   rw [← hinv]; exact ⟨rfl, rfl, rfl⟩
  ·have hi : i < b.length := by omega
   obtain ⟨bb, kb, cb2, Tb, fb, arb, eb, hbb, hxb⟩ := hb.byte hi
   injection eb with eb1 _ eb2; subst eb1; subst eb2
   obtain ⟨x, hx⟩ : ∃ x, x = b[i] := ⟨_, rfl⟩
   rw [← hx] at hxb
   have hx8 := x.toNat_lt
   have hdr : b.drop i = x :: b.drop (i + 1) := by rw [List.drop_eq_getElem_cons hi, hx]
   obtain ⟨k, hk⟩ : ∃ k, 10 - i = k + 1 := ⟨9 - i, by omega⟩
   rw [hk, hdr, rdN] at hinv
   refine WP.nil ?_
   refine WP.sub [(0, _), (1, _), (7, _), (8, _), (10, _), (11, _), (16, _)] ?_ ⟨rfl, rfl, rfl, rfl, rfl, rfl, rfl, trivial⟩
   refine WP.next ?_
   refine WP.condF rfl ?_
   refine WP.skip ?_
   refine WP.next ?_
   refine WP.seq ?_
   refine WP.region [0, 1, 2, 3, 4] rfl ?_
   iterate 2 refine WP.mv rfl rfl ?_
   refine WP.vl rfl (Yld.indexAddr (i := i) rfl ty_sl_49 rfl rfl hi) ?_
   refine WP.vl rfl (Yld.loadC (v := .int .u8 (x.toNat : Int)) rfl ty_sc_5 rfl (There.i hbb) hxb) ?_
   refine WP.mv rfl rfl ?_
   refine WP.nil ?_
   refine WP.sub [(0, _), (1, _), (7, _), (8, _), (9, _), (10, _), (11, _), (16, _)] ?_ ⟨rfl, rfl, rfl, rfl, rfl, rfl, rfl, rfl, trivial⟩
   refine WP.next ?_
   refine WP.seq ?_
   refine WP.block ?_
   refine WP.seq ?_
   refine WP.region [0, 1, 2] rfl ?_
   refine WP.mv rfl rfl ?_
   refine WP.split rfl rfl rfl rfl (Yld.geq rfl rfl rfl) (fun hc => ?_) (fun hc => ?_)
   ·refine WP.mv rfl rfl ?_
    refine WP.nil ?_
    refine WP.sub [(0, _), (1, _), (7, _), (8, _), (9, _), (10, _), (11, _), (16, _), (21, _)] ?_ ⟨rfl, rfl, rfl, rfl, rfl, rfl, rfl, rfl, rfl, trivial⟩
    refine WP.next ?_
    refine WP.condT rfl ?_
    refine WP.seq ?_
    refine WP.region [0, 1, 2, 3, 4, 5, 6, 7, 8] rfl ?_
    iterate 2 refine WP.mv rfl rfl ?_
    refine WP.vl rfl (Yld.sub8N x.toNat 128 (by omega) (by omega) rfl rfl rfl) ?_
    refine WP.vl rfl (Yld.conv64u (x.toNat - 128) rfl ty_un_5 ty_ik_40 rfl (by omega)) ?_
    refine WP.mv rfl rfl ?_
    refine WP.vl rfl (Yld.mul64 rfl rfl rfl (by omega)) ?_
    refine WP.vl rfl (Yld.shlU64 (x.toNat - 128) (7 * i) rfl rfl (congrArg (fun z => some (Value.int .i64 z)) (show (7 : Int) * (i : Int) = ((7 * i : Nat) : Int) by omega)) (by omega)) ?_
    refine WP.vl rfl (Yld.orU64 a _ ha (Nat.mod_lt _ (by decide)) rfl rfl rfl) ?_
    refine WP.mv rfl rfl ?_
    refine WP.nil ?_
    refine WP.sub [(0, _), (1, _), (7, _), (8, _), (9, _), (10, _), (11, _), (16, _), (21, _)] ?_ ⟨rfl, rfl, rfl, rfl, rfl, rfl, rfl, rfl, rfl, trivial⟩
    refine WP.next ?_
    refine WP.exit ?_
    refine WP.miss rfl ?_
    refine WP.thenE ?_
    refine WP.hit ?_
    refine WP.next ?_
    refine WP.region [0, 1] rfl ?_
    refine WP.vl rfl (Yld.add64 rfl rfl rfl (by omega)) ?_
    refine WP.mv rfl rfl ?_
    refine WP.nil ?_
    refine WP.sub [(0, _), (1, _), (7, _), (8, _), (9, _), (10, _), (11, _), (16, _), (21, _)] ?_ ⟨rfl, rfl, rfl, rfl, rfl, rfl, rfl, rfl, rfl, trivial⟩
    exact WP.ag (i + 1, a ||| ((x.toNat - 128) * 2 ^ (7 * i) % 18446744073709551616)) ⟨by omega, hi, Nat.or_lt_two_pow (n := 64) ha (Nat.mod_lt _ (by decide)), by dsimp only; rw [if_pos (by omega)] at hinv; rw [show 10 - (i + 1) = k by omega]; exact hinv⟩ (show 10 - (i + 1) < 10 - i by omega) ⟨rfl, rfl, rfl, rfl, trivial⟩ rfl
   ·refine WP.mv rfl rfl ?_
    refine WP.nil ?_
    refine WP.sub [(0, _), (1, _), (7, _), (8, _), (9, _), (10, _), (11, _), (16, _), (21, _)] ?_ ⟨rfl, rfl, rfl, rfl, rfl, rfl, rfl, rfl, rfl, trivial⟩
    refine WP.next ?_
    refine WP.condF rfl ?_
    refine WP.seq ?_
    refine WP.region [0, 1, 2, 3, 4, 5, 6] rfl ?_
    refine WP.mv rfl rfl ?_
    refine WP.split rfl rfl rfl rfl (Yld.eql rfl rfl rfl) (fun hz => ?_) (fun hz => ?_)
    ·refine WP.mv rfl rfl ?_
     refine WP.valG rfl rfl rfl rfl rfl rfl rfl (Yld.move rfl rfl) ?_
     refine WP.splitG rfl rfl rfl rfl rfl rfl rfl (Yld.gtr rfl rfl rfl) (fun hz0 => ?_) (fun hz0 => ?_)
     ·refine WP.vl rfl (Yld.pickT rfl rfl rfl) ?_
      refine WP.mv rfl rfl ?_
      refine WP.nil ?_
      refine WP.sub [(0, _), (1, _), (7, _), (8, _), (9, _), (10, _), (11, _), (16, _), (21, _), (32, _)] ?_ ⟨rfl, rfl, rfl, rfl, rfl, rfl, rfl, rfl, rfl, rfl, trivial⟩
      refine WP.next ?_
      refine WP.condT rfl ?_
      refine WP.seq ?_
      refine WP.region [0, 1, 2] rfl ?_
      iterate 3 refine WP.mv rfl rfl ?_
      refine WP.nil ?_
      refine WP.next ?_
      refine WP.ret ?_
      refine WP.fn .ret (.inr rfl) (res3 rfl rfl rfl rfl) [] (Imm.le_refl _) ?_
      rw [if_neg (by omega)] at hinv
      rw [if_pos ⟨by omega, by omega⟩] at hinv
      rw [← hinv]; exact ⟨rfl, rfl, rfl⟩
     ·refine WP.vl rfl (Yld.pickT rfl rfl rfl) ?_
      refine WP.mv rfl rfl ?_
      refine WP.nil ?_
      refine WP.sub [(0, _), (1, _), (7, _), (8, _), (9, _), (10, _), (11, _), (16, _), (21, _), (32, _)] ?_ ⟨rfl, rfl, rfl, rfl, rfl, rfl, rfl, rfl, rfl, rfl, trivial⟩
      refine WP.next ?_
      refine WP.condF rfl ?_
      refine WP.seq ?_
      refine WP.region [0, 1, 2, 3, 4, 5, 6] rfl ?_
      refine WP.mv rfl rfl ?_
      refine WP.split rfl rfl rfl rfl (Yld.eql rfl rfl rfl) (fun h9 => ?_) (fun h9 => ?_)
      ·refine WP.mv rfl rfl ?_
       refine WP.valG rfl rfl rfl rfl rfl rfl rfl (Yld.move rfl rfl) ?_
       refine WP.splitG rfl rfl rfl rfl rfl rfl rfl (Yld.gtr rfl rfl rfl) (fun h91 => ?_) (fun h91 => ?_)
       ·refine WP.vl rfl (Yld.pickT rfl rfl rfl) ?_
        refine WP.mv rfl rfl ?_
        refine WP.nil ?_
        refine WP.sub [(0, _), (1, _), (7, _), (8, _), (9, _), (10, _), (11, _), (16, _), (21, _), (32, _), (39, _)] ?_ ⟨rfl, rfl, rfl, rfl, rfl, rfl, rfl, rfl, rfl, rfl, rfl, trivial⟩
        refine WP.next ?_
        refine WP.condT rfl ?_
        refine WP.seq ?_
        refine WP.region [0, 1, 2] rfl ?_
        iterate 3 refine WP.mv rfl rfl ?_
        refine WP.nil ?_
        refine WP.next ?_
        refine WP.ret ?_
        refine WP.fn .ret (.inr rfl) (res3 rfl rfl rfl rfl) [] (Imm.le_refl _) ?_
        rw [if_neg (by omega)] at hinv
        rw [if_neg (by omega)] at hinv
        rw [if_pos ⟨by omega, by omega⟩] at hinv
        rw [← hinv]; exact ⟨rfl, rfl, rfl⟩
       ·refine WP.vl rfl (Yld.pickT rfl rfl rfl) ?_
        refine WP.mv rfl rfl ?_
        refine WP.nil ?_
        refine WP.sub [(0, _), (1, _), (7, _), (8, _), (9, _), (10, _), (11, _), (16, _), (21, _), (32, _), (39, _)] ?_ ⟨rfl, rfl, rfl, rfl, rfl, rfl, rfl, rfl, rfl, rfl, rfl, trivial⟩
        refine WP.next ?_
        refine WP.condF rfl ?_
        refine WP.skip ?_
        refine WP.leave ?_
        refine WP.next ?_
        refine WP.seq ?_
        refine WP.region [0, 1, 2, 3, 4, 5, 6, 7] rfl ?_
        iterate 2 refine WP.mv rfl rfl ?_
        refine WP.vl rfl (Yld.conv64u x.toNat rfl ty_un_5 ty_ik_40 rfl (by omega)) ?_
        refine WP.mv rfl rfl ?_
        refine WP.vl rfl (Yld.mul64 rfl rfl rfl (by omega)) ?_
        refine WP.vl rfl (Yld.shlU64 x.toNat (7 * i) rfl rfl (congrArg (fun z => some (Value.int .i64 z)) (show (7 : Int) * (i : Int) = ((7 * i : Nat) : Int) by omega)) (by omega)) ?_
        refine WP.vl rfl (Yld.orU64 a _ ha (Nat.mod_lt _ (by decide)) rfl rfl rfl) ?_
        refine WP.mv rfl rfl ?_
        refine WP.nil ?_
        refine WP.sub [(0, _), (1, _), (7, _), (8, _), (9, _), (10, _), (11, _), (16, _), (21, _), (32, _), (39, _)] ?_ ⟨rfl, rfl, rfl, rfl, rfl, rfl, rfl, rfl, rfl, rfl, rfl, trivial⟩
        refine WP.next ?_
        refine WP.seq ?_
        refine WP.seq ?_
        refine WP.region [0, 1, 2] rfl ?_
        iterate 2 refine WP.mv rfl rfl ?_
        refine WP.split rfl rfl rfl rfl (Yld.gtr rfl rfl rfl) (fun hbig => ?_) (fun hbig => ?_)
        ·refine WP.nil ?_
         refine WP.sub [(0, _), (1, _), (7, _), (8, _), (9, _), (10, _), (11, _), (16, _), (21, _), (32, _), (39, _), (55, _)] ?_ ⟨rfl, rfl, rfl, rfl, rfl, rfl, rfl, rfl, rfl, rfl, rfl, rfl, trivial⟩
         refine WP.next ?_
         refine WP.condT rfl ?_
         refine WP.seq ?_
         refine WP.region [0, 1, 2] rfl ?_
         iterate 3 refine WP.mv rfl rfl ?_
         refine WP.nil ?_
         refine WP.next ?_
         refine WP.ret ?_
         refine WP.fn .ret (.inr rfl) (res3 rfl rfl rfl rfl) [] (Imm.le_refl _) ?_
         rw [if_neg (by omega)] at hinv
         rw [if_neg (by omega)] at hinv
         rw [if_neg (by omega)] at hinv
         rw [if_pos (by omega)] at hinv
         rw [← hinv]; exact ⟨rfl, rfl, rfl⟩
        ·refine WP.nil ?_
         refine WP.sub [(0, _), (1, _), (7, _), (8, _), (9, _), (10, _), (11, _), (16, _), (21, _), (32, _), (39, _), (55, _)] ?_ ⟨rfl, rfl, rfl, rfl, rfl, rfl, rfl, rfl, rfl, rfl, rfl, rfl, trivial⟩
         refine WP.next ?_
         refine WP.condF rfl ?_
         refine WP.skip ?_
         refine WP.next ?_
         refine WP.seq ?_
         refine WP.region [0, 1, 2, 3, 4, 5] rfl ?_
         iterate 2 refine WP.mv rfl rfl ?_
         refine WP.vl rfl (Yld.add64 rfl rfl rfl (by omega)) ?_
         iterate 3 refine WP.mv rfl rfl ?_
         refine WP.nil ?_
         refine WP.sub [(0, _), (1, _), (4, _), (5, _), (6, _), (7, _), (8, _), (9, _), (10, _), (11, _), (16, _), (21, _), (32, _), (39, _), (55, _)] ?_ ⟨rfl, rfl, rfl, rfl, rfl, rfl, rfl, rfl, rfl, rfl, rfl, rfl, rfl, rfl, rfl, trivial⟩
         refine WP.next ?_
         refine WP.ret ?_
         refine WP.fn .ret (.inr rfl) (res3 rfl rfl rfl rfl) [] (Imm.le_refl _) ?_
         rw [if_neg (by omega)] at hinv
         rw [if_neg (by omega)] at hinv
         rw [if_neg (by omega)] at hinv
         rw [if_neg (by omega)] at hinv
         rw [← hinv]; exact ⟨rfl, rfl, rfl⟩
      ·refine WP.mv rfl rfl ?_
       refine WP.passG rfl rfl rfl rfl rfl rfl rfl rfl ?_
       refine WP.passG rfl rfl rfl rfl rfl rfl rfl rfl ?_
       refine WP.vl rfl (Yld.pickF rfl rfl rfl) ?_
       refine WP.mv rfl rfl ?_
       refine WP.nil ?_
       refine WP.sub [(0, _), (1, _), (7, _), (8, _), (9, _), (10, _), (11, _), (16, _), (21, _), (32, _), (39, _)] ?_ ⟨rfl, rfl, rfl, rfl, rfl, rfl, rfl, rfl, rfl, rfl, rfl, trivial⟩
       refine WP.next ?_
       refine WP.condF rfl ?_
       refine WP.skip ?_
       refine WP.leave ?_
       refine WP.next ?_
       refine WP.seq ?_
       refine WP.region [0, 1, 2, 3, 4, 5, 6, 7] rfl ?_
       iterate 2 refine WP.mv rfl rfl ?_
       refine WP.vl rfl (Yld.conv64u x.toNat rfl ty_un_5 ty_ik_40 rfl (by omega)) ?_
       refine WP.mv rfl rfl ?_
       refine WP.vl rfl (Yld.mul64 rfl rfl rfl (by omega)) ?_
       refine WP.vl rfl (Yld.shlU64 x.toNat (7 * i) rfl rfl (congrArg (fun z => some (Value.int .i64 z)) (show (7 : Int) * (i : Int) = ((7 * i : Nat) : Int) by omega)) (by omega)) ?_
       refine WP.vl rfl (Yld.orU64 a _ ha (Nat.mod_lt _ (by decide)) rfl rfl rfl) ?_
       refine WP.mv rfl rfl ?_
       refine WP.nil ?_
       refine WP.sub [(0, _), (1, _), (7, _), (8, _), (9, _), (10, _), (11, _), (16, _), (21, _), (32, _), (39, _)] ?_ ⟨rfl, rfl, rfl, rfl, rfl, rfl, rfl, rfl, rfl, rfl, rfl, trivial⟩
       refine WP.next ?_
       refine WP.seq ?_
       refine WP.seq ?_
       refine WP.region [0, 1, 2] rfl ?_
       iterate 2 refine WP.mv rfl rfl ?_
       refine WP.split rfl rfl rfl rfl (Yld.gtr rfl rfl rfl) (fun hbig => ?_) (fun hbig => ?_)
       ·refine WP.nil ?_
        refine WP.sub [(0, _), (1, _), (7, _), (8, _), (9, _), (10, _), (11, _), (16, _), (21, _), (32, _), (39, _), (55, _)] ?_ ⟨rfl, rfl, rfl, rfl, rfl, rfl, rfl, rfl, rfl, rfl, rfl, rfl, trivial⟩
        refine WP.next ?_
        refine WP.condT rfl ?_
        refine WP.seq ?_
        refine WP.region [0, 1, 2] rfl ?_
        iterate 3 refine WP.mv rfl rfl ?_
        refine WP.nil ?_
        refine WP.next ?_
        refine WP.ret ?_
        refine WP.fn .ret (.inr rfl) (res3 rfl rfl rfl rfl) [] (Imm.le_refl _) ?_
        rw [if_neg (by omega)] at hinv
        rw [if_neg (by omega)] at hinv
        rw [if_neg (by omega)] at hinv
        rw [if_pos (by omega)] at hinv
        rw [← hinv]; exact ⟨rfl, rfl, rfl⟩
       ·refine WP.nil ?_
        refine WP.sub [(0, _), (1, _), (7, _), (8, _), (9, _), (10, _), (11, _), (16, _), (21, _), (32, _), (39, _), (55, _)] ?_ ⟨rfl, rfl, rfl, rfl, rfl, rfl, rfl, rfl, rfl, rfl, rfl, rfl, trivial⟩
        refine WP.next ?_
        refine WP.condF rfl ?_
        refine WP.skip ?_
        refine WP.next ?_
        refine WP.seq ?_
        refine WP.region [0, 1, 2, 3, 4, 5] rfl ?_
        iterate 2 refine WP.mv rfl rfl ?_
        refine WP.vl rfl (Yld.add64 rfl rfl rfl (by omega)) ?_
        iterate 3 refine WP.mv rfl rfl ?_
        refine WP.nil ?_
        refine WP.sub [(0, _), (1, _), (4, _), (5, _), (6, _), (7, _), (8, _), (9, _), (10, _), (11, _), (16, _), (21, _), (32, _), (39, _), (55, _)] ?_ ⟨rfl, rfl, rfl, rfl, rfl, rfl, rfl, rfl, rfl, rfl, rfl, rfl, rfl, rfl, rfl, trivial⟩
        refine WP.next ?_
        refine WP.ret ?_
        refine WP.fn .ret (.inr rfl) (res3 rfl rfl rfl rfl) [] (Imm.le_refl _) ?_
        rw [if_neg (by omega)] at hinv
        rw [if_neg (by omega)] at hinv
        rw [if_neg (by omega)] at hinv
        rw [if_neg (by omega)] at hinv
        rw [← hinv]; exact ⟨rfl, rfl, rfl⟩
    ·refine WP.mv rfl rfl ?_
     refine WP.passG rfl rfl rfl rfl rfl rfl rfl rfl ?_
     refine WP.passG rfl rfl rfl rfl rfl rfl rfl rfl ?_
     refine WP.vl rfl (Yld.pickF rfl rfl rfl) ?_
     refine WP.mv rfl rfl ?_
     refine WP.nil ?_
     refine WP.sub [(0, _), (1, _), (7, _), (8, _), (9, _), (10, _), (11, _), (16, _), (21, _), (32, _)] ?_ ⟨rfl, rfl, rfl, rfl, rfl, rfl, rfl, rfl, rfl, rfl, trivial⟩
     refine WP.next ?_
     refine WP.condF rfl ?_
     refine WP.seq ?_
     refine WP.region [0, 1, 2, 3, 4, 5, 6] rfl ?_
     refine WP.mv rfl rfl ?_
     refine WP.split rfl rfl rfl rfl (Yld.eql rfl rfl rfl) (fun h9 => ?_) (fun h9 => ?_)
     ·refine WP.mv rfl rfl ?_
      refine WP.valG rfl rfl rfl rfl rfl rfl rfl (Yld.move rfl rfl) ?_
      refine WP.splitG rfl rfl rfl rfl rfl rfl rfl (Yld.gtr rfl rfl rfl) (fun h91 => ?_) (fun h91 => ?_)
      ·refine WP.vl rfl (Yld.pickT rfl rfl rfl) ?_
       refine WP.mv rfl rfl ?_
       refine WP.nil ?_
       refine WP.sub [(0, _), (1, _), (7, _), (8, _), (9, _), (10, _), (11, _), (16, _), (21, _), (32, _), (39, _)] ?_ ⟨rfl, rfl, rfl, rfl, rfl, rfl, rfl, rfl, rfl, rfl, rfl, trivial⟩
       refine WP.next ?_
       refine WP.condT rfl ?_
       refine WP.seq ?_
       refine WP.region [0, 1, 2] rfl ?_
       iterate 3 refine WP.mv rfl rfl ?_
       refine WP.nil ?_
       refine WP.next ?_
       refine WP.ret ?_
       refine WP.fn .ret (.inr rfl) (res3 rfl rfl rfl rfl) [] (Imm.le_refl _) ?_
       rw [if_neg (by omega)] at hinv
       rw [if_neg (by omega)] at hinv
       rw [if_pos ⟨by omega, by omega⟩] at hinv
       rw [← hinv]; exact ⟨rfl, rfl, rfl⟩
      ·refine WP.vl rfl (Yld.pickT rfl rfl rfl) ?_
       refine WP.mv rfl rfl ?_
       refine WP.nil ?_
       refine WP.sub [(0, _), (1, _), (7, _), (8, _), (9, _), (10, _), (11, _), (16, _), (21, _), (32, _), (39, _)] ?_ ⟨rfl, rfl, rfl, rfl, rfl, rfl, rfl, rfl, rfl, rfl, rfl, trivial⟩
       refine WP.next ?_
       refine WP.condF rfl ?_
       refine WP.skip ?_
       refine WP.leave ?_
       refine WP.next ?_
       refine WP.seq ?_
       refine WP.region [0, 1, 2, 3, 4, 5, 6, 7] rfl ?_
       iterate 2 refine WP.mv rfl rfl ?_
       refine WP.vl rfl (Yld.conv64u x.toNat rfl ty_un_5 ty_ik_40 rfl (by omega)) ?_
       refine WP.mv rfl rfl ?_
       refine WP.vl rfl (Yld.mul64 rfl rfl rfl (by omega)) ?_
       refine WP.vl rfl (Yld.shlU64 x.toNat (7 * i) rfl rfl (congrArg (fun z => some (Value.int .i64 z)) (show (7 : Int) * (i : Int) = ((7 * i : Nat) : Int) by omega)) (by omega)) ?_
       refine WP.vl rfl (Yld.orU64 a _ ha (Nat.mod_lt _ (by decide)) rfl rfl rfl) ?_
       refine WP.mv rfl rfl ?_
       refine WP.nil ?_
       refine WP.sub [(0, _), (1, _), (7, _), (8, _), (9, _), (10, _), (11, _), (16, _), (21, _), (32, _), (39, _)] ?_ ⟨rfl, rfl, rfl, rfl, rfl, rfl, rfl, rfl, rfl, rfl, rfl, trivial⟩
       refine WP.next ?_
       refine WP.seq ?_
       refine WP.seq ?_
       refine WP.region [0, 1, 2] rfl ?_
       iterate 2 refine WP.mv rfl rfl ?_
       refine WP.split rfl rfl rfl rfl (Yld.gtr rfl rfl rfl) (fun hbig => ?_) (fun hbig => ?_)
       ·refine WP.nil ?_
        refine WP.sub [(0, _), (1, _), (7, _), (8, _), (9, _), (10, _), (11, _), (16, _), (21, _), (32, _), (39, _), (55, _)] ?_ ⟨rfl, rfl, rfl, rfl, rfl, rfl, rfl, rfl, rfl, rfl, rfl, rfl, trivial⟩
        refine WP.next ?_
        refine WP.condT rfl ?_
        refine WP.seq ?_
        refine WP.region [0, 1, 2] rfl ?_
        iterate 3 refine WP.mv rfl rfl ?_
        refine WP.nil ?_
        refine WP.next ?_
        refine WP.ret ?_
        refine WP.fn .ret (.inr rfl) (res3 rfl rfl rfl rfl) [] (Imm.le_refl _) ?_
        rw [if_neg (by omega)] at hinv
        rw [if_neg (by omega)] at hinv
        rw [if_neg (by omega)] at hinv
        rw [if_pos (by omega)] at hinv
        rw [← hinv]; exact ⟨rfl, rfl, rfl⟩
       ·refine WP.nil ?_
        refine WP.sub [(0, _), (1, _), (7, _), (8, _), (9, _), (10, _), (11, _), (16, _), (21, _), (32, _), (39, _), (55, _)] ?_ ⟨rfl, rfl, rfl, rfl, rfl, rfl, rfl, rfl, rfl, rfl, rfl, rfl, trivial⟩
        refine WP.next ?_
        refine WP.condF rfl ?_
        refine WP.skip ?_
        refine WP.next ?_
        refine WP.seq ?_
        refine WP.region [0, 1, 2, 3, 4, 5] rfl ?_
        iterate 2 refine WP.mv rfl rfl ?_
        refine WP.vl rfl (Yld.add64 rfl rfl rfl (by omega)) ?_
        iterate 3 refine WP.mv rfl rfl ?_
        refine WP.nil ?_
        refine WP.sub [(0, _), (1, _), (4, _), (5, _), (6, _), (7, _), (8, _), (9, _), (10, _), (11, _), (16, _), (21, _), (32, _), (39, _), (55, _)] ?_ ⟨rfl, rfl, rfl, rfl, rfl, rfl, rfl, rfl, rfl, rfl, rfl, rfl, rfl, rfl, rfl, trivial⟩
        refine WP.next ?_
        refine WP.ret ?_
        refine WP.fn .ret (.inr rfl) (res3 rfl rfl rfl rfl) [] (Imm.le_refl _) ?_
        rw [if_neg (by omega)] at hinv
        rw [if_neg (by omega)] at hinv
        rw [if_neg (by omega)] at hinv
        rw [if_neg (by omega)] at hinv
        rw [← hinv]; exact ⟨rfl, rfl, rfl⟩
     ·refine WP.mv rfl rfl ?_
      refine WP.passG rfl rfl rfl rfl rfl rfl rfl rfl ?_
      refine WP.passG rfl rfl rfl rfl rfl rfl rfl rfl ?_
      refine WP.vl rfl (Yld.pickF rfl rfl rfl) ?_
      refine WP.mv rfl rfl ?_
      refine WP.nil ?_
      refine WP.sub [(0, _), (1, _), (7, _), (8, _), (9, _), (10, _), (11, _), (16, _), (21, _), (32, _), (39, _)] ?_ ⟨rfl, rfl, rfl, rfl, rfl, rfl, rfl, rfl, rfl, rfl, rfl, trivial⟩
      refine WP.next ?_
      refine WP.condF rfl ?_
      refine WP.skip ?_
      refine WP.leave ?_
      refine WP.next ?_
      refine WP.seq ?_
      refine WP.region [0, 1, 2, 3, 4, 5, 6, 7] rfl ?_
      iterate 2 refine WP.mv rfl rfl ?_
      refine WP.vl rfl (Yld.conv64u x.toNat rfl ty_un_5 ty_ik_40 rfl (by omega)) ?_
      refine WP.mv rfl rfl ?_
      refine WP.vl rfl (Yld.mul64 rfl rfl rfl (by omega)) ?_
      refine WP.vl rfl (Yld.shlU64 x.toNat (7 * i) rfl rfl (congrArg (fun z => some (Value.int .i64 z)) (show (7 : Int) * (i : Int) = ((7 * i : Nat) : Int) by omega)) (by omega)) ?_
      refine WP.vl rfl (Yld.orU64 a _ ha (Nat.mod_lt _ (by decide)) rfl rfl rfl) ?_
      refine WP.mv rfl rfl ?_
      refine WP.nil ?_
      refine WP.sub [(0, _), (1, _), (7, _), (8, _), (9, _), (10, _), (11, _), (16, _), (21, _), (32, _), (39, _)] ?_ ⟨rfl, rfl, rfl, rfl, rfl, rfl, rfl, rfl, rfl, rfl, rfl, trivial⟩
      refine WP.next ?_
      refine WP.seq ?_
      refine WP.seq ?_
      refine WP.region [0, 1, 2] rfl ?_
      iterate 2 refine WP.mv rfl rfl ?_
      refine WP.split rfl rfl rfl rfl (Yld.gtr rfl rfl rfl) (fun hbig => ?_) (fun hbig => ?_)
      ·refine WP.nil ?_
       refine WP.sub [(0, _), (1, _), (7, _), (8, _), (9, _), (10, _), (11, _), (16, _), (21, _), (32, _), (39, _), (55, _)] ?_ ⟨rfl, rfl, rfl, rfl, rfl, rfl, rfl, rfl, rfl, rfl, rfl, rfl, trivial⟩
       refine WP.next ?_
       refine WP.condT rfl ?_
       refine WP.seq ?_
       refine WP.region [0, 1, 2] rfl ?_
       iterate 3 refine WP.mv rfl rfl ?_
       refine WP.nil ?_
       refine WP.next ?_
       refine WP.ret ?_
       refine WP.fn .ret (.inr rfl) (res3 rfl rfl rfl rfl) [] (Imm.le_refl _) ?_
       rw [if_neg (by omega)] at hinv
       rw [if_neg (by omega)] at hinv
       rw [if_neg (by omega)] at hinv
       rw [if_pos (by omega)] at hinv
       rw [← hinv]; exact ⟨rfl, rfl, rfl⟩
      ·refine WP.nil ?_
       refine WP.sub [(0, _), (1, _), (7, _), (8, _), (9, _), (10, _), (11, _), (16, _), (21, _), (32, _), (39, _), (55, _)] ?_ ⟨rfl, rfl, rfl, rfl, rfl, rfl, rfl, rfl, rfl, rfl, rfl, rfl, trivial⟩
       refine WP.next ?_
       refine WP.condF rfl ?_
       refine WP.skip ?_
       refine WP.next ?_
       refine WP.seq ?_
       refine WP.region [0, 1, 2, 3, 4, 5] rfl ?_
       iterate 2 refine WP.mv rfl rfl ?_
       refine WP.vl rfl (Yld.add64 rfl rfl rfl (by omega)) ?_
       iterate 3 refine WP.mv rfl rfl ?_
       refine WP.nil ?_
       refine WP.sub [(0, _), (1, _), (4, _), (5, _), (6, _), (7, _), (8, _), (9, _), (10, _), (11, _), (16, _), (21, _), (32, _), (39, _), (55, _)] ?_ ⟨rfl, rfl, rfl, rfl, rfl, rfl, rfl, rfl, rfl, rfl, rfl, rfl, rfl, rfl, rfl, trivial⟩
       refine WP.next ?_
       refine WP.ret ?_
       refine WP.fn .ret (.inr rfl) (res3 rfl rfl rfl rfl) [] (Imm.le_refl _) ?_
       rw [if_neg (by omega)] at hinv
       rw [if_neg (by omega)] at hinv
       rw [if_neg (by omega)] at hinv
       rw [if_neg (by omega)] at hinv
       rw [← hinv]; exact ⟨rfl, rfl, rfl⟩
 ·have h0 : 10 - i = 0 := by omega
  rw [h0] at hinv
  refine WP.nil ?_
  refine WP.next ?_
  refine WP.seq ?_
  refine WP.condF rfl ?_
  refine WP.exit ?_
  refine WP.thenE ?_
  refine WP.thenE ?_
  refine WP.hit ?_
  refine WP.next ?_
  refine WP.seq ?_
  refine WP.region [0, 1, 2] rfl ?_
  iterate 3 refine WP.mv rfl rfl ?_
  refine WP.nil ?_
  refine WP.next ?_
  refine WP.ret ?_
  refine WP.fn .ret (.inr rfl) (res3 rfl rfl rfl rfl) [] (Imm.le_refl _) ?_
  rw [← hinv]; exact ⟨rfl, rfl, rfl⟩


/-- A Reader. -/
inductive IsRd (I : Imm) (q : Nat) (s : Rs) : Chunks → Prop
 | mk {v : Value} (h : SlRd (Im I) v s.bs.length 1 (bytesV s.bs)) (hl : s.bs.length ≤ 140737488355328) : IsRd I q s [(q, row 228 [v, .int .i64 s.e])]
theorem IsRd.mk' {I : Imm} {q : Nat} {s : Rs} {v : Value} {e : Int} (h : SlRd (Im I) v s.bs.length 1 (bytesV s.bs)) (hl : s.bs.length ≤ 140737488355328) (he : e = s.e) : IsRd I q s [(q, row 228 [v, .int .i64 e])] := by
 subst he; exact .mk h hl
theorem IsRd.mono {I J : Imm} {q : Nat} {s : Rs} {L : Chunks} (h : IsRd I q s L) (hJ : I.le J) : IsRd J q s L := by
 cases h with | mk h hl => exact .mk (h.mono fun b o k => hJ.2 b o k) hl
theorem code_NewReader {I : Imm} {b : List UInt8} {vb : Value} (hb : SlRd (Im I) vb b.length 1 (bytesV b)) (hl : b.length ≤ 140737488355328) : Spec Tryz.prog 70 [vb] I [] (fun v J L => ∃ q, v = .pointer (some ⟨q, 0, none⟩) ∧ IsRd J q ⟨b, 0⟩ L) := by
 refine Spec.of Tryz.func70 rfl Tryz.ntmps70 (Nat.le_of_ble_eq_true rfl) (fun F => ?_)
 try simp only [nf]
 dsimp only [argsEnv]
 refine WP.seq ?_
 refine WP.region [0] rfl ?_
 refine WP.mv rfl rfl ?_
 refine WP.nil ?_
 refine WP.next ?_
 refine WP.seq ?_
 refine WP.region [0, 1, 2, 3, 4] rfl ?_
 refine WP.mv rfl rfl ?_
 refine WP.loud rfl rfl ?_
 refine Op.cl (code_copied hb hl) rfl Tryz.func126 rfl rfl rfl rfl ?_
 rintro v J Lc - ⟨rfl, hc⟩
 try simp only [nf]
 obtain ⟨Ac, cc, rfl, _⟩ := hc.slice
 refine WP.vl rfl (Yld.buildS (pl := [(0, 0, 1)]) rfl ty_zr_228 ty_zd_228 (by kernel_rfl) rfl (vs := [_]) rfl (segs := [(0, [_])]) rfl rfl (by repeat (first | exact SetSeg.nil | apply SetSeg.one | exact SetAt.zero | apply SetAt.succ))) ?_
 refine WP.loud rfl rfl ?_
 refine Op.box rfl rfl rfl rfl rfl (fun q => ?_)
 refine WP.mv rfl rfl ?_
 refine WP.nil ?_
 refine WP.sub [(0, _), (2, _)] ?_ ⟨rfl, rfl, trivial⟩
 refine WP.shO hc (fun J2 hJ2 hd => ?_)
 refine WP.next ?_
 refine WP.ret ?_
 refine WP.fn .ret (.inr rfl) (res1 rfl rfl) [(q, row 228 [(.slice Ac b.length cc), .int .i64 0])] hJ2 ?_
 exact ⟨q, rfl, .mk (s := ⟨b, 0⟩) hd hl⟩

theorem code_RNum {I : Imm} {q : Nat} {s : Rs} {L : Chunks} (hq : IsRd I q s L) {most : Nat} : Spec Tryz.prog 71 [.pointer (some ⟨q, 0, none⟩), .int .u64 (most : Int)] I L (fun v J L' => v = .int .u64 ((rNum most s).1 : Int) ∧ I = J ∧ IsRd I q (rNum most s).2 L') := by
 cases hq with
 | @mk v hb hl =>
 obtain ⟨Av, cv, rfl, hcv, _, _⟩ := id hb
 refine Spec.of Tryz.func71 rfl Tryz.ntmps71 (Nat.le_of_ble_eq_true rfl) (fun F => ?_)
 try simp only [nf]
 dsimp only [argsEnv]
 refine WP.seq ?_
 refine WP.region [0] rfl ?_
 refine WP.mv rfl rfl ?_
 refine WP.nil ?_
 refine WP.next ?_
 refine WP.seq ?_
 refine WP.seq ?_
 refine WP.region [0, 1, 2, 3, 4] rfl ?_
 refine WP.mv rfl rfl ?_
 refine WP.vl rfl (Yld.nilCheck rfl rfl) ?_
 refine WP.vl rfl (Yld.fieldAddr rfl ty_fd_228_1 rfl) ?_
 refine WP.vl rfl (Yld.ld (v := .int .i64 s.e) rfl ty_sc_27 rfl rfl) ?_
 refine WP.split rfl rfl rfl rfl (Yld.neq rfl rfl rfl) (fun he => ?_) (fun he => ?_)
 ·refine WP.nil ?_
  refine WP.sub [(0, _), (1, _), (4, _), (12, _)] ?_ ⟨rfl, rfl, rfl, rfl, trivial⟩
  refine WP.next ?_
  refine WP.condT rfl ?_
  refine WP.seq ?_
  refine WP.region [0] rfl ?_
  refine WP.mv rfl rfl ?_
  refine WP.nil ?_
  refine WP.next ?_
  refine WP.ret ?_
  refine WP.fn .ret (.inr rfl) (res1 rfl rfl) [(q, row 228 [(.slice Av s.bs.length cv), .int .i64 s.e])] (Imm.le_refl _) ?_
  have e : rNum most s = (0, s) := if_neg he
  rw [e]; exact ⟨rfl, rfl, .mk hb hl⟩
 ·refine WP.nil ?_
  refine WP.sub [(0, _), (1, _), (4, _), (12, _)] ?_ ⟨rfl, rfl, rfl, rfl, trivial⟩
  refine WP.next ?_
  refine WP.condF rfl ?_
  refine WP.skip ?_
  refine WP.next ?_
  refine WP.seq ?_
  refine WP.region [0, 1, 2, 3, 4, 5, 6, 7, 8, 9, 10, 11, 12] rfl ?_
  refine WP.mv rfl rfl ?_
  refine WP.vl rfl (Yld.nilCheck rfl rfl) ?_
  refine WP.vl rfl (Yld.fieldAddr rfl ty_fd_228_0 rfl) ?_
  refine WP.vl rfl (Yld.ld (v := .slice Av s.bs.length cv) rfl ty_sc_49 rfl rfl) ?_
  refine WP.mv rfl rfl ?_
  refine WP.loud rfl rfl ?_
  refine Op.cl (code_number (most := most) hb hl) rfl Tryz.func127 rfl rfl rfl rfl ?_
  rintro v J L1 - ⟨rfl, rfl, rfl⟩
  try simp only [nf]
  refine WP.mv rfl rfl ?_
  refine WP.vl rfl (Yld.extract rfl rfl rfl) ?_
  refine WP.vl rfl (Yld.extract rfl rfl rfl) ?_
  refine WP.vl rfl (Yld.extract rfl rfl rfl) ?_
  iterate 3 refine WP.mv rfl rfl ?_
  refine WP.nil ?_
  refine WP.sub [(0, _), (1, _), (4, _), (5, _), (6, _), (7, _), (12, _)] ?_ ⟨rfl, rfl, rfl, rfl, rfl, rfl, rfl, trivial⟩
  refine WP.next ?_
  refine WP.seq ?_
  refine WP.region [0, 1, 2, 3, 4, 5, 6, 7, 8, 9, 10, 11, 12, 13, 14] rfl ?_
  iterate 3 refine WP.mv rfl rfl ?_
  refine WP.vl rfl (Yld.nilCheck rfl rfl) ?_
  refine WP.vl rfl (Yld.fieldAddr rfl ty_fd_228_0 rfl) ?_
  refine WP.vl rfl (Yld.ld (v := .slice Av s.bs.length cv) rfl ty_sc_49 rfl rfl) ?_
  refine WP.mv rfl rfl ?_
  refine WP.vl rfl (Yld.slice (l := (rdN most 10 0 0 s.bs).2.1) (h := s.bs.length) rfl ty_sl_49 rfl (Env.limS rfl) rfl rdN_bs (by omega)) ?_
  refine WP.mv rfl rfl ?_
  refine WP.vl rfl (Yld.nilCheck rfl rfl) ?_
  refine WP.vl rfl (Yld.fieldAddr rfl ty_fd_228_0 rfl) ?_
  refine WP.loud rfl rfl ?_
  refine Op.s1 rfl rfl ty_sz_49 rfl rfl rfl ?_
  refine WP.vl rfl (Yld.nilCheck rfl rfl) ?_
  refine WP.vl rfl (Yld.fieldAddr rfl ty_fd_228_1 rfl) ?_
  refine WP.loud rfl rfl ?_
  refine Op.s1 rfl rfl ty_sz_27 rfl rfl rfl ?_
  refine WP.nil ?_
  refine WP.sub [(0, _), (1, _), (4, _), (5, _), (6, _), (7, _), (12, _)] ?_ ⟨rfl, rfl, rfl, rfl, rfl, rfl, rfl, trivial⟩
  refine WP.next ?_
  refine WP.seq ?_
  refine WP.region [0, 1] rfl ?_
  iterate 2 refine WP.mv rfl rfl ?_
  refine WP.nil ?_
  refine WP.sub [(0, _), (1, _), (4, _), (5, _), (6, _), (7, _), (12, _)] ?_ ⟨rfl, rfl, rfl, rfl, rfl, rfl, rfl, trivial⟩
  refine WP.next ?_
  refine WP.ret ?_
  refine WP.fn .ret (.inr rfl) (res1 rfl rfl) [(q, row 228 [(subSl 1 (rdN most 10 0 0 s.bs).2.1 s.bs.length (.slice Av s.bs.length cv)), .int .i64 (rdN most 10 0 0 s.bs).2.2])] (Imm.le_refl _) ?_
  have e : rNum most s = _ := if_pos (by simpa using he)
  rw [e]; exact ⟨rfl, rfl, .mk (s := ⟨_, _⟩) (hb.dropB rdN_bs) (by rw [List.length_drop]; omega)⟩

theorem code_RDone {I : Imm} {q : Nat} {s : Rs} {L : Chunks} (hq : IsRd I q s L) : Spec Tryz.prog 73 [.pointer (some ⟨q, 0, none⟩)] I L (fun v J L' => v = .int .i64 s.done ∧ I = J ∧ IsRd I q s L') := by
 cases hq with
 | @mk v hb hl =>
 obtain ⟨Av, cv, rfl, hcv, _, _⟩ := id hb
 refine Spec.of Tryz.func73 rfl Tryz.ntmps73 (Nat.le_of_ble_eq_true rfl) (fun F => ?_)
 try simp only [nf]
 dsimp only [argsEnv]
 refine WP.seq ?_
 refine WP.region [0] rfl ?_
 refine WP.mv rfl rfl ?_
 refine WP.nil ?_
 refine WP.next ?_
 refine WP.seq ?_
 refine WP.seq ?_
 refine WP.region [0, 1, 2, 3, 4, 5, 6, 7, 8, 9, 10, 11, 12] rfl ?_
 refine WP.mv rfl rfl ?_
 refine WP.vl rfl (Yld.nilCheck rfl rfl) ?_
 refine WP.vl rfl (Yld.fieldAddr rfl ty_fd_228_1 rfl) ?_
 refine WP.vl rfl (Yld.ld (v := .int .i64 s.e) rfl ty_sc_27 rfl rfl) ?_
 refine WP.split rfl rfl rfl rfl (Yld.eql rfl rfl rfl) (fun he => ?_) (fun he => ?_)
 ·refine WP.mv rfl rfl ?_
  refine WP.valG rfl rfl rfl rfl rfl rfl rfl (Yld.move rfl rfl) ?_
  refine WP.valG rfl rfl rfl rfl rfl rfl rfl (Yld.nilCheck rfl rfl) ?_
  refine WP.valG rfl rfl rfl rfl rfl rfl rfl (Yld.fieldAddr rfl ty_fd_228_0 rfl) ?_
  refine WP.valG rfl rfl rfl rfl rfl rfl rfl (Yld.ld (v := .slice Av s.bs.length cv) rfl ty_sc_49 rfl rfl) ?_
  refine WP.valG rfl rfl rfl rfl rfl rfl rfl (Yld.len rfl ty_sl_49 rfl) ?_
  refine WP.splitG rfl rfl rfl rfl rfl rfl rfl (Yld.gtr rfl rfl rfl) (fun hlen => ?_) (fun hlen => ?_)
  ·refine WP.vl rfl (Yld.pickT rfl rfl rfl) ?_
   refine WP.nil ?_
   refine WP.sub [(0, _), (2, _), (15, _)] ?_ ⟨rfl, rfl, rfl, trivial⟩
   refine WP.next ?_
   refine WP.condT rfl ?_
   refine WP.seq ?_
   refine WP.region [0] rfl ?_
   refine WP.mv rfl rfl ?_
   refine WP.nil ?_
   refine WP.next ?_
   refine WP.ret ?_
   refine WP.fn .ret (.inr rfl) (res1 rfl rfl) [(q, row 228 [(.slice Av s.bs.length cv), .int .i64 s.e])] (Imm.le_refl _) ?_
   have e : s.done = 13 := if_pos ⟨he, by omega⟩
   rw [e]; exact ⟨rfl, rfl, .mk hb hl⟩
  ·refine WP.vl rfl (Yld.pickT rfl rfl rfl) ?_
   refine WP.nil ?_
   refine WP.sub [(0, _), (2, _), (15, _)] ?_ ⟨rfl, rfl, rfl, trivial⟩
   refine WP.next ?_
   refine WP.condF rfl ?_
   refine WP.skip ?_
   refine WP.next ?_
   refine WP.seq ?_
   refine WP.region [0, 1, 2, 3, 4] rfl ?_
   refine WP.mv rfl rfl ?_
   refine WP.vl rfl (Yld.nilCheck rfl rfl) ?_
   refine WP.vl rfl (Yld.fieldAddr rfl ty_fd_228_1 rfl) ?_
   refine WP.vl rfl (Yld.ld (v := .int .i64 s.e) rfl ty_sc_27 rfl rfl) ?_
   refine WP.mv rfl rfl ?_
   refine WP.nil ?_
   refine WP.sub [(0, _), (2, _), (15, _)] ?_ ⟨rfl, rfl, rfl, trivial⟩
   refine WP.next ?_
   refine WP.ret ?_
   refine WP.fn .ret (.inr rfl) (res1 rfl rfl) [(q, row 228 [(.slice Av s.bs.length cv), .int .i64 s.e])] (Imm.le_refl _) ?_
   have e : s.done = s.e := if_neg (fun h => by have h1 := h.1; have h2 := h.2; first | exact he h1 | omega)
   rw [e]; exact ⟨rfl, rfl, .mk hb hl⟩
 ·refine WP.mv rfl rfl ?_
  refine WP.passG rfl rfl rfl rfl rfl rfl rfl rfl ?_
  refine WP.passG rfl rfl rfl rfl rfl rfl rfl rfl ?_
  refine WP.passG rfl rfl rfl rfl rfl rfl rfl rfl ?_
  refine WP.passG rfl rfl rfl rfl rfl rfl rfl rfl ?_
  refine WP.passG rfl rfl rfl rfl rfl rfl rfl rfl ?_
  refine WP.passG rfl rfl rfl rfl rfl rfl rfl rfl ?_
  refine WP.vl rfl (Yld.pickF rfl rfl rfl) ?_
  refine WP.nil ?_
  refine WP.sub [(0, _), (2, _), (15, _)] ?_ ⟨rfl, rfl, rfl, trivial⟩
  refine WP.next ?_
  refine WP.condF rfl ?_
  refine WP.skip ?_
  refine WP.next ?_
  refine WP.seq ?_
  refine WP.region [0, 1, 2, 3, 4] rfl ?_
  refine WP.mv rfl rfl ?_
  refine WP.vl rfl (Yld.nilCheck rfl rfl) ?_
  refine WP.vl rfl (Yld.fieldAddr rfl ty_fd_228_1 rfl) ?_
  refine WP.vl rfl (Yld.ld (v := .int .i64 s.e) rfl ty_sc_27 rfl rfl) ?_
  refine WP.mv rfl rfl ?_
  refine WP.nil ?_
  refine WP.sub [(0, _), (2, _), (15, _)] ?_ ⟨rfl, rfl, rfl, trivial⟩
  refine WP.next ?_
  refine WP.ret ?_
  refine WP.fn .ret (.inr rfl) (res1 rfl rfl) [(q, row 228 [(.slice Av s.bs.length cv), .int .i64 s.e])] (Imm.le_refl _) ?_
  have e : s.done = s.e := if_neg (fun h => by have h1 := h.1; have h2 := h.2; first | exact he h1 | omega)
  rw [e]; exact ⟨rfl, rfl, .mk hb hl⟩

theorem code_RRaw {I : Imm} {q : Nat} {s : Rs} {L : Chunks} (hq : IsRd I q s L) {k : Nat} (he : s.e = 0) (hk : k ≤ s.bs.length) : Spec Tryz.prog 164 [.pointer (some ⟨q, 0, none⟩), .int .i64 (k : Int)] I L (fun v J L' => I = J ∧ ∃ Lr Ld, L' = Lr ++ Ld ∧ IsRd I q ⟨s.bs.drop k, 0⟩ Lr ∧ Own 5 1 v (bytesV (s.bs.take k)) (s.bs.take k).length Ld) := by
 cases hq with
 | @mk v hb hl =>
 obtain ⟨Av, cv, rfl, hcv, _, _⟩ := id hb
 refine Spec.of Tryz.func164 rfl Tryz.ntmps164 (Nat.le_of_ble_eq_true rfl) (fun F => ?_)
 try simp only [nf]
 dsimp only [argsEnv]
 refine WP.seq ?_
 refine WP.region [0] rfl ?_
 refine WP.mv rfl rfl ?_
 refine WP.nil ?_
 refine WP.next ?_
 refine WP.seq ?_
 refine WP.block ?_
 refine WP.seq ?_
 refine WP.region [0, 1, 2, 3, 4, 5] rfl ?_
 refine WP.mv rfl rfl ?_
 refine WP.vl rfl (Yld.nilCheck rfl rfl) ?_
 refine WP.vl rfl (Yld.fieldAddr rfl ty_fd_228_1 rfl) ?_
 refine WP.vl rfl (Yld.ld (v := .int .i64 s.e) rfl ty_sc_27 rfl rfl) ?_
 refine WP.vl rfl (Yld.neq rfl rfl rfl false (decide_eq_false (by simpa using he))) ?_
 refine WP.mv rfl rfl ?_
 refine WP.nil ?_
 refine WP.sub [(0, _), (1, _), (4, _), (6, _)] ?_ ⟨rfl, rfl, rfl, rfl, trivial⟩
 refine WP.next ?_
 refine WP.condF rfl ?_
 refine WP.seq ?_
 refine WP.region [0, 1, 2] rfl ?_
 refine WP.mv rfl rfl ?_
 refine WP.vl rfl (Yld.lss rfl rfl rfl false (decide_eq_false (by omega))) ?_
 refine WP.mv rfl rfl ?_
 refine WP.nil ?_
 refine WP.sub [(0, _), (1, _), (4, _), (6, _), (12, _)] ?_ ⟨rfl, rfl, rfl, rfl, rfl, trivial⟩
 refine WP.next ?_
 refine WP.condF rfl ?_
 refine WP.seq ?_
 refine WP.region [0, 1, 2, 3, 4, 5, 6, 7] rfl ?_
 iterate 2 refine WP.mv rfl rfl ?_
 refine WP.vl rfl (Yld.nilCheck rfl rfl) ?_
 refine WP.vl rfl (Yld.fieldAddr rfl ty_fd_228_0 rfl) ?_
 refine WP.vl rfl (Yld.ld (v := .slice Av s.bs.length cv) rfl ty_sc_49 rfl rfl) ?_
 refine WP.vl rfl (Yld.len rfl ty_sl_49 rfl) ?_
 refine WP.vl rfl (Yld.gtr rfl rfl rfl false (decide_eq_false (by omega))) ?_
 refine WP.mv rfl rfl ?_
 refine WP.nil ?_
 refine WP.sub [(0, _), (1, _), (4, _), (6, _), (12, _), (18, _)] ?_ ⟨rfl, rfl, rfl, rfl, rfl, rfl, trivial⟩
 refine WP.next ?_
 refine WP.condF rfl ?_
 refine WP.skip ?_
 refine WP.leave ?_
 refine WP.next ?_
 refine WP.seq ?_
 refine WP.region [0, 1, 2, 3, 4, 5, 6, 7] rfl ?_
 refine WP.mv rfl rfl ?_
 refine WP.vl rfl (Yld.nilCheck rfl rfl) ?_
 refine WP.vl rfl (Yld.fieldAddr rfl ty_fd_228_0 rfl) ?_
 refine WP.vl rfl (Yld.ld (v := .slice Av s.bs.length cv) rfl ty_sc_49 rfl rfl) ?_
 refine WP.mv rfl rfl ?_
 refine WP.vl rfl (Yld.slice (l := 0) (h := k) rfl ty_sl_49 rfl rfl (Env.limS rfl) (Nat.zero_le _) (by omega)) ?_
 refine WP.loud rfl rfl ?_
 refine Op.cl (code_copied (hb.takeB hk) (by rw [List.length_take]; omega)) rfl Tryz.func126 rfl rfl rfl rfl ?_
 rintro v J Lc - ⟨rfl, hc⟩
 try simp only [nf]
 obtain ⟨Ac, cc, rfl, _⟩ := hc.slice
 refine WP.mv rfl rfl ?_
 refine WP.nil ?_
 refine WP.sub [(0, _), (1, _), (4, _), (5, _), (6, _), (12, _), (18, _)] ?_ ⟨rfl, rfl, rfl, rfl, rfl, rfl, rfl, trivial⟩
 refine WP.next ?_
 refine WP.seq ?_
 refine WP.region [0, 1, 2, 3, 4, 5, 6, 7, 8, 9] rfl ?_
 iterate 2 refine WP.mv rfl rfl ?_
 refine WP.vl rfl (Yld.nilCheck rfl rfl) ?_
 refine WP.vl rfl (Yld.fieldAddr rfl ty_fd_228_0 rfl) ?_
 refine WP.vl rfl (Yld.ld (v := .slice Av s.bs.length cv) rfl ty_sc_49 rfl rfl) ?_
 refine WP.mv rfl rfl ?_
 refine WP.vl rfl (Yld.slice (l := k) (h := s.bs.length) rfl ty_sl_49 rfl (Env.limS rfl) rfl hk (by omega)) ?_
 refine WP.vl rfl (Yld.nilCheck rfl rfl) ?_
 refine WP.vl rfl (Yld.fieldAddr rfl ty_fd_228_0 rfl) ?_
 refine WP.loud rfl rfl ?_
 refine Op.s1 rfl rfl ty_sz_49 rfl rfl rfl ?_
 refine WP.nil ?_
 refine WP.sub [(0, _), (1, _), (4, _), (5, _), (6, _), (12, _), (18, _)] ?_ ⟨rfl, rfl, rfl, rfl, rfl, rfl, rfl, trivial⟩
 refine WP.next ?_
 refine WP.seq ?_
 refine WP.region [0, 1] rfl ?_
 iterate 2 refine WP.mv rfl rfl ?_
 refine WP.nil ?_
 refine WP.sub [(0, _), (1, _), (4, _), (5, _), (6, _), (12, _), (18, _)] ?_ ⟨rfl, rfl, rfl, rfl, rfl, rfl, rfl, trivial⟩
 refine WP.next ?_
 refine WP.ret ?_
 refine WP.fn .ret (.inr rfl) (res1 rfl rfl) ((q, row 228 [(subSl 1 k s.bs.length (.slice Av s.bs.length cv)), .int .i64 s.e]) :: Lc) (Imm.le_refl _) ?_
 exact ⟨rfl, [(q, row 228 [(subSl 1 k s.bs.length (.slice Av s.bs.length cv)), .int .i64 s.e])], Lc, rfl, .mk' (s := ⟨_, _⟩) (hb.dropB hk) (by rw [List.length_drop]; omega) he, hc⟩

theorem code_RBytes {I : Imm} {q : Nat} {s : Rs} {L : Chunks} (hq : IsRd I q s L) {most : Nat} (hm : most < 9223372036854775808) : Spec Tryz.prog 128 [.pointer (some ⟨q, 0, none⟩), .int .i64 (most : Int)] I L (fun v J L' => I = J ∧ ∃ Lr Ld, L' = Lr ++ Ld ∧ IsRd I q (rByt most s).2 Lr ∧ Own 5 1 v (bytesV (rByt most s).1) (rByt most s).1.length Ld) := by
 cases hq with
 | @mk v hb hl =>
 obtain ⟨Av, cv, rfl, hcv, _, _⟩ := id hb
 refine Spec.of Tryz.func128 rfl Tryz.ntmps128 (Nat.le_of_ble_eq_true rfl) (fun F => ?_)
 try simp only [nf]
 dsimp only [argsEnv]
 refine WP.seq ?_
 refine WP.region [0] rfl ?_
 refine WP.mv rfl rfl ?_
 refine WP.nil ?_
 refine WP.next ?_
 refine WP.seq ?_
 refine WP.seq ?_
 refine WP.region [0, 1, 2, 3, 4] rfl ?_
 refine WP.mv rfl rfl ?_
 refine WP.vl rfl (Yld.nilCheck rfl rfl) ?_
 refine WP.vl rfl (Yld.fieldAddr rfl ty_fd_228_1 rfl) ?_
 refine WP.vl rfl (Yld.ld (v := .int .i64 s.e) rfl ty_sc_27 rfl rfl) ?_
 refine WP.split rfl rfl rfl rfl (Yld.neq rfl rfl rfl) (fun he => ?_) (fun he => ?_)
 ·refine WP.nil ?_
  refine WP.sub [(0, _), (1, _), (4, _), (12, _)] ?_ ⟨rfl, rfl, rfl, rfl, trivial⟩
  refine WP.next ?_
  refine WP.condT rfl ?_
  refine WP.seq ?_
  refine WP.region [0] rfl ?_
  refine WP.mv rfl rfl ?_
  refine WP.nil ?_
  refine WP.next ?_
  refine WP.ret ?_
  refine WP.fn .ret (.inr rfl) (res1 rfl rfl) [(q, row 228 [(.slice Av s.bs.length cv), .int .i64 s.e])] (Imm.le_refl _) ?_
  have e : rByt most s = ([], s) := if_neg he
  rw [e]; exact ⟨rfl, _, [], rfl, .mk hb hl, .none0⟩
 ·refine WP.nil ?_
  refine WP.sub [(0, _), (1, _), (4, _), (12, _)] ?_ ⟨rfl, rfl, rfl, rfl, trivial⟩
  refine WP.next ?_
  refine WP.condF rfl ?_
  refine WP.skip ?_
  refine WP.next ?_
  refine WP.seq ?_
  refine WP.region [0, 1, 2, 3, 4, 5, 6, 7, 8, 9, 10, 11, 12, 13, 14] rfl ?_
  refine WP.mv rfl rfl ?_
  refine WP.vl rfl (Yld.nilCheck rfl rfl) ?_
  refine WP.vl rfl (Yld.fieldAddr rfl ty_fd_228_0 rfl) ?_
  refine WP.vl rfl (Yld.ld (v := .slice Av s.bs.length cv) rfl ty_sc_49 rfl rfl) ?_
  refine WP.mv rfl rfl ?_
  refine WP.vl rfl (Yld.max2 rfl rfl rfl _ rfl) ?_
  refine WP.vl rfl (Yld.conv64u most rfl ty_un_3 ty_ik_40 (congrArg (fun z => some (Value.int .i64 z)) (show (if (0 : Int) < (most : Int) then (most : Int) else 0) = (most : Int) by split <;> omega)) (by omega)) ?_
  refine WP.loud rfl rfl ?_
  refine Op.cl (code_number (most := most) hb hl) rfl Tryz.func127 rfl rfl rfl rfl ?_
  rintro v J L1 - ⟨rfl, rfl, rfl⟩
  try simp only [nf]
  have hsz := rdN_bs (most := most) (l := s.bs)
  have hle := rdN_le most 10 0 0 s.bs
  refine WP.mv rfl rfl ?_
  refine WP.vl rfl (Yld.extract rfl rfl rfl) ?_
  refine WP.vl rfl (Yld.extract rfl rfl rfl) ?_
  refine WP.vl rfl (Yld.extract rfl rfl rfl) ?_
  iterate 3 refine WP.mv rfl rfl ?_
  refine WP.nil ?_
  refine WP.sub [(0, _), (1, _), (4, _), (5, _), (6, _), (7, _), (12, _)] ?_ ⟨rfl, rfl, rfl, rfl, rfl, rfl, rfl, trivial⟩
  refine WP.next ?_
  refine WP.seq ?_
  refine WP.seq ?_
  refine WP.region [0, 1, 2, 3, 4, 5, 6, 7, 8, 9, 10, 11, 12, 13] rfl ?_
  refine WP.mv rfl rfl ?_
  refine WP.split rfl rfl rfl rfl (Yld.eql rfl rfl rfl) (fun h1 => ?_) (fun h1 => ?_)
  ·refine WP.mv rfl rfl ?_
   refine WP.valG rfl rfl rfl rfl rfl rfl rfl (Yld.move rfl rfl) ?_
   refine WP.valG rfl rfl rfl rfl rfl rfl rfl (Yld.move rfl rfl) ?_
   refine WP.valG rfl rfl rfl rfl rfl rfl rfl (Yld.nilCheck rfl rfl) ?_
   refine WP.valG rfl rfl rfl rfl rfl rfl rfl (Yld.fieldAddr rfl ty_fd_228_0 rfl) ?_
   refine WP.valG rfl rfl rfl rfl rfl rfl rfl (Yld.ld (v := .slice Av s.bs.length cv) rfl ty_sc_49 rfl rfl) ?_
   refine WP.valG rfl rfl rfl rfl rfl rfl rfl (Yld.len rfl ty_sl_49 rfl) ?_
   refine WP.valG rfl rfl rfl rfl rfl rfl rfl (Yld.move rfl rfl) ?_
   refine WP.valG rfl rfl rfl rfl rfl rfl rfl (Yld.sub64 rfl rfl rfl (by omega)) ?_
   refine WP.valG rfl rfl rfl rfl rfl rfl rfl (Yld.conv64u (s.bs.length - (rdN most 10 0 0 s.bs).2.1) rfl ty_un_3 ty_ik_40 (congrArg (fun z => some (Value.int .i64 z)) (show (s.bs.length : Int) - ((rdN most 10 0 0 s.bs).2.1 : Int) = ((s.bs.length - (rdN most 10 0 0 s.bs).2.1 : Nat) : Int) by omega)) (by omega)) ?_
   refine WP.splitG rfl rfl rfl rfl rfl rfl rfl (Yld.gtr rfl rfl rfl) (fun h2 => ?_) (fun h2 => ?_)
   ·refine WP.vl rfl (Yld.pickT rfl rfl rfl) ?_
    refine WP.nil ?_
    refine WP.sub [(0, _), (1, _), (4, _), (5, _), (6, _), (7, _), (12, _), (38, _)] ?_ ⟨rfl, rfl, rfl, rfl, rfl, rfl, rfl, rfl, trivial⟩
    refine WP.next ?_
    refine WP.condT rfl ?_
    refine WP.region [0] rfl ?_
    refine WP.mv rfl rfl ?_
    refine WP.nil ?_
    refine WP.next ?_
    refine WP.seq ?_
    refine WP.seq ?_
    refine WP.region [0, 1, 2, 3, 4] rfl ?_
    iterate 2 refine WP.mv rfl rfl ?_
    refine WP.vl rfl (Yld.nilCheck rfl rfl) ?_
    refine WP.vl rfl (Yld.fieldAddr rfl ty_fd_228_1 rfl) ?_
    refine WP.loud rfl rfl ?_
    refine Op.s1 rfl rfl ty_sz_27 rfl rfl rfl ?_
    refine WP.nil ?_
    refine WP.sub [(0, _), (1, _), (4, _), (5, _), (6, _), (7, _), (12, _), (38, _)] ?_ ⟨rfl, rfl, rfl, rfl, rfl, rfl, rfl, rfl, trivial⟩
    refine WP.next ?_
    refine WP.seq ?_
    refine WP.region [0, 1] rfl ?_
    refine WP.mv rfl rfl ?_
    refine WP.vl rfl (Yld.neq rfl rfl rfl true (decide_eq_true (by first | decide | exact h1 | simp [h1]))) ?_
    refine WP.nil ?_
    refine WP.sub [(0, _), (1, _), (4, _), (5, _), (6, _), (7, _), (12, _), (38, _), (44, _)] ?_ ⟨rfl, rfl, rfl, rfl, rfl, rfl, rfl, rfl, rfl, trivial⟩
    refine WP.next ?_
    refine WP.condT rfl ?_
    refine WP.seq ?_
    refine WP.region [0] rfl ?_
    refine WP.mv rfl rfl ?_
    refine WP.nil ?_
    refine WP.next ?_
    refine WP.ret ?_
    refine WP.fn .ret (.inr rfl) (res1 rfl rfl) [(q, row 228 [(.slice Av s.bs.length cv), .int .i64 10])] (Imm.le_refl _) ?_
    have e : rByt most s = _ := if_pos (by simpa using he)
    rw [if_pos h1] at e
    rw [if_neg (by omega)] at e
    rw [e]; exact ⟨rfl, _, [], rfl, .mk (s := ⟨_, _⟩) hb hl, .none0⟩
   ·refine WP.vl rfl (Yld.pickT rfl rfl rfl) ?_
    refine WP.nil ?_
    refine WP.sub [(0, _), (1, _), (4, _), (5, _), (6, _), (7, _), (12, _), (38, _)] ?_ ⟨rfl, rfl, rfl, rfl, rfl, rfl, rfl, rfl, trivial⟩
    refine WP.next ?_
    refine WP.condF rfl ?_
    refine WP.skip ?_
    refine WP.next ?_
    refine WP.seq ?_
    refine WP.seq ?_
    refine WP.region [0, 1, 2, 3, 4] rfl ?_
    iterate 2 refine WP.mv rfl rfl ?_
    refine WP.vl rfl (Yld.nilCheck rfl rfl) ?_
    refine WP.vl rfl (Yld.fieldAddr rfl ty_fd_228_1 rfl) ?_
    refine WP.loud rfl rfl ?_
    refine Op.s1 rfl rfl ty_sz_27 rfl rfl rfl ?_
    refine WP.nil ?_
    refine WP.sub [(0, _), (1, _), (4, _), (5, _), (6, _), (7, _), (12, _), (38, _)] ?_ ⟨rfl, rfl, rfl, rfl, rfl, rfl, rfl, rfl, trivial⟩
    refine WP.next ?_
    refine WP.seq ?_
    refine WP.region [0, 1] rfl ?_
    refine WP.mv rfl rfl ?_
    refine WP.vl rfl (Yld.neq rfl rfl rfl false (decide_eq_false (by first | decide | exact h1 | simp [h1]))) ?_
    refine WP.nil ?_
    refine WP.sub [(0, _), (1, _), (4, _), (5, _), (6, _), (7, _), (12, _), (38, _), (44, _)] ?_ ⟨rfl, rfl, rfl, rfl, rfl, rfl, rfl, rfl, rfl, trivial⟩
    refine WP.next ?_
    refine WP.condF rfl ?_
    refine WP.skip ?_
    refine WP.next ?_
    refine WP.seq ?_
    refine WP.region [0, 1, 2, 3, 4, 5, 6, 7, 8, 9] rfl ?_
    iterate 2 refine WP.mv rfl rfl ?_
    refine WP.vl rfl (Yld.nilCheck rfl rfl) ?_
    refine WP.vl rfl (Yld.fieldAddr rfl ty_fd_228_0 rfl) ?_
    refine WP.vl rfl (Yld.ld (v := .slice Av s.bs.length cv) rfl ty_sc_49 rfl rfl) ?_
    refine WP.mv rfl rfl ?_
    refine WP.vl rfl (Yld.slice (l := (rdN most 10 0 0 s.bs).2.1) (h := s.bs.length) rfl ty_sl_49 rfl (Env.limS rfl) rfl hsz (by omega)) ?_
    refine WP.vl rfl (Yld.nilCheck rfl rfl) ?_
    refine WP.vl rfl (Yld.fieldAddr rfl ty_fd_228_0 rfl) ?_
    refine WP.loud rfl rfl ?_
    refine Op.s1 rfl rfl ty_sz_49 rfl rfl rfl ?_
    refine WP.nil ?_
    refine WP.sub [(0, _), (1, _), (4, _), (5, _), (6, _), (7, _), (12, _), (38, _), (44, _)] ?_ ⟨rfl, rfl, rfl, rfl, rfl, rfl, rfl, rfl, rfl, trivial⟩
    refine WP.next ?_
    refine WP.seq ?_
    have hdl : (s.bs.drop (rdN most 10 0 0 s.bs).2.1).length = s.bs.length - (rdN most 10 0 0 s.bs).2.1 := List.length_drop
    refine WP.region [0, 1, 2, 3, 4] rfl ?_
    iterate 2 refine WP.mv rfl rfl ?_
    refine WP.vl rfl (Yld.conv64 (a := (((rdN most 10 0 0 s.bs).1 : Nat) : Int)) rfl ty_un_40 ty_ik_3 rfl (by omega)) ?_
    refine WP.loud rfl rfl ?_
    refine Op.cl (code_RRaw (s := ⟨s.bs.drop (rdN most 10 0 0 s.bs).2.1, 0⟩) (k := (rdN most 10 0 0 s.bs).1) (IsRd.mk' (e := (rdN most 10 0 0 s.bs).2.2) (hb.dropB hsz) (by rw [hdl]; omega) h1) rfl (by show _ ≤ (s.bs.drop (rdN most 10 0 0 s.bs).2.1).length; rw [hdl]; omega)) rfl Tryz.func164 rfl rfl rfl rfl ?_
    rintro v J L1 - ⟨rfl, Lr, Ld, rfl, hq2, hod⟩
    try simp only [nf]
    obtain ⟨Ad, cd, rfl, _⟩ := hod.slice
    refine WP.mv rfl rfl ?_
    refine WP.nil ?_
    refine WP.sub [(0, _), (1, _), (4, _), (5, _), (6, _), (7, _), (12, _), (38, _), (44, _)] ?_ ⟨rfl, rfl, rfl, rfl, rfl, rfl, rfl, rfl, rfl, trivial⟩
    refine WP.next ?_
    refine WP.ret ?_
    refine WP.fn .ret (.inr rfl) (res1 rfl rfl) (Lr ++ Ld) (Imm.le_refl _) ?_
    have e : rByt most s = _ := if_pos (by simpa using he)
    rw [if_pos h1] at e
    rw [if_pos (by omega)] at e
    rw [e]; exact ⟨rfl, Lr, Ld, rfl, hq2, hod⟩
  ·refine WP.mv rfl rfl ?_
   refine WP.passG rfl rfl rfl rfl rfl rfl rfl rfl ?_
   refine WP.passG rfl rfl rfl rfl rfl rfl rfl rfl ?_
   refine WP.passG rfl rfl rfl rfl rfl rfl rfl rfl ?_
   refine WP.passG rfl rfl rfl rfl rfl rfl rfl rfl ?_
   refine WP.passG rfl rfl rfl rfl rfl rfl rfl rfl ?_
   refine WP.passG rfl rfl rfl rfl rfl rfl rfl rfl ?_
   refine WP.passG rfl rfl rfl rfl rfl rfl rfl rfl ?_
   refine WP.passG rfl rfl rfl rfl rfl rfl rfl rfl ?_
   refine WP.passG rfl rfl rfl rfl rfl rfl rfl rfl ?_
   refine WP.passG rfl rfl rfl rfl rfl rfl rfl rfl ?_
   refine WP.vl rfl (Yld.pickF rfl rfl rfl) ?_
   refine WP.nil ?_
   refine WP.sub [(0, _), (1, _), (4, _), (5, _), (6, _), (7, _), (12, _), (38, _)] ?_ ⟨rfl, rfl, rfl, rfl, rfl, rfl, rfl, rfl, trivial⟩
   refine WP.next ?_
   refine WP.condF rfl ?_
   refine WP.skip ?_
   refine WP.next ?_
   refine WP.seq ?_
   refine WP.seq ?_
   refine WP.region [0, 1, 2, 3, 4] rfl ?_
   iterate 2 refine WP.mv rfl rfl ?_
   refine WP.vl rfl (Yld.nilCheck rfl rfl) ?_
   refine WP.vl rfl (Yld.fieldAddr rfl ty_fd_228_1 rfl) ?_
   refine WP.loud rfl rfl ?_
   refine Op.s1 rfl rfl ty_sz_27 rfl rfl rfl ?_
   refine WP.nil ?_
   refine WP.sub [(0, _), (1, _), (4, _), (5, _), (6, _), (7, _), (12, _), (38, _)] ?_ ⟨rfl, rfl, rfl, rfl, rfl, rfl, rfl, rfl, trivial⟩
   refine WP.next ?_
   refine WP.seq ?_
   refine WP.region [0, 1] rfl ?_
   refine WP.mv rfl rfl ?_
   refine WP.vl rfl (Yld.neq rfl rfl rfl true (decide_eq_true (by first | decide | exact h1 | simp [h1]))) ?_
   refine WP.nil ?_
   refine WP.sub [(0, _), (1, _), (4, _), (5, _), (6, _), (7, _), (12, _), (38, _), (44, _)] ?_ ⟨rfl, rfl, rfl, rfl, rfl, rfl, rfl, rfl, rfl, trivial⟩
   refine WP.next ?_
   refine WP.condT rfl ?_
   refine WP.seq ?_
   refine WP.region [0] rfl ?_
   refine WP.mv rfl rfl ?_
   refine WP.nil ?_
   refine WP.next ?_
   refine WP.ret ?_
   refine WP.fn .ret (.inr rfl) (res1 rfl rfl) [(q, row 228 [(.slice Av s.bs.length cv), .int .i64 (rdN most 10 0 0 s.bs).2.2])] (Imm.le_refl _) ?_
   have e : rByt most s = _ := if_pos (by simpa using he)
   rw [if_neg h1] at e
   rw [e]; exact ⟨rfl, _, [], rfl, .mk (s := ⟨_, _⟩) hb hl, .none0⟩


end Go.Hp
