import Derived.Test.YtelkknmnnmmoaaaSupC
import Derived.Test.YtelkknmnnmmoaaaHpEq
set_option linter.unusedVariables false
set_option linter.unusedSimpArgs false
namespace Go.Hp
open Go Go.Proofs

def spZ : Sp := ⟨0, 0, 0, 0, 0⟩
def decF (bs : List UInt8) : Sp := ⟨leN (cut bs 2 6), leN (cut bs 6 12), leN (cut bs 12 17), leN (cut bs 17 21), leN (cut bs 21 27)⟩
/-- What a superblock's bytes say. -/
def decS (bs : List UInt8) : Option Sp := if bs.length = 64 ∧ (decF bs).may ∧ enc (decF bs) = bs then some (decF bs) else none
theorem decS_none {bs : List UInt8} (h : ¬ (bs.length = 64 ∧ (decF bs).may ∧ enc (decF bs) = bs)) : decS bs = none := if_neg h
theorem decS_some {bs : List UInt8} (h : bs.length = 64 ∧ (decF bs).may ∧ enc (decF bs) = bs) : decS bs = some (decF bs) := if_pos h
theorem form_eq : bytArr Try.prog 61 64 5 := ⟨rfl, rfl, by kernel_rfl, by kernel_rfl, by kernel_rfl⟩
set_option maxHeartbeats 1000000 in
theorem super_Decode {I : Imm} {bs : List UInt8} {vb : Value} (hb : SlRd (fun b o => I.blk b = some o) vb bs.length 1 (bytesV bs)) (hbl : bs.length ≤ 1152921504606846976) : Spec Try.prog 11 [vb] I [] (fun v J L => v = .tuple #[.agg (spV ((decS bs).getD spZ)).toArray, .int .i64 (if (decS bs).isSome = true then 0 else 160)] ∧ L = []) := by
  refine Spec.of Try.func11 rfl Try.ntmps11 (Nat.le_of_ble_eq_true rfl) (fun F => ?_)
  try simp only [List.cons_append, List.nil_append, List.append_assoc]
  dsimp only [argsEnv]
  refine WP.seq ?_
  refine WP.region [0, 1] rfl ?_
  refine WP.loud rfl rfl ?_
  refine Op.alloc rfl rfl rfl ty_zr_23 (fun b2 => ?_)
  refine WP.val rfl rfl rfl rfl (Yld.assign rfl rfl) ?_
  refine WP.nil ?_
  refine WP.next ?_
  refine WP.seq ?_
  refine WP.seq ?_
  refine WP.region [0, 1, 2] rfl ?_
  refine WP.val rfl rfl rfl rfl (Yld.move rfl rfl) ?_
  refine WP.val rfl rfl rfl rfl (Yld.lenR hb rfl ty_sl_24 rfl) ?_
  refine WP.split rfl rfl rfl rfl (Yld.neq rfl rfl rfl) (fun hl => ?_) (fun hl => ?_)
  · refine WP.nil ?_
    refine WP.sub [(0, _), (2, _), (3, _), (8, _)] ?_ ⟨rfl, rfl, rfl, rfl, trivial⟩
    refine WP.next ?_
    refine WP.condT rfl ?_
    refine WP.seq ?_
    refine WP.region [0, 1, 2] rfl ?_
    refine WP.val rfl rfl rfl rfl (Yld.buildS (pl := []) rfl ty_zr_23 ty_zd_23 (by kernel_rfl) rfl (vs := []) rfl (segs := []) rfl rfl (by repeat (first | exact SetSeg.nil | apply SetSeg.one | exact SetAt.zero | apply SetAt.succ))) ?_
    refine WP.loud rfl rfl ?_
    refine Op.storeAll rfl rfl ty_sz_23 rfl rfl rfl rfl (by repeat (first | exact Upd.head | apply Upd.tail | apply Upd.tailS)) rfl ?_
    refine WP.val rfl rfl rfl rfl (Yld.assign rfl rfl) ?_
    refine WP.nil ?_
    refine WP.sub [(0, _), (2, _), (3, _), (8, _)] ?_ ⟨rfl, rfl, rfl, rfl, trivial⟩
    refine WP.next ?_
    refine WP.ret ?_
    refine WP.fin .ret (.inr rfl) (resT (rs := [.cell 2 23, .tmp 3]) (vs := [_, _]) rfl ⟨⟨_, _, _, _, rfl, (by repeat (first | exact There.h | exact There.i (by assumption) | apply There.t | apply There.s)), .inl ⟨ty_ag_23, by rfl, rfl⟩⟩, rfl, trivial⟩ rfl) [] (by repeat (first | exact Take.nil | with_reducible apply Take.cons | apply Take.app | exact Rm.chunk | exact Rm.here | exact Rm.nil0 | apply Rm.skip | apply Rm.skipS | (focus (apply Take.all; (repeat (first | exact Rm.chunk | exact Rm.here | exact Rm.nil0 | apply Rm.skip | apply Rm.skipS)); done)) | apply Take.cons)) (by repeat (first | exact Leave.done | apply Leave.drop | apply Leave.dropS)) (Imm.le_refl _) ?_
    exact ⟨by rw [decS_none (fun h => (by have := h.1; omega))]; rfl, rfl⟩
  · have hl : bs.length = 64 := by omega
    obtain ⟨bb, kb, cb, Tb, frb, arrb, rfl, hcb, hbb, hb4⟩ := hb.get (by omega)
    rw [bytesV_len, hl] at hb4
    refine WP.nil ?_
    refine WP.sub [(0, _), (2, _), (3, _), (8, _)] ?_ ⟨rfl, rfl, rfl, rfl, trivial⟩
    refine WP.next ?_
    refine WP.condF rfl ?_
    refine WP.skip ?_
    refine WP.next ?_
    refine WP.seq ?_
    refine WP.region [0, 1, 2, 3, 4] rfl ?_
    refine WP.val rfl rfl rfl rfl (Yld.move rfl rfl) ?_
    refine WP.val rfl rfl rfl rfl (Yld.toArr rfl ty_ar_61 rfl (by omega)) ?_
    refine WP.val rfl rfl rfl rfl (Yld.loadAggC rfl ty_ag_61 rfl (There.i hbb) hb4 (by rw [bytesV_len]; exact hl)) ?_
    refine WP.loud rfl rfl ?_
    refine Op.alloc rfl rfl rfl form_zr (fun b4 => ?_)
    refine WP.loud rfl rfl ?_
    refine Op.storeAll rfl rfl ty_sz_61 rfl rfl (by rw [bytesV_len]; exact hl) (bytesV_one _) (by repeat (first | exact Upd.head | apply Upd.tail | apply Upd.tailS)) (by rw [bytesV_len]; rfl) ?_
    refine WP.nil ?_
    refine WP.sub [(0, _), (2, _), (3, _), (4, _), (8, _)] ?_ ⟨rfl, rfl, rfl, rfl, rfl, trivial⟩
    refine WP.next ?_
    refine WP.seq ?_
    refine WD.start Trymixed 12 (fun _ _ => False) (fun _ _ => False) (fun _ _ h => h.elim) (fun _ _ h => h.elim) 13 [false, false, false, false, false, false, false, false, false, false, false, false, false] rfl rfl ?_
    refine WD.val (i := 0) rfl rfl rfl rfl (by kernel_rfl) rfl (Yld.sliceA rfl ty_ar_61 rfl (Env.limS (n := 2) rfl) (Env.limS (n := 6) rfl) (Nat.le_of_ble_eq_true rfl) (Nat.le_of_ble_eq_true rfl)) ?_
    refine WD.val (i := 2) rfl rfl rfl rfl (by kernel_rfl) rfl (Yld.sliceA rfl ty_ar_61 rfl (Env.limS (n := 6) rfl) (Env.limS (n := 12) rfl) (Nat.le_of_ble_eq_true rfl) (Nat.le_of_ble_eq_true rfl)) ?_
    refine WD.val (i := 4) rfl rfl rfl rfl (by kernel_rfl) rfl (Yld.sliceA rfl ty_ar_61 rfl (Env.limS (n := 12) rfl) (Env.limS (n := 17) rfl) (Nat.le_of_ble_eq_true rfl) (Nat.le_of_ble_eq_true rfl)) ?_
    refine WD.val (i := 6) rfl rfl rfl rfl (by kernel_rfl) rfl (Yld.sliceA rfl ty_ar_61 rfl (Env.limS (n := 17) rfl) (Env.limS (n := 21) rfl) (Nat.le_of_ble_eq_true rfl) (Nat.le_of_ble_eq_true rfl)) ?_
    refine WD.val (i := 8) rfl rfl rfl rfl (by kernel_rfl) rfl (Yld.sliceA rfl ty_ar_61 rfl (Env.limS (n := 21) rfl) (Env.limS (n := 27) rfl) (Nat.le_of_ble_eq_true rfl) (Nat.le_of_ble_eq_true rfl)) ?_
    refine WD.both (i := 1) (j := 11) (by kernel_rfl) rfl rfl ?_ ?_
    · refine WP.oper rfl rfl ?_
      refine Op.call (super_numSub (l := 2) (h := 6) (N := 64) (by decide) (by decide) (by decide) hl) rfl Try.func34 rfl rfl rfl rfl (by repeat (first | exact Take.nil | with_reducible apply Take.cons | apply Take.app | exact Rm.chunk | exact Rm.here | exact Rm.nil0 | apply Rm.skip | apply Rm.skipS | (focus (apply Take.all; (repeat (first | exact Rm.chunk | exact Rm.here | exact Rm.nil0 | apply Rm.skip | apply Rm.skipS)); done)) | apply Take.cons)) ?_
      rintro v J L1 hJ ⟨rfl, rfl, rfl⟩
      clear hJ; try simp only [List.cons_append, List.nil_append, List.append_assoc]
      refine WD.go (.inr (fun _ _ h => h.elim)) (fun _ _ h => h.elim) ?_
      refine WD.both (i := 3) (j := 11) (by kernel_rfl) rfl rfl ?_ ?_
      · refine WP.oper rfl rfl ?_
        refine Op.call (super_numSub (l := 6) (h := 12) (N := 64) (by decide) (by decide) (by decide) hl) rfl Try.func34 rfl rfl rfl rfl (by repeat (first | exact Take.nil | with_reducible apply Take.cons | apply Take.app | exact Rm.chunk | exact Rm.here | exact Rm.nil0 | apply Rm.skip | apply Rm.skipS | (focus (apply Take.all; (repeat (first | exact Rm.chunk | exact Rm.here | exact Rm.nil0 | apply Rm.skip | apply Rm.skipS)); done)) | apply Take.cons)) ?_
        rintro v J L1 hJ ⟨rfl, rfl, rfl⟩
        clear hJ; try simp only [List.cons_append, List.nil_append, List.append_assoc]
        refine WD.go (.inr (fun _ _ h => h.elim)) (fun _ _ h => h.elim) ?_
        refine WD.both (i := 5) (j := 11) (by kernel_rfl) rfl rfl ?_ ?_
        · refine WP.oper rfl rfl ?_
          refine Op.call (super_numSub (l := 12) (h := 17) (N := 64) (by decide) (by decide) (by decide) hl) rfl Try.func34 rfl rfl rfl rfl (by repeat (first | exact Take.nil | with_reducible apply Take.cons | apply Take.app | exact Rm.chunk | exact Rm.here | exact Rm.nil0 | apply Rm.skip | apply Rm.skipS | (focus (apply Take.all; (repeat (first | exact Rm.chunk | exact Rm.here | exact Rm.nil0 | apply Rm.skip | apply Rm.skipS)); done)) | apply Take.cons)) ?_
          rintro v J L1 hJ ⟨rfl, rfl, rfl⟩
          clear hJ; try simp only [List.cons_append, List.nil_append, List.append_assoc]
          refine WD.go (.inr (fun _ _ h => h.elim)) (fun _ _ h => h.elim) ?_
          refine WD.both (i := 7) (j := 11) (by kernel_rfl) rfl rfl ?_ ?_
          · refine WP.oper rfl rfl ?_
            refine Op.call (super_numSub (l := 17) (h := 21) (N := 64) (by decide) (by decide) (by decide) hl) rfl Try.func34 rfl rfl rfl rfl (by repeat (first | exact Take.nil | with_reducible apply Take.cons | apply Take.app | exact Rm.chunk | exact Rm.here | exact Rm.nil0 | apply Rm.skip | apply Rm.skipS | (focus (apply Take.all; (repeat (first | exact Rm.chunk | exact Rm.here | exact Rm.nil0 | apply Rm.skip | apply Rm.skipS)); done)) | apply Take.cons)) ?_
            rintro v J L1 hJ ⟨rfl, rfl, rfl⟩
            clear hJ; try simp only [List.cons_append, List.nil_append, List.append_assoc]
            refine WD.go (.inr (fun _ _ h => h.elim)) (fun _ _ h => h.elim) ?_
            refine WD.both (i := 9) (j := 11) (by kernel_rfl) rfl rfl ?_ ?_
            · refine WP.oper rfl rfl ?_
              refine Op.call (super_numSub (l := 21) (h := 27) (N := 64) (by decide) (by decide) (by decide) hl) rfl Try.func34 rfl rfl rfl rfl (by repeat (first | exact Take.nil | with_reducible apply Take.cons | apply Take.app | exact Rm.chunk | exact Rm.here | exact Rm.nil0 | apply Rm.skip | apply Rm.skipS | (focus (apply Take.all; (repeat (first | exact Rm.chunk | exact Rm.here | exact Rm.nil0 | apply Rm.skip | apply Rm.skipS)); done)) | apply Take.cons)) ?_
              rintro v J L1 hJ ⟨rfl, rfl, rfl⟩
              clear hJ; try simp only [List.cons_append, List.nil_append, List.append_assoc]
              refine WD.go (.inr (fun _ _ h => h.elim)) (fun _ _ h => h.elim) ?_
              refine WD.val (i := 10) rfl rfl rfl rfl (by kernel_rfl) rfl (Yld.buildS (pl := [(0, 0, 1), (1, 1, 1), (2, 2, 1), (3, 3, 1), (4, 4, 1)]) rfl ty_zr_23 ty_zd_23 (by kernel_rfl) rfl (vs := [_, _, _, _, _]) rfl (segs := [(0, [_]), (1, [_]), (2, [_]), (3, [_]), (4, [_])]) rfl rfl (by repeat (first | exact SetSeg.nil | apply SetSeg.one | exact SetAt.zero | apply SetAt.succ))) ?_
              refine WD.loud (i := 11) (by kernel_rfl) rfl rfl rfl ?_
              refine Op.alloc rfl rfl rfl ty_zr_23 (fun b5 => ?_)
              refine WD.go (.inr (fun _ _ h => h.elim)) (fun _ _ h => h.elim) ?_
              refine WD.loud (i := 12) (by kernel_rfl) rfl rfl rfl ?_
              refine Op.storeAll rfl rfl ty_sz_23 rfl rfl rfl rfl (by repeat (first | exact Upd.head | apply Upd.tail | apply Upd.tailS)) rfl ?_
              refine WD.go (.inl rfl) (fun _ _ h => h.elim) ?_
              refine WD.done (by kernel_rfl) ?_
              refine WP.sub [(0, _), (2, _), (3, _), (4, _), (5, _), (8, _)] ?_ ⟨rfl, rfl, rfl, rfl, rfl, rfl, trivial⟩
              refine WP.next ?_
              refine WP.seq ?_
              refine WP.seq ?_
              refine WD.start Trymixed 9 (fun _ _ => False) (fun b o => (b = b4 ∧ o = row 61 (bytesV bs)) ∨ (b = b5 ∧ o = row 23 (spV (decF bs)))) (fun _ _ h => h.elim) (by rintro _ _ (⟨rfl, rfl⟩ | ⟨rfl, rfl⟩) <;> exact (by repeat (first | exact There.h | exact There.i (by assumption) | apply There.t | apply There.s))) 9 [false, false, false, false, false, false, false, false, false] rfl rfl ?_
              refine WD.val (i := 0) rfl rfl rfl rfl (by kernel_rfl) rfl (Yld.loadAll rfl ty_ag_23 rfl (.inr ⟨rfl, rfl⟩) rfl) ?_
              refine WD.loud (i := 1) (by kernel_rfl) rfl rfl rfl ?_
              refine Op.call (super_may (s := decF bs)) rfl Try.func30 rfl rfl rfl rfl (by repeat (first | exact Take.nil | with_reducible apply Take.cons | apply Take.app | exact Rm.chunk | exact Rm.here | exact Rm.nil0 | apply Rm.skip | apply Rm.skipS | (focus (apply Take.all; (repeat (first | exact Rm.chunk | exact Rm.here | exact Rm.nil0 | apply Rm.skip | apply Rm.skipS)); done)) | apply Take.cons)) ?_
              rintro v J L1 hJ ⟨bm, rfl, hbm, rfl, rfl⟩
              clear hJ; try simp only [List.cons_append, List.nil_append, List.append_assoc]
              refine WD.go (.inr (fun _ _ h => h.elim)) (by rintro _ _ (⟨rfl, rfl⟩ | ⟨rfl, rfl⟩) <;> exact (by repeat (first | exact There.h | exact There.i (by assumption) | apply There.t | apply There.s))) ?_
              by_cases hm : bm = true
              · rw [hm]
                refine WD.val (i := 2) rfl rfl rfl rfl (by kernel_rfl) rfl (Yld.not rfl rfl) ?_
                refine WD.val (i := 3) rfl rfl rfl rfl (by kernel_rfl) rfl (Yld.move rfl rfl) ?_
                refine WD.valG (i := 4) rfl rfl rfl rfl rfl rfl rfl (by kernel_rfl) rfl (Yld.loadAll rfl ty_ag_23 rfl (.inr ⟨rfl, rfl⟩) rfl) ?_
                refine WD.valG (i := 6) rfl rfl rfl rfl rfl rfl rfl (by kernel_rfl) rfl (Yld.loadAll rfl ty_ag_61 rfl (.inl ⟨rfl, rfl⟩) (by rw [bytesV_len]; exact hl)) ?_
                refine WD.loudG (i := 5) (by kernel_rfl) rfl rfl rfl rfl rfl rfl ?_
                refine Op.call (super_laid (s := decF bs) (hbm.1 hm)) rfl Try.func31 rfl rfl rfl rfl (by repeat (first | exact Take.nil | with_reducible apply Take.cons | apply Take.app | exact Rm.chunk | exact Rm.here | exact Rm.nil0 | apply Rm.skip | apply Rm.skipS | (focus (apply Take.all; (repeat (first | exact Rm.chunk | exact Rm.here | exact Rm.nil0 | apply Rm.skip | apply Rm.skipS)); done)) | apply Take.cons)) ?_
                rintro v J2 L1 hJ2 ⟨rfl, rfl⟩
                try simp only [List.cons_append, List.nil_append, List.append_assoc]
                refine WD.go (.inr (fun _ _ h => h.elim)) (by rintro _ _ (⟨rfl, rfl⟩ | ⟨rfl, rfl⟩) <;> exact (by repeat (first | exact There.h | exact There.i (by assumption) | apply There.t | apply There.s))) ?_
                refine WD.valG (i := 7) rfl rfl rfl rfl rfl rfl rfl (by kernel_rfl) rfl (Yld.neqBytes (a := enc (decF bs)) (b := bs) rfl form_eq rfl rfl (enc_len _) hl) ?_
                by_cases hq : (decide (¬ enc (decF bs) = bs)) = true
                · rw [hq]
                  refine WD.val (i := 8) rfl rfl rfl rfl (by kernel_rfl) rfl (Yld.pickF rfl rfl rfl) ?_
                  refine WD.done (by kernel_rfl) ?_
                  refine WP.sub [(0, _), (2, _), (3, _), (4, _), (5, _), (8, _), (32, _)] ?_ ⟨rfl, rfl, rfl, rfl, rfl, rfl, rfl, trivial⟩
                  refine WP.next ?_
                  refine WP.condT rfl ?_
                  refine WP.seq ?_
                  refine WP.region [0, 1, 2] rfl ?_
                  refine WP.val rfl rfl rfl rfl (Yld.buildS (pl := []) rfl ty_zr_23 ty_zd_23 (by kernel_rfl) rfl (vs := []) rfl (segs := []) rfl rfl (by repeat (first | exact SetSeg.nil | apply SetSeg.one | exact SetAt.zero | apply SetAt.succ))) ?_
                  refine WP.loud rfl rfl ?_
                  refine Op.storeAll rfl rfl ty_sz_23 rfl rfl rfl rfl (by repeat (first | exact Upd.head | apply Upd.tail | apply Upd.tailS)) rfl ?_
                  refine WP.val rfl rfl rfl rfl (Yld.assign rfl rfl) ?_
                  refine WP.nil ?_
                  refine WP.sub [(0, _), (2, _), (3, _), (4, _), (5, _), (8, _), (32, _)] ?_ ⟨rfl, rfl, rfl, rfl, rfl, rfl, rfl, trivial⟩
                  refine WP.next ?_
                  refine WP.ret ?_
                  refine WP.fin .ret (.inr rfl) (resT (rs := [.cell 2 23, .tmp 3]) (vs := [_, _]) rfl ⟨⟨_, _, _, _, rfl, (by repeat (first | exact There.h | exact There.i (by assumption) | apply There.t | apply There.s)), .inl ⟨ty_ag_23, by rfl, rfl⟩⟩, rfl, trivial⟩ rfl) [] (by repeat (first | exact Take.nil | with_reducible apply Take.cons | apply Take.app | exact Rm.chunk | exact Rm.here | exact Rm.nil0 | apply Rm.skip | apply Rm.skipS | (focus (apply Take.all; (repeat (first | exact Rm.chunk | exact Rm.here | exact Rm.nil0 | apply Rm.skip | apply Rm.skipS)); done)) | apply Take.cons)) (by repeat (first | exact Leave.done | apply Leave.drop | apply Leave.dropS)) hJ2 ?_
                  exact ⟨by rw [decS_none (fun h => (of_decide_eq_true hq) h.2.2)]; rfl, rfl⟩
                · have hq : (decide (¬ enc (decF bs) = bs)) = false := by simpa using hq
                  rw [hq]
                  refine WD.val (i := 8) rfl rfl rfl rfl (by kernel_rfl) rfl (Yld.pickF rfl rfl rfl) ?_
                  refine WD.done (by kernel_rfl) ?_
                  refine WP.sub [(0, _), (2, _), (3, _), (4, _), (5, _), (8, _), (32, _)] ?_ ⟨rfl, rfl, rfl, rfl, rfl, rfl, rfl, trivial⟩
                  refine WP.next ?_
                  refine WP.condF rfl ?_
                  refine WP.skip ?_
                  refine WP.next ?_
                  refine WP.seq ?_
                  refine WP.region [0, 1, 2] rfl ?_
                  refine WP.val rfl rfl rfl rfl (Yld.loadAll rfl ty_ag_23 rfl (by repeat (first | exact There.h | exact There.i (by assumption) | apply There.t | apply There.s)) rfl) ?_
                  refine WP.loud rfl rfl ?_
                  refine Op.storeAll rfl rfl ty_sz_23 rfl rfl rfl rfl (by repeat (first | exact Upd.head | apply Upd.tail | apply Upd.tailS)) rfl ?_
                  refine WP.val rfl rfl rfl rfl (Yld.assign rfl rfl) ?_
                  refine WP.nil ?_
                  refine WP.sub [(0, _), (2, _), (3, _), (4, _), (5, _), (8, _), (32, _)] ?_ ⟨rfl, rfl, rfl, rfl, rfl, rfl, rfl, trivial⟩
                  refine WP.next ?_
                  refine WP.ret ?_
                  refine WP.fin .ret (.inr rfl) (resT (rs := [.cell 2 23, .tmp 3]) (vs := [_, _]) rfl ⟨⟨_, _, _, _, rfl, (by repeat (first | exact There.h | exact There.i (by assumption) | apply There.t | apply There.s)), .inl ⟨ty_ag_23, by rfl, rfl⟩⟩, rfl, trivial⟩ rfl) [] (by repeat (first | exact Take.nil | with_reducible apply Take.cons | apply Take.app | exact Rm.chunk | exact Rm.here | exact Rm.nil0 | apply Rm.skip | apply Rm.skipS | (focus (apply Take.all; (repeat (first | exact Rm.chunk | exact Rm.here | exact Rm.nil0 | apply Rm.skip | apply Rm.skipS)); done)) | apply Take.cons)) (by repeat (first | exact Leave.done | apply Leave.drop | apply Leave.dropS)) hJ2 ?_
                  exact ⟨by rw [decS_some ⟨hl, hbm.1 hm, Decidable.not_not.1 (of_decide_eq_false hq)⟩]; rfl, rfl⟩
              · have hm : bm = false := by simpa using hm
                rw [hm]
                refine WD.val (i := 2) rfl rfl rfl rfl (by kernel_rfl) rfl (Yld.not rfl rfl) ?_
                refine WD.val (i := 3) rfl rfl rfl rfl (by kernel_rfl) rfl (Yld.move rfl rfl) ?_
                refine WD.passG (i := 4) rfl rfl rfl rfl rfl rfl rfl rfl (by kernel_rfl) rfl ?_
                refine WD.passG (i := 5) rfl rfl rfl rfl rfl rfl rfl rfl (by kernel_rfl) rfl ?_
                refine WD.passG (i := 6) rfl rfl rfl rfl rfl rfl rfl rfl (by kernel_rfl) rfl ?_
                refine WD.passG (i := 7) rfl rfl rfl rfl rfl rfl rfl rfl (by kernel_rfl) rfl ?_
                refine WD.val (i := 8) rfl rfl rfl rfl (by kernel_rfl) rfl (Yld.pickT rfl rfl rfl) ?_
                refine WD.done (by kernel_rfl) ?_
                refine WP.sub [(0, _), (2, _), (3, _), (4, _), (5, _), (8, _), (32, _)] ?_ ⟨rfl, rfl, rfl, rfl, rfl, rfl, rfl, trivial⟩
                refine WP.next ?_
                refine WP.condT rfl ?_
                refine WP.seq ?_
                refine WP.region [0, 1, 2] rfl ?_
                refine WP.val rfl rfl rfl rfl (Yld.buildS (pl := []) rfl ty_zr_23 ty_zd_23 (by kernel_rfl) rfl (vs := []) rfl (segs := []) rfl rfl (by repeat (first | exact SetSeg.nil | apply SetSeg.one | exact SetAt.zero | apply SetAt.succ))) ?_
                refine WP.loud rfl rfl ?_
                refine Op.storeAll rfl rfl ty_sz_23 rfl rfl rfl rfl (by repeat (first | exact Upd.head | apply Upd.tail | apply Upd.tailS)) rfl ?_
                refine WP.val rfl rfl rfl rfl (Yld.assign rfl rfl) ?_
                refine WP.nil ?_
                refine WP.sub [(0, _), (2, _), (3, _), (4, _), (5, _), (8, _), (32, _)] ?_ ⟨rfl, rfl, rfl, rfl, rfl, rfl, rfl, trivial⟩
                refine WP.next ?_
                refine WP.ret ?_
                refine WP.fin .ret (.inr rfl) (resT (rs := [.cell 2 23, .tmp 3]) (vs := [_, _]) rfl ⟨⟨_, _, _, _, rfl, (by repeat (first | exact There.h | exact There.i (by assumption) | apply There.t | apply There.s)), .inl ⟨ty_ag_23, by rfl, rfl⟩⟩, rfl, trivial⟩ rfl) [] (by repeat (first | exact Take.nil | with_reducible apply Take.cons | apply Take.app | exact Rm.chunk | exact Rm.here | exact Rm.nil0 | apply Rm.skip | apply Rm.skipS | (focus (apply Take.all; (repeat (first | exact Rm.chunk | exact Rm.here | exact Rm.nil0 | apply Rm.skip | apply Rm.skipS)); done)) | apply Take.cons)) (by repeat (first | exact Leave.done | apply Leave.drop | apply Leave.dropS)) (Imm.le_refl _) ?_
                exact ⟨by rw [decS_none (fun h => (by have := hbm.2 h.2.1; rw [hm] at this; cases this))]; rfl, rfl⟩
            · refine WP.oper rfl rfl ?_
              refine Op.alloc rfl rfl rfl ty_zr_23 (fun b5 => ?_)
              refine WD.go (.inr (fun _ _ h => h.elim)) (fun _ _ h => h.elim) ?_
              refine WD.loud (i := 9) (by kernel_rfl) rfl rfl rfl ?_
              refine Op.call (super_numSub (l := 21) (h := 27) (N := 64) (by decide) (by decide) (by decide) hl) rfl Try.func34 rfl rfl rfl rfl (by repeat (first | exact Take.nil | with_reducible apply Take.cons | apply Take.app | exact Rm.chunk | exact Rm.here | exact Rm.nil0 | apply Rm.skip | apply Rm.skipS | (focus (apply Take.all; (repeat (first | exact Rm.chunk | exact Rm.here | exact Rm.nil0 | apply Rm.skip | apply Rm.skipS)); done)) | apply Take.cons)) ?_
              rintro v J L1 hJ ⟨rfl, rfl, rfl⟩
              clear hJ; try simp only [List.cons_append, List.nil_append, List.append_assoc]
              refine WD.go (.inr (fun _ _ h => h.elim)) (fun _ _ h => h.elim) ?_
              refine WD.val (i := 10) rfl rfl rfl rfl (by kernel_rfl) rfl (Yld.buildS (pl := [(0, 0, 1), (1, 1, 1), (2, 2, 1), (3, 3, 1), (4, 4, 1)]) rfl ty_zr_23 ty_zd_23 (by kernel_rfl) rfl (vs := [_, _, _, _, _]) rfl (segs := [(0, [_]), (1, [_]), (2, [_]), (3, [_]), (4, [_])]) rfl rfl (by repeat (first | exact SetSeg.nil | apply SetSeg.one | exact SetAt.zero | apply SetAt.succ))) ?_
              refine WD.loud (i := 12) (by kernel_rfl) rfl rfl rfl ?_
              refine Op.storeAll rfl rfl ty_sz_23 rfl rfl rfl rfl (by repeat (first | exact Upd.head | apply Upd.tail | apply Upd.tailS)) rfl ?_
              refine WD.go (.inl rfl) (fun _ _ h => h.elim) ?_
              refine WD.done (by kernel_rfl) ?_
              refine WP.sub [(0, _), (2, _), (3, _), (4, _), (5, _), (8, _)] ?_ ⟨rfl, rfl, rfl, rfl, rfl, rfl, trivial⟩
              refine WP.next ?_
              refine WP.seq ?_
              refine WP.seq ?_
              refine WD.start Trymixed 9 (fun _ _ => False) (fun b o => (b = b4 ∧ o = row 61 (bytesV bs)) ∨ (b = b5 ∧ o = row 23 (spV (decF bs)))) (fun _ _ h => h.elim) (by rintro _ _ (⟨rfl, rfl⟩ | ⟨rfl, rfl⟩) <;> exact (by repeat (first | exact There.h | exact There.i (by assumption) | apply There.t | apply There.s))) 9 [false, false, false, false, false, false, false, false, false] rfl rfl ?_
              refine WD.val (i := 0) rfl rfl rfl rfl (by kernel_rfl) rfl (Yld.loadAll rfl ty_ag_23 rfl (.inr ⟨rfl, rfl⟩) rfl) ?_
              refine WD.loud (i := 1) (by kernel_rfl) rfl rfl rfl ?_
              refine Op.call (super_may (s := decF bs)) rfl Try.func30 rfl rfl rfl rfl (by repeat (first | exact Take.nil | with_reducible apply Take.cons | apply Take.app | exact Rm.chunk | exact Rm.here | exact Rm.nil0 | apply Rm.skip | apply Rm.skipS | (focus (apply Take.all; (repeat (first | exact Rm.chunk | exact Rm.here | exact Rm.nil0 | apply Rm.skip | apply Rm.skipS)); done)) | apply Take.cons)) ?_
              rintro v J L1 hJ ⟨bm, rfl, hbm, rfl, rfl⟩
              clear hJ; try simp only [List.cons_append, List.nil_append, List.append_assoc]
              refine WD.go (.inr (fun _ _ h => h.elim)) (by rintro _ _ (⟨rfl, rfl⟩ | ⟨rfl, rfl⟩) <;> exact (by repeat (first | exact There.h | exact There.i (by assumption) | apply There.t | apply There.s))) ?_
              by_cases hm : bm = true
              · rw [hm]
                refine WD.val (i := 2) rfl rfl rfl rfl (by kernel_rfl) rfl (Yld.not rfl rfl) ?_
                refine WD.val (i := 3) rfl rfl rfl rfl (by kernel_rfl) rfl (Yld.move rfl rfl) ?_
                refine WD.valG (i := 4) rfl rfl rfl rfl rfl rfl rfl (by kernel_rfl) rfl (Yld.loadAll rfl ty_ag_23 rfl (.inr ⟨rfl, rfl⟩) rfl) ?_
                refine WD.valG (i := 6) rfl rfl rfl rfl rfl rfl rfl (by kernel_rfl) rfl (Yld.loadAll rfl ty_ag_61 rfl (.inl ⟨rfl, rfl⟩) (by rw [bytesV_len]; exact hl)) ?_
                refine WD.loudG (i := 5) (by kernel_rfl) rfl rfl rfl rfl rfl rfl ?_
                refine Op.call (super_laid (s := decF bs) (hbm.1 hm)) rfl Try.func31 rfl rfl rfl rfl (by repeat (first | exact Take.nil | with_reducible apply Take.cons | apply Take.app | exact Rm.chunk | exact Rm.here | exact Rm.nil0 | apply Rm.skip | apply Rm.skipS | (focus (apply Take.all; (repeat (first | exact Rm.chunk | exact Rm.here | exact Rm.nil0 | apply Rm.skip | apply Rm.skipS)); done)) | apply Take.cons)) ?_
                rintro v J2 L1 hJ2 ⟨rfl, rfl⟩
                try simp only [List.cons_append, List.nil_append, List.append_assoc]
                refine WD.go (.inr (fun _ _ h => h.elim)) (by rintro _ _ (⟨rfl, rfl⟩ | ⟨rfl, rfl⟩) <;> exact (by repeat (first | exact There.h | exact There.i (by assumption) | apply There.t | apply There.s))) ?_
                refine WD.valG (i := 7) rfl rfl rfl rfl rfl rfl rfl (by kernel_rfl) rfl (Yld.neqBytes (a := enc (decF bs)) (b := bs) rfl form_eq rfl rfl (enc_len _) hl) ?_
                by_cases hq : (decide (¬ enc (decF bs) = bs)) = true
                · rw [hq]
                  refine WD.val (i := 8) rfl rfl rfl rfl (by kernel_rfl) rfl (Yld.pickF rfl rfl rfl) ?_
                  refine WD.done (by kernel_rfl) ?_
                  refine WP.sub [(0, _), (2, _), (3, _), (4, _), (5, _), (8, _), (32, _)] ?_ ⟨rfl, rfl, rfl, rfl, rfl, rfl, rfl, trivial⟩
                  refine WP.next ?_
                  refine WP.condT rfl ?_
                  refine WP.seq ?_
                  refine WP.region [0, 1, 2] rfl ?_
                  refine WP.val rfl rfl rfl rfl (Yld.buildS (pl := []) rfl ty_zr_23 ty_zd_23 (by kernel_rfl) rfl (vs := []) rfl (segs := []) rfl rfl (by repeat (first | exact SetSeg.nil | apply SetSeg.one | exact SetAt.zero | apply SetAt.succ))) ?_
                  refine WP.loud rfl rfl ?_
                  refine Op.storeAll rfl rfl ty_sz_23 rfl rfl rfl rfl (by repeat (first | exact Upd.head | apply Upd.tail | apply Upd.tailS)) rfl ?_
                  refine WP.val rfl rfl rfl rfl (Yld.assign rfl rfl) ?_
                  refine WP.nil ?_
                  refine WP.sub [(0, _), (2, _), (3, _), (4, _), (5, _), (8, _), (32, _)] ?_ ⟨rfl, rfl, rfl, rfl, rfl, rfl, rfl, trivial⟩
                  refine WP.next ?_
                  refine WP.ret ?_
                  refine WP.fin .ret (.inr rfl) (resT (rs := [.cell 2 23, .tmp 3]) (vs := [_, _]) rfl ⟨⟨_, _, _, _, rfl, (by repeat (first | exact There.h | exact There.i (by assumption) | apply There.t | apply There.s)), .inl ⟨ty_ag_23, by rfl, rfl⟩⟩, rfl, trivial⟩ rfl) [] (by repeat (first | exact Take.nil | with_reducible apply Take.cons | apply Take.app | exact Rm.chunk | exact Rm.here | exact Rm.nil0 | apply Rm.skip | apply Rm.skipS | (focus (apply Take.all; (repeat (first | exact Rm.chunk | exact Rm.here | exact Rm.nil0 | apply Rm.skip | apply Rm.skipS)); done)) | apply Take.cons)) (by repeat (first | exact Leave.done | apply Leave.drop | apply Leave.dropS)) hJ2 ?_
                  exact ⟨by rw [decS_none (fun h => (of_decide_eq_true hq) h.2.2)]; rfl, rfl⟩
                · have hq : (decide (¬ enc (decF bs) = bs)) = false := by simpa using hq
                  rw [hq]
                  refine WD.val (i := 8) rfl rfl rfl rfl (by kernel_rfl) rfl (Yld.pickF rfl rfl rfl) ?_
                  refine WD.done (by kernel_rfl) ?_
                  refine WP.sub [(0, _), (2, _), (3, _), (4, _), (5, _), (8, _), (32, _)] ?_ ⟨rfl, rfl, rfl, rfl, rfl, rfl, rfl, trivial⟩
                  refine WP.next ?_
                  refine WP.condF rfl ?_
                  refine WP.skip ?_
                  refine WP.next ?_
                  refine WP.seq ?_
                  refine WP.region [0, 1, 2] rfl ?_
                  refine WP.val rfl rfl rfl rfl (Yld.loadAll rfl ty_ag_23 rfl (by repeat (first | exact There.h | exact There.i (by assumption) | apply There.t | apply There.s)) rfl) ?_
                  refine WP.loud rfl rfl ?_
                  refine Op.storeAll rfl rfl ty_sz_23 rfl rfl rfl rfl (by repeat (first | exact Upd.head | apply Upd.tail | apply Upd.tailS)) rfl ?_
                  refine WP.val rfl rfl rfl rfl (Yld.assign rfl rfl) ?_
                  refine WP.nil ?_
                  refine WP.sub [(0, _), (2, _), (3, _), (4, _), (5, _), (8, _), (32, _)] ?_ ⟨rfl, rfl, rfl, rfl, rfl, rfl, rfl, trivial⟩
                  refine WP.next ?_
                  refine WP.ret ?_
                  refine WP.fin .ret (.inr rfl) (resT (rs := [.cell 2 23, .tmp 3]) (vs := [_, _]) rfl ⟨⟨_, _, _, _, rfl, (by repeat (first | exact There.h | exact There.i (by assumption) | apply There.t | apply There.s)), .inl ⟨ty_ag_23, by rfl, rfl⟩⟩, rfl, trivial⟩ rfl) [] (by repeat (first | exact Take.nil | with_reducible apply Take.cons | apply Take.app | exact Rm.chunk | exact Rm.here | exact Rm.nil0 | apply Rm.skip | apply Rm.skipS | (focus (apply Take.all; (repeat (first | exact Rm.chunk | exact Rm.here | exact Rm.nil0 | apply Rm.skip | apply Rm.skipS)); done)) | apply Take.cons)) (by repeat (first | exact Leave.done | apply Leave.drop | apply Leave.dropS)) hJ2 ?_
                  exact ⟨by rw [decS_some ⟨hl, hbm.1 hm, Decidable.not_not.1 (of_decide_eq_false hq)⟩]; rfl, rfl⟩
              · have hm : bm = false := by simpa using hm
                rw [hm]
                refine WD.val (i := 2) rfl rfl rfl rfl (by kernel_rfl) rfl (Yld.not rfl rfl) ?_
                refine WD.val (i := 3) rfl rfl rfl rfl (by kernel_rfl) rfl (Yld.move rfl rfl) ?_
                refine WD.passG (i := 4) rfl rfl rfl rfl rfl rfl rfl rfl (by kernel_rfl) rfl ?_
                refine WD.passG (i := 5) rfl rfl rfl rfl rfl rfl rfl rfl (by kernel_rfl) rfl ?_
                refine WD.passG (i := 6) rfl rfl rfl rfl rfl rfl rfl rfl (by kernel_rfl) rfl ?_
                refine WD.passG (i := 7) rfl rfl rfl rfl rfl rfl rfl rfl (by kernel_rfl) rfl ?_
                refine WD.val (i := 8) rfl rfl rfl rfl (by kernel_rfl) rfl (Yld.pickT rfl rfl rfl) ?_
                refine WD.done (by kernel_rfl) ?_
                refine WP.sub [(0, _), (2, _), (3, _), (4, _), (5, _), (8, _), (32, _)] ?_ ⟨rfl, rfl, rfl, rfl, rfl, rfl, rfl, trivial⟩
                refine WP.next ?_
                refine WP.condT rfl ?_
                refine WP.seq ?_
                refine WP.region [0, 1, 2] rfl ?_
                refine WP.val rfl rfl rfl rfl (Yld.buildS (pl := []) rfl ty_zr_23 ty_zd_23 (by kernel_rfl) rfl (vs := []) rfl (segs := []) rfl rfl (by repeat (first | exact SetSeg.nil | apply SetSeg.one | exact SetAt.zero | apply SetAt.succ))) ?_
                refine WP.loud rfl rfl ?_
                refine Op.storeAll rfl rfl ty_sz_23 rfl rfl rfl rfl (by repeat (first | exact Upd.head | apply Upd.tail | apply Upd.tailS)) rfl ?_
                refine WP.val rfl rfl rfl rfl (Yld.assign rfl rfl) ?_
                refine WP.nil ?_
                refine WP.sub [(0, _), (2, _), (3, _), (4, _), (5, _), (8, _), (32, _)] ?_ ⟨rfl, rfl, rfl, rfl, rfl, rfl, rfl, trivial⟩
                refine WP.next ?_
                refine WP.ret ?_
                refine WP.fin .ret (.inr rfl) (resT (rs := [.cell 2 23, .tmp 3]) (vs := [_, _]) rfl ⟨⟨_, _, _, _, rfl, (by repeat (first | exact There.h | exact There.i (by assumption) | apply There.t | apply There.s)), .inl ⟨ty_ag_23, by rfl, rfl⟩⟩, rfl, trivial⟩ rfl) [] (by repeat (first | exact Take.nil | with_reducible apply Take.cons | apply Take.app | exact Rm.chunk | exact Rm.here | exact Rm.nil0 | apply Rm.skip | apply Rm.skipS | (focus (apply Take.all; (repeat (first | exact Rm.chunk | exact Rm.here | exact Rm.nil0 | apply Rm.skip | apply Rm.skipS)); done)) | apply Take.cons)) (by repeat (first | exact Leave.done | apply Leave.drop | apply Leave.dropS)) (Imm.le_refl _) ?_
                exact ⟨by rw [decS_none (fun h => (by have := hbm.2 h.2.1; rw [hm] at this; cases this))]; rfl, rfl⟩
          · refine WP.oper rfl rfl ?_
            refine Op.alloc rfl rfl rfl ty_zr_23 (fun b5 => ?_)
            refine WD.go (.inr (fun _ _ h => h.elim)) (fun _ _ h => h.elim) ?_
            refine WD.loud (i := 7) (by kernel_rfl) rfl rfl rfl ?_
            refine Op.call (super_numSub (l := 17) (h := 21) (N := 64) (by decide) (by decide) (by decide) hl) rfl Try.func34 rfl rfl rfl rfl (by repeat (first | exact Take.nil | with_reducible apply Take.cons | apply Take.app | exact Rm.chunk | exact Rm.here | exact Rm.nil0 | apply Rm.skip | apply Rm.skipS | (focus (apply Take.all; (repeat (first | exact Rm.chunk | exact Rm.here | exact Rm.nil0 | apply Rm.skip | apply Rm.skipS)); done)) | apply Take.cons)) ?_
            rintro v J L1 hJ ⟨rfl, rfl, rfl⟩
            clear hJ; try simp only [List.cons_append, List.nil_append, List.append_assoc]
            refine WD.go (.inr (fun _ _ h => h.elim)) (fun _ _ h => h.elim) ?_
            refine WD.loud (i := 9) (by kernel_rfl) rfl rfl rfl ?_
            refine Op.call (super_numSub (l := 21) (h := 27) (N := 64) (by decide) (by decide) (by decide) hl) rfl Try.func34 rfl rfl rfl rfl (by repeat (first | exact Take.nil | with_reducible apply Take.cons | apply Take.app | exact Rm.chunk | exact Rm.here | exact Rm.nil0 | apply Rm.skip | apply Rm.skipS | (focus (apply Take.all; (repeat (first | exact Rm.chunk | exact Rm.here | exact Rm.nil0 | apply Rm.skip | apply Rm.skipS)); done)) | apply Take.cons)) ?_
            rintro v J L1 hJ ⟨rfl, rfl, rfl⟩
            clear hJ; try simp only [List.cons_append, List.nil_append, List.append_assoc]
            refine WD.go (.inr (fun _ _ h => h.elim)) (fun _ _ h => h.elim) ?_
            refine WD.val (i := 10) rfl rfl rfl rfl (by kernel_rfl) rfl (Yld.buildS (pl := [(0, 0, 1), (1, 1, 1), (2, 2, 1), (3, 3, 1), (4, 4, 1)]) rfl ty_zr_23 ty_zd_23 (by kernel_rfl) rfl (vs := [_, _, _, _, _]) rfl (segs := [(0, [_]), (1, [_]), (2, [_]), (3, [_]), (4, [_])]) rfl rfl (by repeat (first | exact SetSeg.nil | apply SetSeg.one | exact SetAt.zero | apply SetAt.succ))) ?_
            refine WD.loud (i := 12) (by kernel_rfl) rfl rfl rfl ?_
            refine Op.storeAll rfl rfl ty_sz_23 rfl rfl rfl rfl (by repeat (first | exact Upd.head | apply Upd.tail | apply Upd.tailS)) rfl ?_
            refine WD.go (.inl rfl) (fun _ _ h => h.elim) ?_
            refine WD.done (by kernel_rfl) ?_
            refine WP.sub [(0, _), (2, _), (3, _), (4, _), (5, _), (8, _)] ?_ ⟨rfl, rfl, rfl, rfl, rfl, rfl, trivial⟩
            refine WP.next ?_
            refine WP.seq ?_
            refine WP.seq ?_
            refine WD.start Trymixed 9 (fun _ _ => False) (fun b o => (b = b4 ∧ o = row 61 (bytesV bs)) ∨ (b = b5 ∧ o = row 23 (spV (decF bs)))) (fun _ _ h => h.elim) (by rintro _ _ (⟨rfl, rfl⟩ | ⟨rfl, rfl⟩) <;> exact (by repeat (first | exact There.h | exact There.i (by assumption) | apply There.t | apply There.s))) 9 [false, false, false, false, false, false, false, false, false] rfl rfl ?_
            refine WD.val (i := 0) rfl rfl rfl rfl (by kernel_rfl) rfl (Yld.loadAll rfl ty_ag_23 rfl (.inr ⟨rfl, rfl⟩) rfl) ?_
            refine WD.loud (i := 1) (by kernel_rfl) rfl rfl rfl ?_
            refine Op.call (super_may (s := decF bs)) rfl Try.func30 rfl rfl rfl rfl (by repeat (first | exact Take.nil | with_reducible apply Take.cons | apply Take.app | exact Rm.chunk | exact Rm.here | exact Rm.nil0 | apply Rm.skip | apply Rm.skipS | (focus (apply Take.all; (repeat (first | exact Rm.chunk | exact Rm.here | exact Rm.nil0 | apply Rm.skip | apply Rm.skipS)); done)) | apply Take.cons)) ?_
            rintro v J L1 hJ ⟨bm, rfl, hbm, rfl, rfl⟩
            clear hJ; try simp only [List.cons_append, List.nil_append, List.append_assoc]
            refine WD.go (.inr (fun _ _ h => h.elim)) (by rintro _ _ (⟨rfl, rfl⟩ | ⟨rfl, rfl⟩) <;> exact (by repeat (first | exact There.h | exact There.i (by assumption) | apply There.t | apply There.s))) ?_
            by_cases hm : bm = true
            · rw [hm]
              refine WD.val (i := 2) rfl rfl rfl rfl (by kernel_rfl) rfl (Yld.not rfl rfl) ?_
              refine WD.val (i := 3) rfl rfl rfl rfl (by kernel_rfl) rfl (Yld.move rfl rfl) ?_
              refine WD.valG (i := 4) rfl rfl rfl rfl rfl rfl rfl (by kernel_rfl) rfl (Yld.loadAll rfl ty_ag_23 rfl (.inr ⟨rfl, rfl⟩) rfl) ?_
              refine WD.valG (i := 6) rfl rfl rfl rfl rfl rfl rfl (by kernel_rfl) rfl (Yld.loadAll rfl ty_ag_61 rfl (.inl ⟨rfl, rfl⟩) (by rw [bytesV_len]; exact hl)) ?_
              refine WD.loudG (i := 5) (by kernel_rfl) rfl rfl rfl rfl rfl rfl ?_
              refine Op.call (super_laid (s := decF bs) (hbm.1 hm)) rfl Try.func31 rfl rfl rfl rfl (by repeat (first | exact Take.nil | with_reducible apply Take.cons | apply Take.app | exact Rm.chunk | exact Rm.here | exact Rm.nil0 | apply Rm.skip | apply Rm.skipS | (focus (apply Take.all; (repeat (first | exact Rm.chunk | exact Rm.here | exact Rm.nil0 | apply Rm.skip | apply Rm.skipS)); done)) | apply Take.cons)) ?_
              rintro v J2 L1 hJ2 ⟨rfl, rfl⟩
              try simp only [List.cons_append, List.nil_append, List.append_assoc]
              refine WD.go (.inr (fun _ _ h => h.elim)) (by rintro _ _ (⟨rfl, rfl⟩ | ⟨rfl, rfl⟩) <;> exact (by repeat (first | exact There.h | exact There.i (by assumption) | apply There.t | apply There.s))) ?_
              refine WD.valG (i := 7) rfl rfl rfl rfl rfl rfl rfl (by kernel_rfl) rfl (Yld.neqBytes (a := enc (decF bs)) (b := bs) rfl form_eq rfl rfl (enc_len _) hl) ?_
              by_cases hq : (decide (¬ enc (decF bs) = bs)) = true
              · rw [hq]
                refine WD.val (i := 8) rfl rfl rfl rfl (by kernel_rfl) rfl (Yld.pickF rfl rfl rfl) ?_
                refine WD.done (by kernel_rfl) ?_
                refine WP.sub [(0, _), (2, _), (3, _), (4, _), (5, _), (8, _), (32, _)] ?_ ⟨rfl, rfl, rfl, rfl, rfl, rfl, rfl, trivial⟩
                refine WP.next ?_
                refine WP.condT rfl ?_
                refine WP.seq ?_
                refine WP.region [0, 1, 2] rfl ?_
                refine WP.val rfl rfl rfl rfl (Yld.buildS (pl := []) rfl ty_zr_23 ty_zd_23 (by kernel_rfl) rfl (vs := []) rfl (segs := []) rfl rfl (by repeat (first | exact SetSeg.nil | apply SetSeg.one | exact SetAt.zero | apply SetAt.succ))) ?_
                refine WP.loud rfl rfl ?_
                refine Op.storeAll rfl rfl ty_sz_23 rfl rfl rfl rfl (by repeat (first | exact Upd.head | apply Upd.tail | apply Upd.tailS)) rfl ?_
                refine WP.val rfl rfl rfl rfl (Yld.assign rfl rfl) ?_
                refine WP.nil ?_
                refine WP.sub [(0, _), (2, _), (3, _), (4, _), (5, _), (8, _), (32, _)] ?_ ⟨rfl, rfl, rfl, rfl, rfl, rfl, rfl, trivial⟩
                refine WP.next ?_
                refine WP.ret ?_
                refine WP.fin .ret (.inr rfl) (resT (rs := [.cell 2 23, .tmp 3]) (vs := [_, _]) rfl ⟨⟨_, _, _, _, rfl, (by repeat (first | exact There.h | exact There.i (by assumption) | apply There.t | apply There.s)), .inl ⟨ty_ag_23, by rfl, rfl⟩⟩, rfl, trivial⟩ rfl) [] (by repeat (first | exact Take.nil | with_reducible apply Take.cons | apply Take.app | exact Rm.chunk | exact Rm.here | exact Rm.nil0 | apply Rm.skip | apply Rm.skipS | (focus (apply Take.all; (repeat (first | exact Rm.chunk | exact Rm.here | exact Rm.nil0 | apply Rm.skip | apply Rm.skipS)); done)) | apply Take.cons)) (by repeat (first | exact Leave.done | apply Leave.drop | apply Leave.dropS)) hJ2 ?_
                exact ⟨by rw [decS_none (fun h => (of_decide_eq_true hq) h.2.2)]; rfl, rfl⟩
              · have hq : (decide (¬ enc (decF bs) = bs)) = false := by simpa using hq
                rw [hq]
                refine WD.val (i := 8) rfl rfl rfl rfl (by kernel_rfl) rfl (Yld.pickF rfl rfl rfl) ?_
                refine WD.done (by kernel_rfl) ?_
                refine WP.sub [(0, _), (2, _), (3, _), (4, _), (5, _), (8, _), (32, _)] ?_ ⟨rfl, rfl, rfl, rfl, rfl, rfl, rfl, trivial⟩
                refine WP.next ?_
                refine WP.condF rfl ?_
                refine WP.skip ?_
                refine WP.next ?_
                refine WP.seq ?_
                refine WP.region [0, 1, 2] rfl ?_
                refine WP.val rfl rfl rfl rfl (Yld.loadAll rfl ty_ag_23 rfl (by repeat (first | exact There.h | exact There.i (by assumption) | apply There.t | apply There.s)) rfl) ?_
                refine WP.loud rfl rfl ?_
                refine Op.storeAll rfl rfl ty_sz_23 rfl rfl rfl rfl (by repeat (first | exact Upd.head | apply Upd.tail | apply Upd.tailS)) rfl ?_
                refine WP.val rfl rfl rfl rfl (Yld.assign rfl rfl) ?_
                refine WP.nil ?_
                refine WP.sub [(0, _), (2, _), (3, _), (4, _), (5, _), (8, _), (32, _)] ?_ ⟨rfl, rfl, rfl, rfl, rfl, rfl, rfl, trivial⟩
                refine WP.next ?_
                refine WP.ret ?_
                refine WP.fin .ret (.inr rfl) (resT (rs := [.cell 2 23, .tmp 3]) (vs := [_, _]) rfl ⟨⟨_, _, _, _, rfl, (by repeat (first | exact There.h | exact There.i (by assumption) | apply There.t | apply There.s)), .inl ⟨ty_ag_23, by rfl, rfl⟩⟩, rfl, trivial⟩ rfl) [] (by repeat (first | exact Take.nil | with_reducible apply Take.cons | apply Take.app | exact Rm.chunk | exact Rm.here | exact Rm.nil0 | apply Rm.skip | apply Rm.skipS | (focus (apply Take.all; (repeat (first | exact Rm.chunk | exact Rm.here | exact Rm.nil0 | apply Rm.skip | apply Rm.skipS)); done)) | apply Take.cons)) (by repeat (first | exact Leave.done | apply Leave.drop | apply Leave.dropS)) hJ2 ?_
                exact ⟨by rw [decS_some ⟨hl, hbm.1 hm, Decidable.not_not.1 (of_decide_eq_false hq)⟩]; rfl, rfl⟩
            · have hm : bm = false := by simpa using hm
              rw [hm]
              refine WD.val (i := 2) rfl rfl rfl rfl (by kernel_rfl) rfl (Yld.not rfl rfl) ?_
              refine WD.val (i := 3) rfl rfl rfl rfl (by kernel_rfl) rfl (Yld.move rfl rfl) ?_
              refine WD.passG (i := 4) rfl rfl rfl rfl rfl rfl rfl rfl (by kernel_rfl) rfl ?_
              refine WD.passG (i := 5) rfl rfl rfl rfl rfl rfl rfl rfl (by kernel_rfl) rfl ?_
              refine WD.passG (i := 6) rfl rfl rfl rfl rfl rfl rfl rfl (by kernel_rfl) rfl ?_
              refine WD.passG (i := 7) rfl rfl rfl rfl rfl rfl rfl rfl (by kernel_rfl) rfl ?_
              refine WD.val (i := 8) rfl rfl rfl rfl (by kernel_rfl) rfl (Yld.pickT rfl rfl rfl) ?_
              refine WD.done (by kernel_rfl) ?_
              refine WP.sub [(0, _), (2, _), (3, _), (4, _), (5, _), (8, _), (32, _)] ?_ ⟨rfl, rfl, rfl, rfl, rfl, rfl, rfl, trivial⟩
              refine WP.next ?_
              refine WP.condT rfl ?_
              refine WP.seq ?_
              refine WP.region [0, 1, 2] rfl ?_
              refine WP.val rfl rfl rfl rfl (Yld.buildS (pl := []) rfl ty_zr_23 ty_zd_23 (by kernel_rfl) rfl (vs := []) rfl (segs := []) rfl rfl (by repeat (first | exact SetSeg.nil | apply SetSeg.one | exact SetAt.zero | apply SetAt.succ))) ?_
              refine WP.loud rfl rfl ?_
              refine Op.storeAll rfl rfl ty_sz_23 rfl rfl rfl rfl (by repeat (first | exact Upd.head | apply Upd.tail | apply Upd.tailS)) rfl ?_
              refine WP.val rfl rfl rfl rfl (Yld.assign rfl rfl) ?_
              refine WP.nil ?_
              refine WP.sub [(0, _), (2, _), (3, _), (4, _), (5, _), (8, _), (32, _)] ?_ ⟨rfl, rfl, rfl, rfl, rfl, rfl, rfl, trivial⟩
              refine WP.next ?_
              refine WP.ret ?_
              refine WP.fin .ret (.inr rfl) (resT (rs := [.cell 2 23, .tmp 3]) (vs := [_, _]) rfl ⟨⟨_, _, _, _, rfl, (by repeat (first | exact There.h | exact There.i (by assumption) | apply There.t | apply There.s)), .inl ⟨ty_ag_23, by rfl, rfl⟩⟩, rfl, trivial⟩ rfl) [] (by repeat (first | exact Take.nil | with_reducible apply Take.cons | apply Take.app | exact Rm.chunk | exact Rm.here | exact Rm.nil0 | apply Rm.skip | apply Rm.skipS | (focus (apply Take.all; (repeat (first | exact Rm.chunk | exact Rm.here | exact Rm.nil0 | apply Rm.skip | apply Rm.skipS)); done)) | apply Take.cons)) (by repeat (first | exact Leave.done | apply Leave.drop | apply Leave.dropS)) (Imm.le_refl _) ?_
              exact ⟨by rw [decS_none (fun h => (by have := hbm.2 h.2.1; rw [hm] at this; cases this))]; rfl, rfl⟩
        · refine WP.oper rfl rfl ?_
          refine Op.alloc rfl rfl rfl ty_zr_23 (fun b5 => ?_)
          refine WD.go (.inr (fun _ _ h => h.elim)) (fun _ _ h => h.elim) ?_
          refine WD.loud (i := 5) (by kernel_rfl) rfl rfl rfl ?_
          refine Op.call (super_numSub (l := 12) (h := 17) (N := 64) (by decide) (by decide) (by decide) hl) rfl Try.func34 rfl rfl rfl rfl (by repeat (first | exact Take.nil | with_reducible apply Take.cons | apply Take.app | exact Rm.chunk | exact Rm.here | exact Rm.nil0 | apply Rm.skip | apply Rm.skipS | (focus (apply Take.all; (repeat (first | exact Rm.chunk | exact Rm.here | exact Rm.nil0 | apply Rm.skip | apply Rm.skipS)); done)) | apply Take.cons)) ?_
          rintro v J L1 hJ ⟨rfl, rfl, rfl⟩
          clear hJ; try simp only [List.cons_append, List.nil_append, List.append_assoc]
          refine WD.go (.inr (fun _ _ h => h.elim)) (fun _ _ h => h.elim) ?_
          refine WD.loud (i := 7) (by kernel_rfl) rfl rfl rfl ?_
          refine Op.call (super_numSub (l := 17) (h := 21) (N := 64) (by decide) (by decide) (by decide) hl) rfl Try.func34 rfl rfl rfl rfl (by repeat (first | exact Take.nil | with_reducible apply Take.cons | apply Take.app | exact Rm.chunk | exact Rm.here | exact Rm.nil0 | apply Rm.skip | apply Rm.skipS | (focus (apply Take.all; (repeat (first | exact Rm.chunk | exact Rm.here | exact Rm.nil0 | apply Rm.skip | apply Rm.skipS)); done)) | apply Take.cons)) ?_
          rintro v J L1 hJ ⟨rfl, rfl, rfl⟩
          clear hJ; try simp only [List.cons_append, List.nil_append, List.append_assoc]
          refine WD.go (.inr (fun _ _ h => h.elim)) (fun _ _ h => h.elim) ?_
          refine WD.loud (i := 9) (by kernel_rfl) rfl rfl rfl ?_
          refine Op.call (super_numSub (l := 21) (h := 27) (N := 64) (by decide) (by decide) (by decide) hl) rfl Try.func34 rfl rfl rfl rfl (by repeat (first | exact Take.nil | with_reducible apply Take.cons | apply Take.app | exact Rm.chunk | exact Rm.here | exact Rm.nil0 | apply Rm.skip | apply Rm.skipS | (focus (apply Take.all; (repeat (first | exact Rm.chunk | exact Rm.here | exact Rm.nil0 | apply Rm.skip | apply Rm.skipS)); done)) | apply Take.cons)) ?_
          rintro v J L1 hJ ⟨rfl, rfl, rfl⟩
          clear hJ; try simp only [List.cons_append, List.nil_append, List.append_assoc]
          refine WD.go (.inr (fun _ _ h => h.elim)) (fun _ _ h => h.elim) ?_
          refine WD.val (i := 10) rfl rfl rfl rfl (by kernel_rfl) rfl (Yld.buildS (pl := [(0, 0, 1), (1, 1, 1), (2, 2, 1), (3, 3, 1), (4, 4, 1)]) rfl ty_zr_23 ty_zd_23 (by kernel_rfl) rfl (vs := [_, _, _, _, _]) rfl (segs := [(0, [_]), (1, [_]), (2, [_]), (3, [_]), (4, [_])]) rfl rfl (by repeat (first | exact SetSeg.nil | apply SetSeg.one | exact SetAt.zero | apply SetAt.succ))) ?_
          refine WD.loud (i := 12) (by kernel_rfl) rfl rfl rfl ?_
          refine Op.storeAll rfl rfl ty_sz_23 rfl rfl rfl rfl (by repeat (first | exact Upd.head | apply Upd.tail | apply Upd.tailS)) rfl ?_
          refine WD.go (.inl rfl) (fun _ _ h => h.elim) ?_
          refine WD.done (by kernel_rfl) ?_
          refine WP.sub [(0, _), (2, _), (3, _), (4, _), (5, _), (8, _)] ?_ ⟨rfl, rfl, rfl, rfl, rfl, rfl, trivial⟩
          refine WP.next ?_
          refine WP.seq ?_
          refine WP.seq ?_
          refine WD.start Trymixed 9 (fun _ _ => False) (fun b o => (b = b4 ∧ o = row 61 (bytesV bs)) ∨ (b = b5 ∧ o = row 23 (spV (decF bs)))) (fun _ _ h => h.elim) (by rintro _ _ (⟨rfl, rfl⟩ | ⟨rfl, rfl⟩) <;> exact (by repeat (first | exact There.h | exact There.i (by assumption) | apply There.t | apply There.s))) 9 [false, false, false, false, false, false, false, false, false] rfl rfl ?_
          refine WD.val (i := 0) rfl rfl rfl rfl (by kernel_rfl) rfl (Yld.loadAll rfl ty_ag_23 rfl (.inr ⟨rfl, rfl⟩) rfl) ?_
          refine WD.loud (i := 1) (by kernel_rfl) rfl rfl rfl ?_
          refine Op.call (super_may (s := decF bs)) rfl Try.func30 rfl rfl rfl rfl (by repeat (first | exact Take.nil | with_reducible apply Take.cons | apply Take.app | exact Rm.chunk | exact Rm.here | exact Rm.nil0 | apply Rm.skip | apply Rm.skipS | (focus (apply Take.all; (repeat (first | exact Rm.chunk | exact Rm.here | exact Rm.nil0 | apply Rm.skip | apply Rm.skipS)); done)) | apply Take.cons)) ?_
          rintro v J L1 hJ ⟨bm, rfl, hbm, rfl, rfl⟩
          clear hJ; try simp only [List.cons_append, List.nil_append, List.append_assoc]
          refine WD.go (.inr (fun _ _ h => h.elim)) (by rintro _ _ (⟨rfl, rfl⟩ | ⟨rfl, rfl⟩) <;> exact (by repeat (first | exact There.h | exact There.i (by assumption) | apply There.t | apply There.s))) ?_
          by_cases hm : bm = true
          · rw [hm]
            refine WD.val (i := 2) rfl rfl rfl rfl (by kernel_rfl) rfl (Yld.not rfl rfl) ?_
            refine WD.val (i := 3) rfl rfl rfl rfl (by kernel_rfl) rfl (Yld.move rfl rfl) ?_
            refine WD.valG (i := 4) rfl rfl rfl rfl rfl rfl rfl (by kernel_rfl) rfl (Yld.loadAll rfl ty_ag_23 rfl (.inr ⟨rfl, rfl⟩) rfl) ?_
            refine WD.valG (i := 6) rfl rfl rfl rfl rfl rfl rfl (by kernel_rfl) rfl (Yld.loadAll rfl ty_ag_61 rfl (.inl ⟨rfl, rfl⟩) (by rw [bytesV_len]; exact hl)) ?_
            refine WD.loudG (i := 5) (by kernel_rfl) rfl rfl rfl rfl rfl rfl ?_
            refine Op.call (super_laid (s := decF bs) (hbm.1 hm)) rfl Try.func31 rfl rfl rfl rfl (by repeat (first | exact Take.nil | with_reducible apply Take.cons | apply Take.app | exact Rm.chunk | exact Rm.here | exact Rm.nil0 | apply Rm.skip | apply Rm.skipS | (focus (apply Take.all; (repeat (first | exact Rm.chunk | exact Rm.here | exact Rm.nil0 | apply Rm.skip | apply Rm.skipS)); done)) | apply Take.cons)) ?_
            rintro v J2 L1 hJ2 ⟨rfl, rfl⟩
            try simp only [List.cons_append, List.nil_append, List.append_assoc]
            refine WD.go (.inr (fun _ _ h => h.elim)) (by rintro _ _ (⟨rfl, rfl⟩ | ⟨rfl, rfl⟩) <;> exact (by repeat (first | exact There.h | exact There.i (by assumption) | apply There.t | apply There.s))) ?_
            refine WD.valG (i := 7) rfl rfl rfl rfl rfl rfl rfl (by kernel_rfl) rfl (Yld.neqBytes (a := enc (decF bs)) (b := bs) rfl form_eq rfl rfl (enc_len _) hl) ?_
            by_cases hq : (decide (¬ enc (decF bs) = bs)) = true
            · rw [hq]
              refine WD.val (i := 8) rfl rfl rfl rfl (by kernel_rfl) rfl (Yld.pickF rfl rfl rfl) ?_
              refine WD.done (by kernel_rfl) ?_
              refine WP.sub [(0, _), (2, _), (3, _), (4, _), (5, _), (8, _), (32, _)] ?_ ⟨rfl, rfl, rfl, rfl, rfl, rfl, rfl, trivial⟩
              refine WP.next ?_
              refine WP.condT rfl ?_
              refine WP.seq ?_
              refine WP.region [0, 1, 2] rfl ?_
              refine WP.val rfl rfl rfl rfl (Yld.buildS (pl := []) rfl ty_zr_23 ty_zd_23 (by kernel_rfl) rfl (vs := []) rfl (segs := []) rfl rfl (by repeat (first | exact SetSeg.nil | apply SetSeg.one | exact SetAt.zero | apply SetAt.succ))) ?_
              refine WP.loud rfl rfl ?_
              refine Op.storeAll rfl rfl ty_sz_23 rfl rfl rfl rfl (by repeat (first | exact Upd.head | apply Upd.tail | apply Upd.tailS)) rfl ?_
              refine WP.val rfl rfl rfl rfl (Yld.assign rfl rfl) ?_
              refine WP.nil ?_
              refine WP.sub [(0, _), (2, _), (3, _), (4, _), (5, _), (8, _), (32, _)] ?_ ⟨rfl, rfl, rfl, rfl, rfl, rfl, rfl, trivial⟩
              refine WP.next ?_
              refine WP.ret ?_
              refine WP.fin .ret (.inr rfl) (resT (rs := [.cell 2 23, .tmp 3]) (vs := [_, _]) rfl ⟨⟨_, _, _, _, rfl, (by repeat (first | exact There.h | exact There.i (by assumption) | apply There.t | apply There.s)), .inl ⟨ty_ag_23, by rfl, rfl⟩⟩, rfl, trivial⟩ rfl) [] (by repeat (first | exact Take.nil | with_reducible apply Take.cons | apply Take.app | exact Rm.chunk | exact Rm.here | exact Rm.nil0 | apply Rm.skip | apply Rm.skipS | (focus (apply Take.all; (repeat (first | exact Rm.chunk | exact Rm.here | exact Rm.nil0 | apply Rm.skip | apply Rm.skipS)); done)) | apply Take.cons)) (by repeat (first | exact Leave.done | apply Leave.drop | apply Leave.dropS)) hJ2 ?_
              exact ⟨by rw [decS_none (fun h => (of_decide_eq_true hq) h.2.2)]; rfl, rfl⟩
            · have hq : (decide (¬ enc (decF bs) = bs)) = false := by simpa using hq
              rw [hq]
              refine WD.val (i := 8) rfl rfl rfl rfl (by kernel_rfl) rfl (Yld.pickF rfl rfl rfl) ?_
              refine WD.done (by kernel_rfl) ?_
              refine WP.sub [(0, _), (2, _), (3, _), (4, _), (5, _), (8, _), (32, _)] ?_ ⟨rfl, rfl, rfl, rfl, rfl, rfl, rfl, trivial⟩
              refine WP.next ?_
              refine WP.condF rfl ?_
              refine WP.skip ?_
              refine WP.next ?_
              refine WP.seq ?_
              refine WP.region [0, 1, 2] rfl ?_
              refine WP.val rfl rfl rfl rfl (Yld.loadAll rfl ty_ag_23 rfl (by repeat (first | exact There.h | exact There.i (by assumption) | apply There.t | apply There.s)) rfl) ?_
              refine WP.loud rfl rfl ?_
              refine Op.storeAll rfl rfl ty_sz_23 rfl rfl rfl rfl (by repeat (first | exact Upd.head | apply Upd.tail | apply Upd.tailS)) rfl ?_
              refine WP.val rfl rfl rfl rfl (Yld.assign rfl rfl) ?_
              refine WP.nil ?_
              refine WP.sub [(0, _), (2, _), (3, _), (4, _), (5, _), (8, _), (32, _)] ?_ ⟨rfl, rfl, rfl, rfl, rfl, rfl, rfl, trivial⟩
              refine WP.next ?_
              refine WP.ret ?_
              refine WP.fin .ret (.inr rfl) (resT (rs := [.cell 2 23, .tmp 3]) (vs := [_, _]) rfl ⟨⟨_, _, _, _, rfl, (by repeat (first | exact There.h | exact There.i (by assumption) | apply There.t | apply There.s)), .inl ⟨ty_ag_23, by rfl, rfl⟩⟩, rfl, trivial⟩ rfl) [] (by repeat (first | exact Take.nil | with_reducible apply Take.cons | apply Take.app | exact Rm.chunk | exact Rm.here | exact Rm.nil0 | apply Rm.skip | apply Rm.skipS | (focus (apply Take.all; (repeat (first | exact Rm.chunk | exact Rm.here | exact Rm.nil0 | apply Rm.skip | apply Rm.skipS)); done)) | apply Take.cons)) (by repeat (first | exact Leave.done | apply Leave.drop | apply Leave.dropS)) hJ2 ?_
              exact ⟨by rw [decS_some ⟨hl, hbm.1 hm, Decidable.not_not.1 (of_decide_eq_false hq)⟩]; rfl, rfl⟩
          · have hm : bm = false := by simpa using hm
            rw [hm]
            refine WD.val (i := 2) rfl rfl rfl rfl (by kernel_rfl) rfl (Yld.not rfl rfl) ?_
            refine WD.val (i := 3) rfl rfl rfl rfl (by kernel_rfl) rfl (Yld.move rfl rfl) ?_
            refine WD.passG (i := 4) rfl rfl rfl rfl rfl rfl rfl rfl (by kernel_rfl) rfl ?_
            refine WD.passG (i := 5) rfl rfl rfl rfl rfl rfl rfl rfl (by kernel_rfl) rfl ?_
            refine WD.passG (i := 6) rfl rfl rfl rfl rfl rfl rfl rfl (by kernel_rfl) rfl ?_
            refine WD.passG (i := 7) rfl rfl rfl rfl rfl rfl rfl rfl (by kernel_rfl) rfl ?_
            refine WD.val (i := 8) rfl rfl rfl rfl (by kernel_rfl) rfl (Yld.pickT rfl rfl rfl) ?_
            refine WD.done (by kernel_rfl) ?_
            refine WP.sub [(0, _), (2, _), (3, _), (4, _), (5, _), (8, _), (32, _)] ?_ ⟨rfl, rfl, rfl, rfl, rfl, rfl, rfl, trivial⟩
            refine WP.next ?_
            refine WP.condT rfl ?_
            refine WP.seq ?_
            refine WP.region [0, 1, 2] rfl ?_
            refine WP.val rfl rfl rfl rfl (Yld.buildS (pl := []) rfl ty_zr_23 ty_zd_23 (by kernel_rfl) rfl (vs := []) rfl (segs := []) rfl rfl (by repeat (first | exact SetSeg.nil | apply SetSeg.one | exact SetAt.zero | apply SetAt.succ))) ?_
            refine WP.loud rfl rfl ?_
            refine Op.storeAll rfl rfl ty_sz_23 rfl rfl rfl rfl (by repeat (first | exact Upd.head | apply Upd.tail | apply Upd.tailS)) rfl ?_
            refine WP.val rfl rfl rfl rfl (Yld.assign rfl rfl) ?_
            refine WP.nil ?_
            refine WP.sub [(0, _), (2, _), (3, _), (4, _), (5, _), (8, _), (32, _)] ?_ ⟨rfl, rfl, rfl, rfl, rfl, rfl, rfl, trivial⟩
            refine WP.next ?_
            refine WP.ret ?_
            refine WP.fin .ret (.inr rfl) (resT (rs := [.cell 2 23, .tmp 3]) (vs := [_, _]) rfl ⟨⟨_, _, _, _, rfl, (by repeat (first | exact There.h | exact There.i (by assumption) | apply There.t | apply There.s)), .inl ⟨ty_ag_23, by rfl, rfl⟩⟩, rfl, trivial⟩ rfl) [] (by repeat (first | exact Take.nil | with_reducible apply Take.cons | apply Take.app | exact Rm.chunk | exact Rm.here | exact Rm.nil0 | apply Rm.skip | apply Rm.skipS | (focus (apply Take.all; (repeat (first | exact Rm.chunk | exact Rm.here | exact Rm.nil0 | apply Rm.skip | apply Rm.skipS)); done)) | apply Take.cons)) (by repeat (first | exact Leave.done | apply Leave.drop | apply Leave.dropS)) (Imm.le_refl _) ?_
            exact ⟨by rw [decS_none (fun h => (by have := hbm.2 h.2.1; rw [hm] at this; cases this))]; rfl, rfl⟩
      · refine WP.oper rfl rfl ?_
        refine Op.alloc rfl rfl rfl ty_zr_23 (fun b5 => ?_)
        refine WD.go (.inr (fun _ _ h => h.elim)) (fun _ _ h => h.elim) ?_
        refine WD.loud (i := 3) (by kernel_rfl) rfl rfl rfl ?_
        refine Op.call (super_numSub (l := 6) (h := 12) (N := 64) (by decide) (by decide) (by decide) hl) rfl Try.func34 rfl rfl rfl rfl (by repeat (first | exact Take.nil | with_reducible apply Take.cons | apply Take.app | exact Rm.chunk | exact Rm.here | exact Rm.nil0 | apply Rm.skip | apply Rm.skipS | (focus (apply Take.all; (repeat (first | exact Rm.chunk | exact Rm.here | exact Rm.nil0 | apply Rm.skip | apply Rm.skipS)); done)) | apply Take.cons)) ?_
        rintro v J L1 hJ ⟨rfl, rfl, rfl⟩
        clear hJ; try simp only [List.cons_append, List.nil_append, List.append_assoc]
        refine WD.go (.inr (fun _ _ h => h.elim)) (fun _ _ h => h.elim) ?_
        refine WD.loud (i := 5) (by kernel_rfl) rfl rfl rfl ?_
        refine Op.call (super_numSub (l := 12) (h := 17) (N := 64) (by decide) (by decide) (by decide) hl) rfl Try.func34 rfl rfl rfl rfl (by repeat (first | exact Take.nil | with_reducible apply Take.cons | apply Take.app | exact Rm.chunk | exact Rm.here | exact Rm.nil0 | apply Rm.skip | apply Rm.skipS | (focus (apply Take.all; (repeat (first | exact Rm.chunk | exact Rm.here | exact Rm.nil0 | apply Rm.skip | apply Rm.skipS)); done)) | apply Take.cons)) ?_
        rintro v J L1 hJ ⟨rfl, rfl, rfl⟩
        clear hJ; try simp only [List.cons_append, List.nil_append, List.append_assoc]
        refine WD.go (.inr (fun _ _ h => h.elim)) (fun _ _ h => h.elim) ?_
        refine WD.loud (i := 7) (by kernel_rfl) rfl rfl rfl ?_
        refine Op.call (super_numSub (l := 17) (h := 21) (N := 64) (by decide) (by decide) (by decide) hl) rfl Try.func34 rfl rfl rfl rfl (by repeat (first | exact Take.nil | with_reducible apply Take.cons | apply Take.app | exact Rm.chunk | exact Rm.here | exact Rm.nil0 | apply Rm.skip | apply Rm.skipS | (focus (apply Take.all; (repeat (first | exact Rm.chunk | exact Rm.here | exact Rm.nil0 | apply Rm.skip | apply Rm.skipS)); done)) | apply Take.cons)) ?_
        rintro v J L1 hJ ⟨rfl, rfl, rfl⟩
        clear hJ; try simp only [List.cons_append, List.nil_append, List.append_assoc]
        refine WD.go (.inr (fun _ _ h => h.elim)) (fun _ _ h => h.elim) ?_
        refine WD.loud (i := 9) (by kernel_rfl) rfl rfl rfl ?_
        refine Op.call (super_numSub (l := 21) (h := 27) (N := 64) (by decide) (by decide) (by decide) hl) rfl Try.func34 rfl rfl rfl rfl (by repeat (first | exact Take.nil | with_reducible apply Take.cons | apply Take.app | exact Rm.chunk | exact Rm.here | exact Rm.nil0 | apply Rm.skip | apply Rm.skipS | (focus (apply Take.all; (repeat (first | exact Rm.chunk | exact Rm.here | exact Rm.nil0 | apply Rm.skip | apply Rm.skipS)); done)) | apply Take.cons)) ?_
        rintro v J L1 hJ ⟨rfl, rfl, rfl⟩
        clear hJ; try simp only [List.cons_append, List.nil_append, List.append_assoc]
        refine WD.go (.inr (fun _ _ h => h.elim)) (fun _ _ h => h.elim) ?_
        refine WD.val (i := 10) rfl rfl rfl rfl (by kernel_rfl) rfl (Yld.buildS (pl := [(0, 0, 1), (1, 1, 1), (2, 2, 1), (3, 3, 1), (4, 4, 1)]) rfl ty_zr_23 ty_zd_23 (by kernel_rfl) rfl (vs := [_, _, _, _, _]) rfl (segs := [(0, [_]), (1, [_]), (2, [_]), (3, [_]), (4, [_])]) rfl rfl (by repeat (first | exact SetSeg.nil | apply SetSeg.one | exact SetAt.zero | apply SetAt.succ))) ?_
        refine WD.loud (i := 12) (by kernel_rfl) rfl rfl rfl ?_
        refine Op.storeAll rfl rfl ty_sz_23 rfl rfl rfl rfl (by repeat (first | exact Upd.head | apply Upd.tail | apply Upd.tailS)) rfl ?_
        refine WD.go (.inl rfl) (fun _ _ h => h.elim) ?_
        refine WD.done (by kernel_rfl) ?_
        refine WP.sub [(0, _), (2, _), (3, _), (4, _), (5, _), (8, _)] ?_ ⟨rfl, rfl, rfl, rfl, rfl, rfl, trivial⟩
        refine WP.next ?_
        refine WP.seq ?_
        refine WP.seq ?_
        refine WD.start Trymixed 9 (fun _ _ => False) (fun b o => (b = b4 ∧ o = row 61 (bytesV bs)) ∨ (b = b5 ∧ o = row 23 (spV (decF bs)))) (fun _ _ h => h.elim) (by rintro _ _ (⟨rfl, rfl⟩ | ⟨rfl, rfl⟩) <;> exact (by repeat (first | exact There.h | exact There.i (by assumption) | apply There.t | apply There.s))) 9 [false, false, false, false, false, false, false, false, false] rfl rfl ?_
        refine WD.val (i := 0) rfl rfl rfl rfl (by kernel_rfl) rfl (Yld.loadAll rfl ty_ag_23 rfl (.inr ⟨rfl, rfl⟩) rfl) ?_
        refine WD.loud (i := 1) (by kernel_rfl) rfl rfl rfl ?_
        refine Op.call (super_may (s := decF bs)) rfl Try.func30 rfl rfl rfl rfl (by repeat (first | exact Take.nil | with_reducible apply Take.cons | apply Take.app | exact Rm.chunk | exact Rm.here | exact Rm.nil0 | apply Rm.skip | apply Rm.skipS | (focus (apply Take.all; (repeat (first | exact Rm.chunk | exact Rm.here | exact Rm.nil0 | apply Rm.skip | apply Rm.skipS)); done)) | apply Take.cons)) ?_
        rintro v J L1 hJ ⟨bm, rfl, hbm, rfl, rfl⟩
        clear hJ; try simp only [List.cons_append, List.nil_append, List.append_assoc]
        refine WD.go (.inr (fun _ _ h => h.elim)) (by rintro _ _ (⟨rfl, rfl⟩ | ⟨rfl, rfl⟩) <;> exact (by repeat (first | exact There.h | exact There.i (by assumption) | apply There.t | apply There.s))) ?_
        by_cases hm : bm = true
        · rw [hm]
          refine WD.val (i := 2) rfl rfl rfl rfl (by kernel_rfl) rfl (Yld.not rfl rfl) ?_
          refine WD.val (i := 3) rfl rfl rfl rfl (by kernel_rfl) rfl (Yld.move rfl rfl) ?_
          refine WD.valG (i := 4) rfl rfl rfl rfl rfl rfl rfl (by kernel_rfl) rfl (Yld.loadAll rfl ty_ag_23 rfl (.inr ⟨rfl, rfl⟩) rfl) ?_
          refine WD.valG (i := 6) rfl rfl rfl rfl rfl rfl rfl (by kernel_rfl) rfl (Yld.loadAll rfl ty_ag_61 rfl (.inl ⟨rfl, rfl⟩) (by rw [bytesV_len]; exact hl)) ?_
          refine WD.loudG (i := 5) (by kernel_rfl) rfl rfl rfl rfl rfl rfl ?_
          refine Op.call (super_laid (s := decF bs) (hbm.1 hm)) rfl Try.func31 rfl rfl rfl rfl (by repeat (first | exact Take.nil | with_reducible apply Take.cons | apply Take.app | exact Rm.chunk | exact Rm.here | exact Rm.nil0 | apply Rm.skip | apply Rm.skipS | (focus (apply Take.all; (repeat (first | exact Rm.chunk | exact Rm.here | exact Rm.nil0 | apply Rm.skip | apply Rm.skipS)); done)) | apply Take.cons)) ?_
          rintro v J2 L1 hJ2 ⟨rfl, rfl⟩
          try simp only [List.cons_append, List.nil_append, List.append_assoc]
          refine WD.go (.inr (fun _ _ h => h.elim)) (by rintro _ _ (⟨rfl, rfl⟩ | ⟨rfl, rfl⟩) <;> exact (by repeat (first | exact There.h | exact There.i (by assumption) | apply There.t | apply There.s))) ?_
          refine WD.valG (i := 7) rfl rfl rfl rfl rfl rfl rfl (by kernel_rfl) rfl (Yld.neqBytes (a := enc (decF bs)) (b := bs) rfl form_eq rfl rfl (enc_len _) hl) ?_
          by_cases hq : (decide (¬ enc (decF bs) = bs)) = true
          · rw [hq]
            refine WD.val (i := 8) rfl rfl rfl rfl (by kernel_rfl) rfl (Yld.pickF rfl rfl rfl) ?_
            refine WD.done (by kernel_rfl) ?_
            refine WP.sub [(0, _), (2, _), (3, _), (4, _), (5, _), (8, _), (32, _)] ?_ ⟨rfl, rfl, rfl, rfl, rfl, rfl, rfl, trivial⟩
            refine WP.next ?_
            refine WP.condT rfl ?_
            refine WP.seq ?_
            refine WP.region [0, 1, 2] rfl ?_
            refine WP.val rfl rfl rfl rfl (Yld.buildS (pl := []) rfl ty_zr_23 ty_zd_23 (by kernel_rfl) rfl (vs := []) rfl (segs := []) rfl rfl (by repeat (first | exact SetSeg.nil | apply SetSeg.one | exact SetAt.zero | apply SetAt.succ))) ?_
            refine WP.loud rfl rfl ?_
            refine Op.storeAll rfl rfl ty_sz_23 rfl rfl rfl rfl (by repeat (first | exact Upd.head | apply Upd.tail | apply Upd.tailS)) rfl ?_
            refine WP.val rfl rfl rfl rfl (Yld.assign rfl rfl) ?_
            refine WP.nil ?_
            refine WP.sub [(0, _), (2, _), (3, _), (4, _), (5, _), (8, _), (32, _)] ?_ ⟨rfl, rfl, rfl, rfl, rfl, rfl, rfl, trivial⟩
            refine WP.next ?_
            refine WP.ret ?_
            refine WP.fin .ret (.inr rfl) (resT (rs := [.cell 2 23, .tmp 3]) (vs := [_, _]) rfl ⟨⟨_, _, _, _, rfl, (by repeat (first | exact There.h | exact There.i (by assumption) | apply There.t | apply There.s)), .inl ⟨ty_ag_23, by rfl, rfl⟩⟩, rfl, trivial⟩ rfl) [] (by repeat (first | exact Take.nil | with_reducible apply Take.cons | apply Take.app | exact Rm.chunk | exact Rm.here | exact Rm.nil0 | apply Rm.skip | apply Rm.skipS | (focus (apply Take.all; (repeat (first | exact Rm.chunk | exact Rm.here | exact Rm.nil0 | apply Rm.skip | apply Rm.skipS)); done)) | apply Take.cons)) (by repeat (first | exact Leave.done | apply Leave.drop | apply Leave.dropS)) hJ2 ?_
            exact ⟨by rw [decS_none (fun h => (of_decide_eq_true hq) h.2.2)]; rfl, rfl⟩
          · have hq : (decide (¬ enc (decF bs) = bs)) = false := by simpa using hq
            rw [hq]
            refine WD.val (i := 8) rfl rfl rfl rfl (by kernel_rfl) rfl (Yld.pickF rfl rfl rfl) ?_
            refine WD.done (by kernel_rfl) ?_
            refine WP.sub [(0, _), (2, _), (3, _), (4, _), (5, _), (8, _), (32, _)] ?_ ⟨rfl, rfl, rfl, rfl, rfl, rfl, rfl, trivial⟩
            refine WP.next ?_
            refine WP.condF rfl ?_
            refine WP.skip ?_
            refine WP.next ?_
            refine WP.seq ?_
            refine WP.region [0, 1, 2] rfl ?_
            refine WP.val rfl rfl rfl rfl (Yld.loadAll rfl ty_ag_23 rfl (by repeat (first | exact There.h | exact There.i (by assumption) | apply There.t | apply There.s)) rfl) ?_
            refine WP.loud rfl rfl ?_
            refine Op.storeAll rfl rfl ty_sz_23 rfl rfl rfl rfl (by repeat (first | exact Upd.head | apply Upd.tail | apply Upd.tailS)) rfl ?_
            refine WP.val rfl rfl rfl rfl (Yld.assign rfl rfl) ?_
            refine WP.nil ?_
            refine WP.sub [(0, _), (2, _), (3, _), (4, _), (5, _), (8, _), (32, _)] ?_ ⟨rfl, rfl, rfl, rfl, rfl, rfl, rfl, trivial⟩
            refine WP.next ?_
            refine WP.ret ?_
            refine WP.fin .ret (.inr rfl) (resT (rs := [.cell 2 23, .tmp 3]) (vs := [_, _]) rfl ⟨⟨_, _, _, _, rfl, (by repeat (first | exact There.h | exact There.i (by assumption) | apply There.t | apply There.s)), .inl ⟨ty_ag_23, by rfl, rfl⟩⟩, rfl, trivial⟩ rfl) [] (by repeat (first | exact Take.nil | with_reducible apply Take.cons | apply Take.app | exact Rm.chunk | exact Rm.here | exact Rm.nil0 | apply Rm.skip | apply Rm.skipS | (focus (apply Take.all; (repeat (first | exact Rm.chunk | exact Rm.here | exact Rm.nil0 | apply Rm.skip | apply Rm.skipS)); done)) | apply Take.cons)) (by repeat (first | exact Leave.done | apply Leave.drop | apply Leave.dropS)) hJ2 ?_
            exact ⟨by rw [decS_some ⟨hl, hbm.1 hm, Decidable.not_not.1 (of_decide_eq_false hq)⟩]; rfl, rfl⟩
        · have hm : bm = false := by simpa using hm
          rw [hm]
          refine WD.val (i := 2) rfl rfl rfl rfl (by kernel_rfl) rfl (Yld.not rfl rfl) ?_
          refine WD.val (i := 3) rfl rfl rfl rfl (by kernel_rfl) rfl (Yld.move rfl rfl) ?_
          refine WD.passG (i := 4) rfl rfl rfl rfl rfl rfl rfl rfl (by kernel_rfl) rfl ?_
          refine WD.passG (i := 5) rfl rfl rfl rfl rfl rfl rfl rfl (by kernel_rfl) rfl ?_
          refine WD.passG (i := 6) rfl rfl rfl rfl rfl rfl rfl rfl (by kernel_rfl) rfl ?_
          refine WD.passG (i := 7) rfl rfl rfl rfl rfl rfl rfl rfl (by kernel_rfl) rfl ?_
          refine WD.val (i := 8) rfl rfl rfl rfl (by kernel_rfl) rfl (Yld.pickT rfl rfl rfl) ?_
          refine WD.done (by kernel_rfl) ?_
          refine WP.sub [(0, _), (2, _), (3, _), (4, _), (5, _), (8, _), (32, _)] ?_ ⟨rfl, rfl, rfl, rfl, rfl, rfl, rfl, trivial⟩
          refine WP.next ?_
          refine WP.condT rfl ?_
          refine WP.seq ?_
          refine WP.region [0, 1, 2] rfl ?_
          refine WP.val rfl rfl rfl rfl (Yld.buildS (pl := []) rfl ty_zr_23 ty_zd_23 (by kernel_rfl) rfl (vs := []) rfl (segs := []) rfl rfl (by repeat (first | exact SetSeg.nil | apply SetSeg.one | exact SetAt.zero | apply SetAt.succ))) ?_
          refine WP.loud rfl rfl ?_
          refine Op.storeAll rfl rfl ty_sz_23 rfl rfl rfl rfl (by repeat (first | exact Upd.head | apply Upd.tail | apply Upd.tailS)) rfl ?_
          refine WP.val rfl rfl rfl rfl (Yld.assign rfl rfl) ?_
          refine WP.nil ?_
          refine WP.sub [(0, _), (2, _), (3, _), (4, _), (5, _), (8, _), (32, _)] ?_ ⟨rfl, rfl, rfl, rfl, rfl, rfl, rfl, trivial⟩
          refine WP.next ?_
          refine WP.ret ?_
          refine WP.fin .ret (.inr rfl) (resT (rs := [.cell 2 23, .tmp 3]) (vs := [_, _]) rfl ⟨⟨_, _, _, _, rfl, (by repeat (first | exact There.h | exact There.i (by assumption) | apply There.t | apply There.s)), .inl ⟨ty_ag_23, by rfl, rfl⟩⟩, rfl, trivial⟩ rfl) [] (by repeat (first | exact Take.nil | with_reducible apply Take.cons | apply Take.app | exact Rm.chunk | exact Rm.here | exact Rm.nil0 | apply Rm.skip | apply Rm.skipS | (focus (apply Take.all; (repeat (first | exact Rm.chunk | exact Rm.here | exact Rm.nil0 | apply Rm.skip | apply Rm.skipS)); done)) | apply Take.cons)) (by repeat (first | exact Leave.done | apply Leave.drop | apply Leave.dropS)) (Imm.le_refl _) ?_
          exact ⟨by rw [decS_none (fun h => (by have := hbm.2 h.2.1; rw [hm] at this; cases this))]; rfl, rfl⟩
    · refine WP.oper rfl rfl ?_
      refine Op.alloc rfl rfl rfl ty_zr_23 (fun b5 => ?_)
      refine WD.go (.inr (fun _ _ h => h.elim)) (fun _ _ h => h.elim) ?_
      refine WD.loud (i := 1) (by kernel_rfl) rfl rfl rfl ?_
      refine Op.call (super_numSub (l := 2) (h := 6) (N := 64) (by decide) (by decide) (by decide) hl) rfl Try.func34 rfl rfl rfl rfl (by repeat (first | exact Take.nil | with_reducible apply Take.cons | apply Take.app | exact Rm.chunk | exact Rm.here | exact Rm.nil0 | apply Rm.skip | apply Rm.skipS | (focus (apply Take.all; (repeat (first | exact Rm.chunk | exact Rm.here | exact Rm.nil0 | apply Rm.skip | apply Rm.skipS)); done)) | apply Take.cons)) ?_
      rintro v J L1 hJ ⟨rfl, rfl, rfl⟩
      clear hJ; try simp only [List.cons_append, List.nil_append, List.append_assoc]
      refine WD.go (.inr (fun _ _ h => h.elim)) (fun _ _ h => h.elim) ?_
      refine WD.loud (i := 3) (by kernel_rfl) rfl rfl rfl ?_
      refine Op.call (super_numSub (l := 6) (h := 12) (N := 64) (by decide) (by decide) (by decide) hl) rfl Try.func34 rfl rfl rfl rfl (by repeat (first | exact Take.nil | with_reducible apply Take.cons | apply Take.app | exact Rm.chunk | exact Rm.here | exact Rm.nil0 | apply Rm.skip | apply Rm.skipS | (focus (apply Take.all; (repeat (first | exact Rm.chunk | exact Rm.here | exact Rm.nil0 | apply Rm.skip | apply Rm.skipS)); done)) | apply Take.cons)) ?_
      rintro v J L1 hJ ⟨rfl, rfl, rfl⟩
      clear hJ; try simp only [List.cons_append, List.nil_append, List.append_assoc]
      refine WD.go (.inr (fun _ _ h => h.elim)) (fun _ _ h => h.elim) ?_
      refine WD.loud (i := 5) (by kernel_rfl) rfl rfl rfl ?_
      refine Op.call (super_numSub (l := 12) (h := 17) (N := 64) (by decide) (by decide) (by decide) hl) rfl Try.func34 rfl rfl rfl rfl (by repeat (first | exact Take.nil | with_reducible apply Take.cons | apply Take.app | exact Rm.chunk | exact Rm.here | exact Rm.nil0 | apply Rm.skip | apply Rm.skipS | (focus (apply Take.all; (repeat (first | exact Rm.chunk | exact Rm.here | exact Rm.nil0 | apply Rm.skip | apply Rm.skipS)); done)) | apply Take.cons)) ?_
      rintro v J L1 hJ ⟨rfl, rfl, rfl⟩
      clear hJ; try simp only [List.cons_append, List.nil_append, List.append_assoc]
      refine WD.go (.inr (fun _ _ h => h.elim)) (fun _ _ h => h.elim) ?_
      refine WD.loud (i := 7) (by kernel_rfl) rfl rfl rfl ?_
      refine Op.call (super_numSub (l := 17) (h := 21) (N := 64) (by decide) (by decide) (by decide) hl) rfl Try.func34 rfl rfl rfl rfl (by repeat (first | exact Take.nil | with_reducible apply Take.cons | apply Take.app | exact Rm.chunk | exact Rm.here | exact Rm.nil0 | apply Rm.skip | apply Rm.skipS | (focus (apply Take.all; (repeat (first | exact Rm.chunk | exact Rm.here | exact Rm.nil0 | apply Rm.skip | apply Rm.skipS)); done)) | apply Take.cons)) ?_
      rintro v J L1 hJ ⟨rfl, rfl, rfl⟩
      clear hJ; try simp only [List.cons_append, List.nil_append, List.append_assoc]
      refine WD.go (.inr (fun _ _ h => h.elim)) (fun _ _ h => h.elim) ?_
      refine WD.loud (i := 9) (by kernel_rfl) rfl rfl rfl ?_
      refine Op.call (super_numSub (l := 21) (h := 27) (N := 64) (by decide) (by decide) (by decide) hl) rfl Try.func34 rfl rfl rfl rfl (by repeat (first | exact Take.nil | with_reducible apply Take.cons | apply Take.app | exact Rm.chunk | exact Rm.here | exact Rm.nil0 | apply Rm.skip | apply Rm.skipS | (focus (apply Take.all; (repeat (first | exact Rm.chunk | exact Rm.here | exact Rm.nil0 | apply Rm.skip | apply Rm.skipS)); done)) | apply Take.cons)) ?_
      rintro v J L1 hJ ⟨rfl, rfl, rfl⟩
      clear hJ; try simp only [List.cons_append, List.nil_append, List.append_assoc]
      refine WD.go (.inr (fun _ _ h => h.elim)) (fun _ _ h => h.elim) ?_
      refine WD.val (i := 10) rfl rfl rfl rfl (by kernel_rfl) rfl (Yld.buildS (pl := [(0, 0, 1), (1, 1, 1), (2, 2, 1), (3, 3, 1), (4, 4, 1)]) rfl ty_zr_23 ty_zd_23 (by kernel_rfl) rfl (vs := [_, _, _, _, _]) rfl (segs := [(0, [_]), (1, [_]), (2, [_]), (3, [_]), (4, [_])]) rfl rfl (by repeat (first | exact SetSeg.nil | apply SetSeg.one | exact SetAt.zero | apply SetAt.succ))) ?_
      refine WD.loud (i := 12) (by kernel_rfl) rfl rfl rfl ?_
      refine Op.storeAll rfl rfl ty_sz_23 rfl rfl rfl rfl (by repeat (first | exact Upd.head | apply Upd.tail | apply Upd.tailS)) rfl ?_
      refine WD.go (.inl rfl) (fun _ _ h => h.elim) ?_
      refine WD.done (by kernel_rfl) ?_
      refine WP.sub [(0, _), (2, _), (3, _), (4, _), (5, _), (8, _)] ?_ ⟨rfl, rfl, rfl, rfl, rfl, rfl, trivial⟩
      refine WP.next ?_
      refine WP.seq ?_
      refine WP.seq ?_
      refine WD.start Trymixed 9 (fun _ _ => False) (fun b o => (b = b4 ∧ o = row 61 (bytesV bs)) ∨ (b = b5 ∧ o = row 23 (spV (decF bs)))) (fun _ _ h => h.elim) (by rintro _ _ (⟨rfl, rfl⟩ | ⟨rfl, rfl⟩) <;> exact (by repeat (first | exact There.h | exact There.i (by assumption) | apply There.t | apply There.s))) 9 [false, false, false, false, false, false, false, false, false] rfl rfl ?_
      refine WD.val (i := 0) rfl rfl rfl rfl (by kernel_rfl) rfl (Yld.loadAll rfl ty_ag_23 rfl (.inr ⟨rfl, rfl⟩) rfl) ?_
      refine WD.loud (i := 1) (by kernel_rfl) rfl rfl rfl ?_
      refine Op.call (super_may (s := decF bs)) rfl Try.func30 rfl rfl rfl rfl (by repeat (first | exact Take.nil | with_reducible apply Take.cons | apply Take.app | exact Rm.chunk | exact Rm.here | exact Rm.nil0 | apply Rm.skip | apply Rm.skipS | (focus (apply Take.all; (repeat (first | exact Rm.chunk | exact Rm.here | exact Rm.nil0 | apply Rm.skip | apply Rm.skipS)); done)) | apply Take.cons)) ?_
      rintro v J L1 hJ ⟨bm, rfl, hbm, rfl, rfl⟩
      clear hJ; try simp only [List.cons_append, List.nil_append, List.append_assoc]
      refine WD.go (.inr (fun _ _ h => h.elim)) (by rintro _ _ (⟨rfl, rfl⟩ | ⟨rfl, rfl⟩) <;> exact (by repeat (first | exact There.h | exact There.i (by assumption) | apply There.t | apply There.s))) ?_
      by_cases hm : bm = true
      · rw [hm]
        refine WD.val (i := 2) rfl rfl rfl rfl (by kernel_rfl) rfl (Yld.not rfl rfl) ?_
        refine WD.val (i := 3) rfl rfl rfl rfl (by kernel_rfl) rfl (Yld.move rfl rfl) ?_
        refine WD.valG (i := 4) rfl rfl rfl rfl rfl rfl rfl (by kernel_rfl) rfl (Yld.loadAll rfl ty_ag_23 rfl (.inr ⟨rfl, rfl⟩) rfl) ?_
        refine WD.valG (i := 6) rfl rfl rfl rfl rfl rfl rfl (by kernel_rfl) rfl (Yld.loadAll rfl ty_ag_61 rfl (.inl ⟨rfl, rfl⟩) (by rw [bytesV_len]; exact hl)) ?_
        refine WD.loudG (i := 5) (by kernel_rfl) rfl rfl rfl rfl rfl rfl ?_
        refine Op.call (super_laid (s := decF bs) (hbm.1 hm)) rfl Try.func31 rfl rfl rfl rfl (by repeat (first | exact Take.nil | with_reducible apply Take.cons | apply Take.app | exact Rm.chunk | exact Rm.here | exact Rm.nil0 | apply Rm.skip | apply Rm.skipS | (focus (apply Take.all; (repeat (first | exact Rm.chunk | exact Rm.here | exact Rm.nil0 | apply Rm.skip | apply Rm.skipS)); done)) | apply Take.cons)) ?_
        rintro v J2 L1 hJ2 ⟨rfl, rfl⟩
        try simp only [List.cons_append, List.nil_append, List.append_assoc]
        refine WD.go (.inr (fun _ _ h => h.elim)) (by rintro _ _ (⟨rfl, rfl⟩ | ⟨rfl, rfl⟩) <;> exact (by repeat (first | exact There.h | exact There.i (by assumption) | apply There.t | apply There.s))) ?_
        refine WD.valG (i := 7) rfl rfl rfl rfl rfl rfl rfl (by kernel_rfl) rfl (Yld.neqBytes (a := enc (decF bs)) (b := bs) rfl form_eq rfl rfl (enc_len _) hl) ?_
        by_cases hq : (decide (¬ enc (decF bs) = bs)) = true
        · rw [hq]
          refine WD.val (i := 8) rfl rfl rfl rfl (by kernel_rfl) rfl (Yld.pickF rfl rfl rfl) ?_
          refine WD.done (by kernel_rfl) ?_
          refine WP.sub [(0, _), (2, _), (3, _), (4, _), (5, _), (8, _), (32, _)] ?_ ⟨rfl, rfl, rfl, rfl, rfl, rfl, rfl, trivial⟩
          refine WP.next ?_
          refine WP.condT rfl ?_
          refine WP.seq ?_
          refine WP.region [0, 1, 2] rfl ?_
          refine WP.val rfl rfl rfl rfl (Yld.buildS (pl := []) rfl ty_zr_23 ty_zd_23 (by kernel_rfl) rfl (vs := []) rfl (segs := []) rfl rfl (by repeat (first | exact SetSeg.nil | apply SetSeg.one | exact SetAt.zero | apply SetAt.succ))) ?_
          refine WP.loud rfl rfl ?_
          refine Op.storeAll rfl rfl ty_sz_23 rfl rfl rfl rfl (by repeat (first | exact Upd.head | apply Upd.tail | apply Upd.tailS)) rfl ?_
          refine WP.val rfl rfl rfl rfl (Yld.assign rfl rfl) ?_
          refine WP.nil ?_
          refine WP.sub [(0, _), (2, _), (3, _), (4, _), (5, _), (8, _), (32, _)] ?_ ⟨rfl, rfl, rfl, rfl, rfl, rfl, rfl, trivial⟩
          refine WP.next ?_
          refine WP.ret ?_
          refine WP.fin .ret (.inr rfl) (resT (rs := [.cell 2 23, .tmp 3]) (vs := [_, _]) rfl ⟨⟨_, _, _, _, rfl, (by repeat (first | exact There.h | exact There.i (by assumption) | apply There.t | apply There.s)), .inl ⟨ty_ag_23, by rfl, rfl⟩⟩, rfl, trivial⟩ rfl) [] (by repeat (first | exact Take.nil | with_reducible apply Take.cons | apply Take.app | exact Rm.chunk | exact Rm.here | exact Rm.nil0 | apply Rm.skip | apply Rm.skipS | (focus (apply Take.all; (repeat (first | exact Rm.chunk | exact Rm.here | exact Rm.nil0 | apply Rm.skip | apply Rm.skipS)); done)) | apply Take.cons)) (by repeat (first | exact Leave.done | apply Leave.drop | apply Leave.dropS)) hJ2 ?_
          exact ⟨by rw [decS_none (fun h => (of_decide_eq_true hq) h.2.2)]; rfl, rfl⟩
        · have hq : (decide (¬ enc (decF bs) = bs)) = false := by simpa using hq
          rw [hq]
          refine WD.val (i := 8) rfl rfl rfl rfl (by kernel_rfl) rfl (Yld.pickF rfl rfl rfl) ?_
          refine WD.done (by kernel_rfl) ?_
          refine WP.sub [(0, _), (2, _), (3, _), (4, _), (5, _), (8, _), (32, _)] ?_ ⟨rfl, rfl, rfl, rfl, rfl, rfl, rfl, trivial⟩
          refine WP.next ?_
          refine WP.condF rfl ?_
          refine WP.skip ?_
          refine WP.next ?_
          refine WP.seq ?_
          refine WP.region [0, 1, 2] rfl ?_
          refine WP.val rfl rfl rfl rfl (Yld.loadAll rfl ty_ag_23 rfl (by repeat (first | exact There.h | exact There.i (by assumption) | apply There.t | apply There.s)) rfl) ?_
          refine WP.loud rfl rfl ?_
          refine Op.storeAll rfl rfl ty_sz_23 rfl rfl rfl rfl (by repeat (first | exact Upd.head | apply Upd.tail | apply Upd.tailS)) rfl ?_
          refine WP.val rfl rfl rfl rfl (Yld.assign rfl rfl) ?_
          refine WP.nil ?_
          refine WP.sub [(0, _), (2, _), (3, _), (4, _), (5, _), (8, _), (32, _)] ?_ ⟨rfl, rfl, rfl, rfl, rfl, rfl, rfl, trivial⟩
          refine WP.next ?_
          refine WP.ret ?_
          refine WP.fin .ret (.inr rfl) (resT (rs := [.cell 2 23, .tmp 3]) (vs := [_, _]) rfl ⟨⟨_, _, _, _, rfl, (by repeat (first | exact There.h | exact There.i (by assumption) | apply There.t | apply There.s)), .inl ⟨ty_ag_23, by rfl, rfl⟩⟩, rfl, trivial⟩ rfl) [] (by repeat (first | exact Take.nil | with_reducible apply Take.cons | apply Take.app | exact Rm.chunk | exact Rm.here | exact Rm.nil0 | apply Rm.skip | apply Rm.skipS | (focus (apply Take.all; (repeat (first | exact Rm.chunk | exact Rm.here | exact Rm.nil0 | apply Rm.skip | apply Rm.skipS)); done)) | apply Take.cons)) (by repeat (first | exact Leave.done | apply Leave.drop | apply Leave.dropS)) hJ2 ?_
          exact ⟨by rw [decS_some ⟨hl, hbm.1 hm, Decidable.not_not.1 (of_decide_eq_false hq)⟩]; rfl, rfl⟩
      · have hm : bm = false := by simpa using hm
        rw [hm]
        refine WD.val (i := 2) rfl rfl rfl rfl (by kernel_rfl) rfl (Yld.not rfl rfl) ?_
        refine WD.val (i := 3) rfl rfl rfl rfl (by kernel_rfl) rfl (Yld.move rfl rfl) ?_
        refine WD.passG (i := 4) rfl rfl rfl rfl rfl rfl rfl rfl (by kernel_rfl) rfl ?_
        refine WD.passG (i := 5) rfl rfl rfl rfl rfl rfl rfl rfl (by kernel_rfl) rfl ?_
        refine WD.passG (i := 6) rfl rfl rfl rfl rfl rfl rfl rfl (by kernel_rfl) rfl ?_
        refine WD.passG (i := 7) rfl rfl rfl rfl rfl rfl rfl rfl (by kernel_rfl) rfl ?_
        refine WD.val (i := 8) rfl rfl rfl rfl (by kernel_rfl) rfl (Yld.pickT rfl rfl rfl) ?_
        refine WD.done (by kernel_rfl) ?_
        refine WP.sub [(0, _), (2, _), (3, _), (4, _), (5, _), (8, _), (32, _)] ?_ ⟨rfl, rfl, rfl, rfl, rfl, rfl, rfl, trivial⟩
        refine WP.next ?_
        refine WP.condT rfl ?_
        refine WP.seq ?_
        refine WP.region [0, 1, 2] rfl ?_
        refine WP.val rfl rfl rfl rfl (Yld.buildS (pl := []) rfl ty_zr_23 ty_zd_23 (by kernel_rfl) rfl (vs := []) rfl (segs := []) rfl rfl (by repeat (first | exact SetSeg.nil | apply SetSeg.one | exact SetAt.zero | apply SetAt.succ))) ?_
        refine WP.loud rfl rfl ?_
        refine Op.storeAll rfl rfl ty_sz_23 rfl rfl rfl rfl (by repeat (first | exact Upd.head | apply Upd.tail | apply Upd.tailS)) rfl ?_
        refine WP.val rfl rfl rfl rfl (Yld.assign rfl rfl) ?_
        refine WP.nil ?_
        refine WP.sub [(0, _), (2, _), (3, _), (4, _), (5, _), (8, _), (32, _)] ?_ ⟨rfl, rfl, rfl, rfl, rfl, rfl, rfl, trivial⟩
        refine WP.next ?_
        refine WP.ret ?_
        refine WP.fin .ret (.inr rfl) (resT (rs := [.cell 2 23, .tmp 3]) (vs := [_, _]) rfl ⟨⟨_, _, _, _, rfl, (by repeat (first | exact There.h | exact There.i (by assumption) | apply There.t | apply There.s)), .inl ⟨ty_ag_23, by rfl, rfl⟩⟩, rfl, trivial⟩ rfl) [] (by repeat (first | exact Take.nil | with_reducible apply Take.cons | apply Take.app | exact Rm.chunk | exact Rm.here | exact Rm.nil0 | apply Rm.skip | apply Rm.skipS | (focus (apply Take.all; (repeat (first | exact Rm.chunk | exact Rm.here | exact Rm.nil0 | apply Rm.skip | apply Rm.skipS)); done)) | apply Take.cons)) (by repeat (first | exact Leave.done | apply Leave.drop | apply Leave.dropS)) (Imm.le_refl _) ?_
        exact ⟨by rw [decS_none (fun h => (by have := hbm.2 h.2.1; rw [hm] at this; cases this))]; rfl, rfl⟩


end Go.Hp
