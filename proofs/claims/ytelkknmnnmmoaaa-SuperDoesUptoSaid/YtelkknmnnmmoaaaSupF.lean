import Derived.Test.YtelkknmnnmmoaaaSupE
set_option linter.unusedVariables false
set_option linter.unusedSimpArgs false
namespace Go.Hp
open Go Go.Proofs

def upS (best : Sp) (o : Option Sp) : Sp := match o with
  | some s => if best.no < s.no then s else best
  | none => best
/-- What Read knows behind so many sectors. -/
def rdS (x : Dk) (n : Nat) : Nat → Sp × Bool
  | 0 => (spZ, true)
  | i + 1 => (upS (rdS x n i).1 (decS (x.read n (4 * (i : Int)) 1).1), (rdS x n i).2 && decide ((BitVec.ofNat 64 (leN (((x.read n (4 * (i : Int)) 1).1).drop 56))).toInt = 0))
def supR (x : Dk) (n : Nat) : Sp × Int :=
  if (x.read n 0 1).2 ≠ 0 then (spZ, (x.read n 0 1).2) else if (x.read n 4 1).2 ≠ 0 then (spZ, (x.read n 4 1).2)
  else if (rdS x n 2).1.ints = spZ.ints ∧ (rdS x n 2).2 = false then (spZ, 160) else ((rdS x n 2).1, 0)
theorem read_64 {x : Dk} {n : Nat} (h : x.ok n) {i : Nat} (h0 : (x.read n (4 * (i : Int)) 1).2 = 0) : (x.read n (4 * (i : Int)) 1).1.length = 64 := by
  unfold Dk.read at h0 ⊢
  split at h0
  · simp at h0
  · split at h0
    · simp at h0
    · rename_i h1 h2
      rw [if_neg h1, if_neg h2]
      have := h.ln
      simp only [List.length_take, List.length_drop]
      omega
theorem upS_take {b : Sp} {o : Option Sp} (h1 : (if o.isSome = true then (0 : Int) else 160) = 0) (h2 : b.no < (o.getD spZ).no) : o.getD spZ = upS b o := by
  cases o with
  | none => exact absurd h1 (by decide)
  | some s => simp only [upS, Option.getD_some] at *; rw [if_pos h2]
theorem upS_keep {b : Sp} {o : Option Sp} (h1 : (if o.isSome = true then (0 : Int) else 160) = 0) (h2 : ¬ b.no < (o.getD spZ).no) : b = upS b o := by
  cases o with
  | none => rfl
  | some s => simp only [upS, Option.getD_some] at *; rw [if_neg h2]
theorem upS_none {b : Sp} {o : Option Sp} (h1 : ¬ (if o.isSome = true then (0 : Int) else 160) = 0) : b = upS b o := by
  cases o with
  | none => rfl
  | some s => exact absurd rfl h1
theorem disk_ok {d n : Nat} {x : Dk} {L : Chunks} (h : IsDisk d n x L) : x.ok n := by cases h with | mk ok ow => exact ok
theorem supR_err {x : Dk} {n i : Nat} (hi : i < 2) (hall : ∀ j, j < i → (x.read n (4 * (j : Int)) 1).2 = 0) (he : (x.read n (4 * (i : Int)) 1).2 ≠ 0) : supR x n = (spZ, (x.read n (4 * (i : Int)) 1).2) := by
  unfold supR
  match i, hi with
  | 0, _ => rw [if_pos (by simpa using he)]; simp
  | 1, _ =>
    have h0 := hall 0 (by omega)
    rw [if_neg (by simpa using h0), if_pos (by simpa using he)]; simp
theorem super_Read {I : Imm} {d n : Nat} {x : Dk} {L : Chunks} (hd : IsDisk d n x L) : Spec Try.prog 18 [.pointer (some ⟨d, 0, none⟩)] I L (fun v J L' => v = .tuple #[.agg (spV (supR x n).1).toArray, .int .i64 (supR x n).2] ∧ L' = L) := by
  refine Spec.of Try.func18 rfl Try.ntmps18 (Nat.le_of_ble_eq_true rfl) (fun F => ?_)
  try simp only [List.cons_append, List.nil_append, List.append_assoc]
  dsimp only [argsEnv]
  refine WP.seq ?_
  refine WP.region [0, 1] rfl ?_
  refine WP.loud rfl rfl ?_
  refine Op.alloc rfl rfl rfl ty_zr_23 (fun b2 => ?_)
  refine WP.val rfl rfl rfl rfl (Yld.assign rfl rfl) ?_
  refine WP.nil ?_
  refine WP.next ?_
  refine WP.seq ?_
  refine WP.region [0] rfl ?_
  refine WP.loud rfl rfl ?_
  refine Op.alloc rfl rfl rfl ty_zr_23 (fun b4 => ?_)
  refine WP.nil ?_
  refine WP.next ?_
  refine WP.seq ?_
  refine WP.region [0] rfl ?_
  refine WP.val rfl rfl rfl rfl (Yld.assign rfl rfl) ?_
  refine WP.nil ?_
  refine WP.next ?_
  refine WP.seq ?_
  refine WP.seq ?_
  refine WP.region [0, 1, 2] rfl ?_
  refine WP.loud rfl rfl ?_
  refine Op.buildSlice rfl ty_sl_74 ty_el2_74 rfl rfl rfl rfl (vs := [_, _]) rfl (segs := [(0, [_]), (1, [_])]) (cs := [_, _]) rfl rfl (by repeat (first | exact SetSeg.nil | apply SetSeg.one | exact SetAt.zero | apply SetAt.succ)) (fun bl => ?_)
  refine WP.val rfl rfl rfl rfl (Yld.len rfl ty_sl_74 rfl) ?_
  refine WP.val rfl rfl rfl rfl (Yld.move rfl rfl) ?_
  refine WP.nil ?_
  refine WP.next ?_
  refine WP.block ?_
  refine WP.loop (X := Nat × Imm) (fun u : Nat × Imm => [(0, .pointer (some ⟨d, 0, none⟩)), (2, .pointer (some ⟨b2, 0, none⟩)), (3, .int .i64 0), (4, .pointer (some ⟨b4, 0, none⟩)), (5, .bool (rdS x n u.1).2), (12, .slice (some ⟨bl, 0, none⟩) 2 2), (13, .int .i64 2), (14, .int .i64 (u.1 : Int))]) (fun u => u.2) (fun u : Nat × Imm => (b2, row 23 (spV spZ)) :: ((b4, row 23 (spV (rdS x n u.1).1)) :: ((bl, row 3 [.int .i64 0, .int .i64 4]) :: (L ++ F)))) (fun u : Nat × Imm => u.1 ≤ 2 ∧ I.le u.2 ∧ ∀ j, j < u.1 → (x.read n (4 * (j : Int)) 1).2 = 0) (fun u : Nat × Imm => 2 - u.1) (0, I) ⟨Nat.zero_le _, Imm.le_refl _, fun j h => absurd h (Nat.not_lt_zero _)⟩ ⟨rfl, rfl, rfl, rfl, rfl, rfl, rfl, rfl, trivial⟩ rfl (by (try dsimp only); repeat (first | exact Rm.chunk | exact Rm.here | exact Rm.nil0 | apply Rm.skip | apply Rm.skipS | apply PX.cons | (apply PX.done; (repeat (first | exact Leave.done | apply Leave.drop | apply Leave.dropS)); done) | apply PX.app)) ?_
  rintro ⟨i, J1⟩ ⟨hi2, hle, hall⟩; dsimp only at hi2 hle hall
  try dsimp only
  try simp only [List.cons_append, List.nil_append, List.append_assoc]
  refine WP.seq ?_
  refine WP.region [0] rfl ?_
  refine WP.split rfl rfl rfl rfl (Yld.lss rfl rfl rfl) (fun hlt => ?_) (fun hlt => ?_)
  · have hi : i < 2 := by omega
    refine WP.nil ?_
    refine WP.next ?_
    refine WP.seq ?_
    refine WP.condT rfl ?_
    refine WP.skip ?_
    refine WP.next ?_
    refine WP.seq ?_
    refine WP.block ?_
    refine WP.seq ?_
    refine WP.region [0, 1, 2] rfl ?_
    refine WP.val rfl rfl rfl rfl (Yld.indexAddr (i := i) rfl ty_sl_74 rfl rfl hi) ?_
    refine WP.val rfl rfl rfl rfl (Yld.load (v := .int .i64 (4 * (i : Int))) rfl ty_sc_3 rfl (by repeat (first | exact There.h | exact There.i (by assumption) | apply There.t | apply There.s)) (by match i, hi with | 0, _ => rfl | 1, _ => rfl)) ?_
    refine WP.val rfl rfl rfl rfl (Yld.assign rfl rfl) ?_
    refine WP.nil ?_
    refine WP.sub [(0, _), (2, _), (3, _), (4, _), (5, _), (7, _), (12, _), (13, _), (14, _), (15, _)] ?_ ⟨rfl, rfl, rfl, rfl, rfl, rfl, rfl, rfl, rfl, rfl, trivial⟩
    refine WP.next ?_
    refine WP.seq ?_
    refine WP.region [0, 1, 2, 3, 4, 5, 6, 7] rfl ?_
    refine WP.val rfl rfl rfl rfl (Yld.move rfl rfl) ?_
    refine WP.val rfl rfl rfl rfl (Yld.move rfl rfl) ?_
    refine WP.loud rfl rfl ?_
    refine Op.call (disk_Read (at_ := 4 * (i : Int)) (many := 1) hd) rfl Try.func19 rfl rfl rfl rfl (by repeat (first | exact Take.nil | with_reducible apply Take.cons | apply Take.app | exact Rm.chunk | exact Rm.here | exact Rm.nil0 | apply Rm.skip | apply Rm.skipS | (focus (apply Take.all; (repeat (first | exact Rm.chunk | exact Rm.here | exact Rm.nil0 | apply Rm.skip | apply Rm.skipS)); done)) | apply Take.cons)) ?_
    rintro v J Lq hJ ⟨rfl, v7, Lo, rfl, ho, rfl⟩
    clear hJ; try simp only [List.cons_append, List.nil_append, List.append_assoc]
    refine WP.val rfl rfl rfl rfl (Yld.move rfl rfl) ?_
    refine WP.val rfl rfl rfl rfl (Yld.extract rfl rfl rfl) ?_
    refine WP.val rfl rfl rfl rfl (Yld.extract rfl rfl rfl) ?_
    refine WP.val rfl rfl rfl rfl (Yld.assign rfl rfl) ?_
    refine WP.val rfl rfl rfl rfl (Yld.assign rfl rfl) ?_
    refine WP.nil ?_
    refine WP.sub [(0, _), (2, _), (3, _), (4, _), (5, _), (7, _), (8, _), (9, _), (12, _), (13, _), (14, _), (15, _)] ?_ ⟨rfl, rfl, rfl, rfl, rfl, rfl, rfl, rfl, rfl, rfl, rfl, rfl, trivial⟩
    refine WP.next ?_
    refine WP.seq ?_
    refine WP.seq ?_
    refine WP.region [0, 1] rfl ?_
    refine WP.val rfl rfl rfl rfl (Yld.move rfl rfl) ?_
    refine WP.split rfl rfl rfl rfl (Yld.neq rfl rfl rfl) (fun he => ?_) (fun he => ?_)
    · refine WP.nil ?_
      refine WP.sub [(0, _), (2, _), (3, _), (4, _), (5, _), (7, _), (8, _), (9, _), (12, _), (13, _), (14, _), (15, _), (25, _)] ?_ ⟨rfl, rfl, rfl, rfl, rfl, rfl, rfl, rfl, rfl, rfl, rfl, rfl, rfl, trivial⟩
      refine WP.next ?_
      refine WP.condT rfl ?_
      refine WP.seq ?_
      refine WP.region [0, 1, 2, 3] rfl ?_
      refine WP.val rfl rfl rfl rfl (Yld.buildS (pl := []) rfl ty_zr_23 ty_zd_23 (by kernel_rfl) rfl (vs := []) rfl (segs := []) rfl rfl (by repeat (first | exact SetSeg.nil | apply SetSeg.one | exact SetAt.zero | apply SetAt.succ))) ?_
      refine WP.val rfl rfl rfl rfl (Yld.move rfl rfl) ?_
      refine WP.loud rfl rfl ?_
      refine Op.storeAll rfl rfl ty_sz_23 rfl rfl rfl rfl (by repeat (first | exact Upd.head | apply Upd.tail | apply Upd.tailS)) rfl ?_
      refine WP.val rfl rfl rfl rfl (Yld.assign rfl rfl) ?_
      refine WP.nil ?_
      refine WP.sub [(0, _), (2, _), (3, _), (4, _), (5, _), (7, _), (8, _), (9, _), (12, _), (13, _), (14, _), (15, _), (25, _)] ?_ ⟨rfl, rfl, rfl, rfl, rfl, rfl, rfl, rfl, rfl, rfl, rfl, rfl, rfl, trivial⟩
      refine WP.next ?_
      refine WP.ret ?_
      refine WP.fin .ret (.inr rfl) (resT (rs := [.cell 2 23, .tmp 3]) (vs := [_, _]) rfl ⟨⟨_, _, _, _, rfl, (by repeat (first | exact There.h | exact There.i (by assumption) | apply There.t | apply There.s)), .inl ⟨ty_ag_23, by rfl, rfl⟩⟩, rfl, trivial⟩ rfl) L (by repeat (first | exact Take.nil | with_reducible apply Take.cons | apply Take.app | exact Rm.chunk | exact Rm.here | exact Rm.nil0 | apply Rm.skip | apply Rm.skipS | (focus (apply Take.all; (repeat (first | exact Rm.chunk | exact Rm.here | exact Rm.nil0 | apply Rm.skip | apply Rm.skipS)); done)) | apply Take.cons)) (by repeat (first | exact Leave.done | apply Leave.drop | apply Leave.dropS)) hle ?_
      exact ⟨(by rw [supR_err hi hall he]; rfl), rfl⟩
    · have he0 : (x.read n (4 * (i : Int)) 1).2 = 0 := by omega
      have h64 := read_64 (disk_ok hd) he0
      refine WP.shareOwn ho (by repeat (first | exact Take.nil | with_reducible apply Take.cons | apply Take.app | exact Rm.chunk | exact Rm.here | exact Rm.nil0 | apply Rm.skip | apply Rm.skipS | (focus (apply Take.all; (repeat (first | exact Rm.chunk | exact Rm.here | exact Rm.nil0 | apply Rm.skip | apply Rm.skipS)); done)) | apply Take.cons)) (fun J2 hJ2 hb => ?_)
      refine WP.nil ?_
      refine WP.sub [(0, _), (2, _), (3, _), (4, _), (5, _), (7, _), (8, _), (9, _), (12, _), (13, _), (14, _), (15, _), (25, _)] ?_ ⟨rfl, rfl, rfl, rfl, rfl, rfl, rfl, rfl, rfl, rfl, rfl, rfl, rfl, trivial⟩
      refine WP.next ?_
      refine WP.condF rfl ?_
      refine WP.skip ?_
      refine WP.next ?_
      refine WP.cut (X := Imm × Sp) (fun u : Imm × Sp => [(0, .pointer (some ⟨d, 0, none⟩)), (2, .pointer (some ⟨b2, 0, none⟩)), (3, .int .i64 0), (4, .pointer (some ⟨b4, 0, none⟩)), (5, .bool (rdS x n i).2), (8, v7), (12, .slice (some ⟨bl, 0, none⟩) 2 2), (13, .int .i64 2), (14, .int .i64 (i : Int))]) (fun u => u.1) (fun u : Imm × Sp => (b2, row 23 (spV spZ)) :: ((b4, row 23 (spV u.2)) :: ((bl, row 3 [.int .i64 0, .int .i64 4]) :: (L ++ F)))) (fun u : Imm × Sp => I.le u.1 ∧ SlRd (Im u.1) v7 (x.read n (4 * (i : Int)) 1).1.length 1 (bytesV (x.read n (4 * (i : Int)) 1).1) ∧ u.2 = upS (rdS x n i).1 (decS (x.read n (4 * (i : Int)) 1).1)) ?_ ?_
      · skip
        refine WP.seq ?_
        refine WP.region [0, 1, 2, 3, 4, 5, 6, 7] rfl ?_
        refine WP.val rfl rfl rfl rfl (Yld.move rfl rfl) ?_
        refine WP.loud rfl rfl ?_
        refine Op.call (super_Decode hb (by omega)) rfl Try.func11 rfl rfl rfl rfl (by repeat (first | exact Take.nil | with_reducible apply Take.cons | apply Take.app | exact Rm.chunk | exact Rm.here | exact Rm.nil0 | apply Rm.skip | apply Rm.skipS | (focus (apply Take.all; (repeat (first | exact Rm.chunk | exact Rm.here | exact Rm.nil0 | apply Rm.skip | apply Rm.skipS)); done)) | apply Take.cons)) ?_
        rintro v J3 L1 hJ3 ⟨rfl, rfl⟩
        try simp only [List.cons_append, List.nil_append, List.append_assoc]
        refine WP.val rfl rfl rfl rfl (Yld.move rfl rfl) ?_
        refine WP.val rfl rfl rfl rfl (Yld.extract rfl rfl rfl) ?_
        refine WP.val rfl rfl rfl rfl (Yld.extract rfl rfl rfl) ?_
        refine WP.loud rfl rfl ?_
        refine Op.alloc rfl rfl rfl ty_zr_23 (fun b10 => ?_)
        refine WP.loud rfl rfl ?_
        refine Op.storeAll rfl rfl ty_sz_23 rfl rfl rfl rfl (by repeat (first | exact Upd.head | apply Upd.tail | apply Upd.tailS)) rfl ?_
        refine WP.val rfl rfl rfl rfl (Yld.assign rfl rfl) ?_
        refine WP.nil ?_
        refine WP.sub [(0, _), (2, _), (3, _), (4, _), (5, _), (7, _), (8, _), (9, _), (10, _), (11, _), (12, _), (13, _), (14, _), (15, _), (25, _)] ?_ ⟨rfl, rfl, rfl, rfl, rfl, rfl, rfl, rfl, rfl, rfl, rfl, rfl, rfl, rfl, rfl, trivial⟩
        refine WP.next ?_
        refine WP.seq ?_
        refine WP.region [0, 1, 2, 3, 4, 5, 6, 7, 8] rfl ?_
        refine WP.val rfl rfl rfl rfl (Yld.move rfl rfl) ?_
        refine WP.split rfl rfl rfl rfl (Yld.eql rfl rfl rfl) (fun hsm => ?_) (fun hsm => ?_)
        · refine WP.val rfl rfl rfl rfl (Yld.move rfl rfl) ?_
          refine WP.valG rfl rfl rfl rfl rfl rfl rfl (Yld.fieldAddr rfl ty_fd_23_0 rfl) ?_
          refine WP.valG rfl rfl rfl rfl rfl rfl rfl (Yld.load rfl ty_sc_3 rfl (by repeat (first | exact There.h | exact There.i (by assumption) | apply There.t | apply There.s)) rfl) ?_
          refine WP.valG rfl rfl rfl rfl rfl rfl rfl (Yld.fieldAddr rfl ty_fd_23_0 rfl) ?_
          refine WP.valG rfl rfl rfl rfl rfl rfl rfl (Yld.load rfl ty_sc_3 rfl (by repeat (first | exact There.h | exact There.i (by assumption) | apply There.t | apply There.s)) rfl) ?_
          refine WP.splitG rfl rfl rfl rfl rfl rfl rfl (Yld.gtr rfl rfl rfl) (fun hgt => ?_) (fun hgt => ?_)
          · refine WP.val rfl rfl rfl rfl (Yld.pickT rfl rfl rfl) ?_
            refine WP.nil ?_
            refine WP.sub [(0, _), (2, _), (3, _), (4, _), (5, _), (7, _), (8, _), (9, _), (10, _), (11, _), (12, _), (13, _), (14, _), (15, _), (25, _), (41, _)] ?_ ⟨rfl, rfl, rfl, rfl, rfl, rfl, rfl, rfl, rfl, rfl, rfl, rfl, rfl, rfl, rfl, rfl, trivial⟩
            refine WP.next ?_
            refine WP.condT rfl ?_
            refine WP.region [0, 1] rfl ?_
            refine WP.val rfl rfl rfl rfl (Yld.loadAll rfl ty_ag_23 rfl (by repeat (first | exact There.h | exact There.i (by assumption) | apply There.t | apply There.s)) rfl) ?_
            refine WP.loud rfl rfl ?_
            refine Op.storeAll rfl rfl ty_sz_23 rfl rfl rfl rfl (by repeat (first | exact Upd.head | apply Upd.tail | apply Upd.tailS)) rfl ?_
            refine WP.nil ?_
            refine WP.sub [(0, _), (2, _), (3, _), (4, _), (5, _), (7, _), (8, _), (9, _), (10, _), (11, _), (12, _), (13, _), (14, _), (15, _), (25, _), (41, _)] ?_ ⟨rfl, rfl, rfl, rfl, rfl, rfl, rfl, rfl, rfl, rfl, rfl, rfl, rfl, rfl, rfl, rfl, trivial⟩
            exact WP.meet (J3, (decS (x.read n (4 * (i : Int)) 1).1).getD spZ) ⟨Imm.le_trans hle (Imm.le_trans hJ2 hJ3), hb.mono (fun b o h => hJ3.2 b o h), upS_take hsm hgt⟩ ⟨rfl, rfl, rfl, rfl, rfl, rfl, rfl, rfl, rfl, trivial⟩ rfl (by (try dsimp only); repeat (first | exact Rm.chunk | exact Rm.here | exact Rm.nil0 | apply Rm.skip | apply Rm.skipS | apply PX.cons | (apply PX.done; (repeat (first | exact Leave.done | apply Leave.drop | apply Leave.dropS)); done) | apply PX.app))
          · refine WP.val rfl rfl rfl rfl (Yld.pickT rfl rfl rfl) ?_
            refine WP.nil ?_
            refine WP.sub [(0, _), (2, _), (3, _), (4, _), (5, _), (7, _), (8, _), (9, _), (10, _), (11, _), (12, _), (13, _), (14, _), (15, _), (25, _), (41, _)] ?_ ⟨rfl, rfl, rfl, rfl, rfl, rfl, rfl, rfl, rfl, rfl, rfl, rfl, rfl, rfl, rfl, rfl, trivial⟩
            refine WP.next ?_
            refine WP.condF rfl ?_
            refine WP.skip ?_
            exact WP.meet (J3, (rdS x n i).1) ⟨Imm.le_trans hle (Imm.le_trans hJ2 hJ3), hb.mono (fun b o h => hJ3.2 b o h), upS_keep hsm hgt⟩ ⟨rfl, rfl, rfl, rfl, rfl, rfl, rfl, rfl, rfl, trivial⟩ rfl (by (try dsimp only); repeat (first | exact Rm.chunk | exact Rm.here | exact Rm.nil0 | apply Rm.skip | apply Rm.skipS | apply PX.cons | (apply PX.done; (repeat (first | exact Leave.done | apply Leave.drop | apply Leave.dropS)); done) | apply PX.app))
        · refine WP.val rfl rfl rfl rfl (Yld.move rfl rfl) ?_
          refine WP.passG rfl rfl rfl rfl rfl rfl rfl rfl ?_
          refine WP.passG rfl rfl rfl rfl rfl rfl rfl rfl ?_
          refine WP.passG rfl rfl rfl rfl rfl rfl rfl rfl ?_
          refine WP.passG rfl rfl rfl rfl rfl rfl rfl rfl ?_
          refine WP.passG rfl rfl rfl rfl rfl rfl rfl rfl ?_
          refine WP.val rfl rfl rfl rfl (Yld.pickF rfl rfl rfl) ?_
          refine WP.nil ?_
          refine WP.sub [(0, _), (2, _), (3, _), (4, _), (5, _), (7, _), (8, _), (9, _), (10, _), (11, _), (12, _), (13, _), (14, _), (15, _), (25, _), (41, _)] ?_ ⟨rfl, rfl, rfl, rfl, rfl, rfl, rfl, rfl, rfl, rfl, rfl, rfl, rfl, rfl, rfl, rfl, trivial⟩
          refine WP.next ?_
          refine WP.condF rfl ?_
          refine WP.skip ?_
          exact WP.meet (J3, (rdS x n i).1) ⟨Imm.le_trans hle (Imm.le_trans hJ2 hJ3), hb.mono (fun b o h => hJ3.2 b o h), upS_none hsm⟩ ⟨rfl, rfl, rfl, rfl, rfl, rfl, rfl, rfl, rfl, trivial⟩ rfl (by (try dsimp only); repeat (first | exact Rm.chunk | exact Rm.here | exact Rm.nil0 | apply Rm.skip | apply Rm.skipS | apply PX.cons | (apply PX.done; (repeat (first | exact Leave.done | apply Leave.drop | apply Leave.dropS)); done) | apply PX.app))
      · rintro ⟨J3, best⟩ ⟨hle3, hb3, hbe⟩; dsimp only at hle3 hb3 hbe; subst hbe; try dsimp only
        refine WP.region [0, 1, 2, 3, 4, 5, 6, 7] rfl ?_
        refine WP.val rfl rfl rfl rfl (Yld.move rfl rfl) ?_
        by_cases hbl : (rdS x n i).2 = true
        · rw [hbl]
          refine WP.val rfl rfl rfl rfl (Yld.move rfl rfl) ?_
          refine WP.valG rfl rfl rfl rfl rfl rfl rfl (Yld.move rfl rfl) ?_
          refine WP.valG rfl rfl rfl rfl rfl rfl rfl (Yld.sliceR (l := 56) (h := (x.read n (4 * (i : Int)) 1).1.length) hb3 rfl ty_sl_24 rfl (Env.limS (n := 56) rfl) Env.lim0 (by omega) (Nat.le_refl _)) ?_
          refine WP.loudG rfl rfl rfl rfl rfl ?_
          refine Op.call (super_number (bs := (x.read n (4 * (i : Int)) 1).1.drop 56) (by have q := hb3.sub (l := 56) (h := (x.read n (4 * (i : Int)) 1).1.length) (by omega) (Nat.le_refl _); simp only [Nat.mul_one] at q; rw [bytesV_drop, bytesV_take] at q; rw [List.length_drop]; rwa [List.take_of_length_le (by rw [List.length_drop]; exact Nat.le_refl _)] at q) (by rw [List.length_drop]; omega)) rfl Try.func34 rfl rfl rfl rfl (by repeat (first | exact Take.nil | with_reducible apply Take.cons | apply Take.app | exact Rm.chunk | exact Rm.here | exact Rm.nil0 | apply Rm.skip | apply Rm.skipS | (focus (apply Take.all; (repeat (first | exact Rm.chunk | exact Rm.here | exact Rm.nil0 | apply Rm.skip | apply Rm.skipS)); done)) | apply Take.cons)) ?_
          rintro v J L1 hJ ⟨rfl, rfl, rfl⟩
          clear hJ; try simp only [List.cons_append, List.nil_append, List.append_assoc]
          refine WP.valG rfl rfl rfl rfl rfl rfl rfl (Yld.eql rfl rfl rfl _ rfl) ?_
          refine WP.val rfl rfl rfl rfl (Yld.pickT rfl rfl rfl) ?_
          refine WP.val rfl rfl rfl rfl (Yld.assign rfl rfl) ?_
          refine WP.nil ?_
          refine WP.sub [(0, _), (2, _), (3, _), (4, _), (5, _), (8, _), (12, _), (13, _), (14, _)] ?_ ⟨rfl, rfl, rfl, rfl, rfl, rfl, rfl, rfl, rfl, trivial⟩
          refine WP.leave ?_
          refine WP.next ?_
          refine WP.region [0, 1] rfl ?_
          refine WP.val rfl rfl rfl rfl (Yld.add64 rfl rfl rfl (by omega)) ?_
          refine WP.val rfl rfl rfl rfl (Yld.move rfl rfl) ?_
          refine WP.nil ?_
          refine WP.sub [(0, _), (2, _), (3, _), (4, _), (5, _), (8, _), (12, _), (13, _), (14, _)] ?_ ⟨rfl, rfl, rfl, rfl, rfl, rfl, rfl, rfl, rfl, trivial⟩
          have h2 : (rdS x n (i + 1)).2 = (decide ((BitVec.ofNat 64 (leN (((x.read n (4 * (i : Int)) 1).1).drop 56))).toInt = 0)) := by simp only [rdS, hbl, Bool.true_and, Bool.false_and]
          exact WP.again (i + 1, J3) ⟨(show i + 1 ≤ 2 by omega), hle3, fun j hj => by rcases Nat.lt_succ_iff_lt_or_eq.1 hj with hj | rfl; exact hall j hj; exact he0⟩ (show 2 - (i + 1) < 2 - i by omega) ⟨rfl, rfl, rfl, rfl, (by rw [h2]; rfl), rfl, rfl, rfl, trivial⟩ rfl (by (try dsimp only); repeat (first | exact Rm.chunk | exact Rm.here | exact Rm.nil0 | apply Rm.skip | apply Rm.skipS | apply PX.cons | (apply PX.done; (repeat (first | exact Leave.done | apply Leave.drop | apply Leave.dropS)); done) | apply PX.app))
        · have hbl : (rdS x n i).2 = false := by simpa using hbl
          rw [hbl]
          refine WP.val rfl rfl rfl rfl (Yld.move rfl rfl) ?_
          refine WP.passG rfl rfl rfl rfl rfl rfl rfl rfl ?_
          refine WP.passG rfl rfl rfl rfl rfl rfl rfl rfl ?_
          refine WP.passG rfl rfl rfl rfl rfl rfl rfl rfl ?_
          refine WP.passG rfl rfl rfl rfl rfl rfl rfl rfl ?_
          refine WP.val rfl rfl rfl rfl (Yld.pickF rfl rfl rfl) ?_
          refine WP.val rfl rfl rfl rfl (Yld.assign rfl rfl) ?_
          refine WP.nil ?_
          refine WP.sub [(0, _), (2, _), (3, _), (4, _), (5, _), (8, _), (12, _), (13, _), (14, _)] ?_ ⟨rfl, rfl, rfl, rfl, rfl, rfl, rfl, rfl, rfl, trivial⟩
          refine WP.leave ?_
          refine WP.next ?_
          refine WP.region [0, 1] rfl ?_
          refine WP.val rfl rfl rfl rfl (Yld.add64 rfl rfl rfl (by omega)) ?_
          refine WP.val rfl rfl rfl rfl (Yld.move rfl rfl) ?_
          refine WP.nil ?_
          refine WP.sub [(0, _), (2, _), (3, _), (4, _), (5, _), (8, _), (12, _), (13, _), (14, _)] ?_ ⟨rfl, rfl, rfl, rfl, rfl, rfl, rfl, rfl, rfl, trivial⟩
          have h2 : (rdS x n (i + 1)).2 = false := by simp only [rdS, hbl, Bool.true_and, Bool.false_and]
          exact WP.again (i + 1, J3) ⟨(show i + 1 ≤ 2 by omega), hle3, fun j hj => by rcases Nat.lt_succ_iff_lt_or_eq.1 hj with hj | rfl; exact hall j hj; exact he0⟩ (show 2 - (i + 1) < 2 - i by omega) ⟨rfl, rfl, rfl, rfl, (by rw [h2]; rfl), rfl, rfl, rfl, trivial⟩ rfl (by (try dsimp only); repeat (first | exact Rm.chunk | exact Rm.here | exact Rm.nil0 | apply Rm.skip | apply Rm.skipS | apply PX.cons | (apply PX.done; (repeat (first | exact Leave.done | apply Leave.drop | apply Leave.dropS)); done) | apply PX.app))
  · obtain rfl : i = 2 := by omega
    refine WP.nil ?_
    refine WP.next ?_
    refine WP.seq ?_
    refine WP.condF rfl ?_
    refine WP.exit ?_
    refine WP.thenE ?_
    refine WP.thenE ?_
    refine WP.hit ?_
    refine WP.next ?_
    refine WP.seq ?_
    refine WP.seq ?_
    refine WP.region [0, 1, 2, 3, 4, 5, 6] rfl ?_
    refine WP.val rfl rfl rfl rfl (Yld.loadAll rfl ty_ag_23 rfl (by repeat (first | exact There.h | exact There.i (by assumption) | apply There.t | apply There.s)) rfl) ?_
    refine WP.val rfl rfl rfl rfl (Yld.buildS (pl := []) rfl ty_zr_23 ty_zd_23 (by kernel_rfl) rfl (vs := []) rfl (segs := []) rfl rfl (by repeat (first | exact SetSeg.nil | apply SetSeg.one | exact SetAt.zero | apply SetAt.succ))) ?_
    refine WP.val rfl rfl rfl rfl (Yld.eqlInts (m := 5) (us := (rdS x n 2).1.ints) (vs := spZ.ints) rfl (by kernel_rfl) rfl rfl rfl rfl _ rfl) ?_
    by_cases hz : (decide ((rdS x n 2).1.ints = spZ.ints)) = true
    · rw [hz]
      refine WP.val rfl rfl rfl rfl (Yld.move rfl rfl) ?_
      refine WP.valG rfl rfl rfl rfl rfl rfl rfl (Yld.move rfl rfl) ?_
      by_cases hbk : (rdS x n 2).2 = true
      · rw [hbk]
        refine WP.valG rfl rfl rfl rfl rfl rfl rfl (Yld.not rfl rfl) ?_
        refine WP.val rfl rfl rfl rfl (Yld.pickT rfl rfl rfl) ?_
        refine WP.nil ?_
        refine WP.sub [(0, _), (2, _), (3, _), (4, _), (5, _), (12, _), (13, _), (14, _), (15, _), (57, _)] ?_ ⟨rfl, rfl, rfl, rfl, rfl, rfl, rfl, rfl, rfl, rfl, trivial⟩
        refine WP.next ?_
        refine WP.condF rfl ?_
        refine WP.skip ?_
        refine WP.next ?_
        refine WP.seq ?_
        refine WP.region [0, 1, 2] rfl ?_
        refine WP.val rfl rfl rfl rfl (Yld.loadAll rfl ty_ag_23 rfl (by repeat (first | exact There.h | exact There.i (by assumption) | apply There.t | apply There.s)) rfl) ?_
        refine WP.loud rfl rfl ?_
        refine Op.storeAll rfl rfl ty_sz_23 rfl rfl rfl rfl (by repeat (first | exact Upd.head | apply Upd.tail | apply Upd.tailS)) rfl ?_
        refine WP.val rfl rfl rfl rfl (Yld.assign rfl rfl) ?_
        refine WP.nil ?_
        refine WP.sub [(0, _), (2, _), (3, _), (4, _), (5, _), (12, _), (13, _), (14, _), (15, _), (57, _)] ?_ ⟨rfl, rfl, rfl, rfl, rfl, rfl, rfl, rfl, rfl, rfl, trivial⟩
        refine WP.next ?_
        refine WP.ret ?_
        refine WP.fin .ret (.inr rfl) (resT (rs := [.cell 2 23, .tmp 3]) (vs := [_, _]) rfl ⟨⟨_, _, _, _, rfl, (by repeat (first | exact There.h | exact There.i (by assumption) | apply There.t | apply There.s)), .inl ⟨ty_ag_23, by rfl, rfl⟩⟩, rfl, trivial⟩ rfl) L (by repeat (first | exact Take.nil | with_reducible apply Take.cons | apply Take.app | exact Rm.chunk | exact Rm.here | exact Rm.nil0 | apply Rm.skip | apply Rm.skipS | (focus (apply Take.all; (repeat (first | exact Rm.chunk | exact Rm.here | exact Rm.nil0 | apply Rm.skip | apply Rm.skipS)); done)) | apply Take.cons)) (by repeat (first | exact Leave.done | apply Leave.drop | apply Leave.dropS)) hle ?_
        have ha0 := hall 0 (by decide)
        have ha1 := hall 1 (by decide)
        have hs : supR x n = if (rdS x n 2).1.ints = spZ.ints ∧ (rdS x n 2).2 = false then (spZ, 160) else ((rdS x n 2).1, 0) := by unfold supR; rw [if_neg (by simpa using ha0), if_neg (by simpa using ha1)]
        refine ⟨?_, rfl⟩
        rw [hs]
        rw [if_neg (fun h => by rw [hbk] at h; cases h.2)]; try rfl
      · have hbk : (rdS x n 2).2 = false := by simpa using hbk
        rw [hbk]
        refine WP.valG rfl rfl rfl rfl rfl rfl rfl (Yld.not rfl rfl) ?_
        refine WP.val rfl rfl rfl rfl (Yld.pickT rfl rfl rfl) ?_
        refine WP.nil ?_
        refine WP.sub [(0, _), (2, _), (3, _), (4, _), (5, _), (12, _), (13, _), (14, _), (15, _), (57, _)] ?_ ⟨rfl, rfl, rfl, rfl, rfl, rfl, rfl, rfl, rfl, rfl, trivial⟩
        refine WP.next ?_
        refine WP.condT rfl ?_
        refine WP.seq ?_
        refine WP.region [0, 1, 2] rfl ?_
        refine WP.val rfl rfl rfl rfl (Yld.buildS (pl := []) rfl ty_zr_23 ty_zd_23 (by kernel_rfl) rfl (vs := []) rfl (segs := []) rfl rfl (by repeat (first | exact SetSeg.nil | apply SetSeg.one | exact SetAt.zero | apply SetAt.succ))) ?_
        refine WP.loud rfl rfl ?_
        refine Op.storeAll rfl rfl ty_sz_23 rfl rfl rfl rfl (by repeat (first | exact Upd.head | apply Upd.tail | apply Upd.tailS)) rfl ?_
        refine WP.val rfl rfl rfl rfl (Yld.assign rfl rfl) ?_
        refine WP.nil ?_
        refine WP.sub [(0, _), (2, _), (3, _), (4, _), (5, _), (12, _), (13, _), (14, _), (15, _), (57, _)] ?_ ⟨rfl, rfl, rfl, rfl, rfl, rfl, rfl, rfl, rfl, rfl, trivial⟩
        refine WP.next ?_
        refine WP.ret ?_
        refine WP.fin .ret (.inr rfl) (resT (rs := [.cell 2 23, .tmp 3]) (vs := [_, _]) rfl ⟨⟨_, _, _, _, rfl, (by repeat (first | exact There.h | exact There.i (by assumption) | apply There.t | apply There.s)), .inl ⟨ty_ag_23, by rfl, rfl⟩⟩, rfl, trivial⟩ rfl) L (by repeat (first | exact Take.nil | with_reducible apply Take.cons | apply Take.app | exact Rm.chunk | exact Rm.here | exact Rm.nil0 | apply Rm.skip | apply Rm.skipS | (focus (apply Take.all; (repeat (first | exact Rm.chunk | exact Rm.here | exact Rm.nil0 | apply Rm.skip | apply Rm.skipS)); done)) | apply Take.cons)) (by repeat (first | exact Leave.done | apply Leave.drop | apply Leave.dropS)) hle ?_
        have ha0 := hall 0 (by decide)
        have ha1 := hall 1 (by decide)
        have hs : supR x n = if (rdS x n 2).1.ints = spZ.ints ∧ (rdS x n 2).2 = false then (spZ, 160) else ((rdS x n 2).1, 0) := by unfold supR; rw [if_neg (by simpa using ha0), if_neg (by simpa using ha1)]
        refine ⟨?_, rfl⟩
        rw [hs]
        rw [if_pos ⟨of_decide_eq_true hz, hbk⟩]; try rfl
    · have hz : (decide ((rdS x n 2).1.ints = spZ.ints)) = false := by simpa using hz
      rw [hz]
      refine WP.val rfl rfl rfl rfl (Yld.move rfl rfl) ?_
      refine WP.passG rfl rfl rfl rfl rfl rfl rfl rfl ?_
      refine WP.passG rfl rfl rfl rfl rfl rfl rfl rfl ?_
      refine WP.val rfl rfl rfl rfl (Yld.pickF rfl rfl rfl) ?_
      refine WP.nil ?_
      refine WP.sub [(0, _), (2, _), (3, _), (4, _), (5, _), (12, _), (13, _), (14, _), (15, _), (57, _)] ?_ ⟨rfl, rfl, rfl, rfl, rfl, rfl, rfl, rfl, rfl, rfl, trivial⟩
      refine WP.next ?_
      refine WP.condF rfl ?_
      refine WP.skip ?_
      refine WP.next ?_
      refine WP.seq ?_
      refine WP.region [0, 1, 2] rfl ?_
      refine WP.val rfl rfl rfl rfl (Yld.loadAll rfl ty_ag_23 rfl (by repeat (first | exact There.h | exact There.i (by assumption) | apply There.t | apply There.s)) rfl) ?_
      refine WP.loud rfl rfl ?_
      refine Op.storeAll rfl rfl ty_sz_23 rfl rfl rfl rfl (by repeat (first | exact Upd.head | apply Upd.tail | apply Upd.tailS)) rfl ?_
      refine WP.val rfl rfl rfl rfl (Yld.assign rfl rfl) ?_
      refine WP.nil ?_
      refine WP.sub [(0, _), (2, _), (3, _), (4, _), (5, _), (12, _), (13, _), (14, _), (15, _), (57, _)] ?_ ⟨rfl, rfl, rfl, rfl, rfl, rfl, rfl, rfl, rfl, rfl, trivial⟩
      refine WP.next ?_
      refine WP.ret ?_
      refine WP.fin .ret (.inr rfl) (resT (rs := [.cell 2 23, .tmp 3]) (vs := [_, _]) rfl ⟨⟨_, _, _, _, rfl, (by repeat (first | exact There.h | exact There.i (by assumption) | apply There.t | apply There.s)), .inl ⟨ty_ag_23, by rfl, rfl⟩⟩, rfl, trivial⟩ rfl) L (by repeat (first | exact Take.nil | with_reducible apply Take.cons | apply Take.app | exact Rm.chunk | exact Rm.here | exact Rm.nil0 | apply Rm.skip | apply Rm.skipS | (focus (apply Take.all; (repeat (first | exact Rm.chunk | exact Rm.here | exact Rm.nil0 | apply Rm.skip | apply Rm.skipS)); done)) | apply Take.cons)) (by repeat (first | exact Leave.done | apply Leave.drop | apply Leave.dropS)) hle ?_
      have ha0 := hall 0 (by decide)
      have ha1 := hall 1 (by decide)
      have hs : supR x n = if (rdS x n 2).1.ints = spZ.ints ∧ (rdS x n 2).2 = false then (spZ, 160) else ((rdS x n 2).1, 0) := by unfold supR; rw [if_neg (by simpa using ha0), if_neg (by simpa using ha1)]
      refine ⟨?_, rfl⟩
      rw [hs]
      rw [if_neg (fun h => (of_decide_eq_false hz) h.1)]; try rfl


end Go.Hp
