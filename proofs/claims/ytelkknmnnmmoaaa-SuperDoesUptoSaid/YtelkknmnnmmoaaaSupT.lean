import Derived.Test.YtelkknmnnmmoaaaDiskR
set_option linter.unusedVariables false
set_option linter.unusedSimpArgs false
namespace Go.Hp
open Go Go.Proofs
theorem ref_SWrite_ok {I : Imm} {r n : Nat} {x : Dk} {L : Chunks} (hd : IsRef I r n x L) {s : Sp} (hm : s.may) (hwb : x.waits.length + 8192 ≤ 1954687338000) : Spec Try.prog 23 [.pointer (some ⟨r, 0, none⟩), .agg (spV s).toArray] I L (fun v J L' => v = .int .i64 (x.write n (s.no % 2 * 4) (enc s)).2 ∧ IsRef J r n (x.write n (s.no % 2 * 4) (enc s)).1 L') := by
  refine Spec.of Try.func23 rfl Try.ntmps23 (Nat.le_of_ble_eq_true rfl) (fun F => ?_)
  try simp only [List.cons_append, List.nil_append, List.append_assoc]
  dsimp only [argsEnv]
  refine WP.seq ?_
  refine WP.region [0, 1] rfl ?_
  refine WP.loud rfl rfl ?_
  refine Op.box rfl rfl rfl rfl rfl (fun b3 => ?_)
  refine WP.val rfl rfl rfl rfl (Yld.assign rfl rfl) ?_
  refine WP.nil ?_
  refine WP.next ?_
  refine WP.seq ?_
  refine WP.region [0, 1, 2, 3, 4, 5, 6] rfl ?_
  refine WP.val rfl rfl rfl rfl (Yld.loadAll rfl ty_ag_23 rfl (by repeat (first | exact There.h | exact There.i (by assumption) | apply There.t | apply There.s)) rfl) ?_
  refine WP.loud rfl rfl ?_
  refine Op.call (ref_Encode_ok hm) rfl Try.func10 rfl rfl rfl rfl (by repeat (first | exact Take.nil | with_reducible apply Take.cons | apply Take.app | exact Rm.chunk | exact Rm.here | exact Rm.nil0 | apply Rm.skip | apply Rm.skipS | (focus (apply Take.all; (repeat (first | exact Rm.chunk | exact Rm.here | exact Rm.nil0 | apply Rm.skip | apply Rm.skipS)); done)) | apply Take.cons)) ?_
  rintro v J2 Lo hJ2 ⟨vb, rfl, ho⟩
  try simp only [List.cons_append, List.nil_append, List.append_assoc]
  refine WP.val rfl rfl rfl rfl (Yld.move rfl rfl) ?_
  refine WP.val rfl rfl rfl rfl (Yld.extract rfl rfl rfl) ?_
  refine WP.val rfl rfl rfl rfl (Yld.extract rfl rfl rfl) ?_
  refine WP.val rfl rfl rfl rfl (Yld.assign rfl rfl) ?_
  refine WP.val rfl rfl rfl rfl (Yld.assign rfl rfl) ?_
  refine WP.nil ?_
  refine WP.sub [(0, _), (1, _), (3, _), (4, _), (5, _), (6, _)] ?_ ⟨rfl, rfl, rfl, rfl, rfl, rfl, trivial⟩
  refine WP.next ?_
  refine WP.seq ?_
  refine WP.seq ?_
  refine WP.region [0, 1] rfl ?_
  refine WP.val rfl rfl rfl rfl (Yld.move rfl rfl) ?_
  refine WP.val rfl rfl rfl rfl (Yld.neq rfl rfl rfl false (decide_eq_false (by omega))) ?_
  refine WP.nil ?_
  refine WP.sub [(0, _), (1, _), (3, _), (4, _), (5, _), (6, _), (14, _)] ?_ ⟨rfl, rfl, rfl, rfl, rfl, rfl, rfl, trivial⟩
  refine WP.next ?_
  refine WP.condF rfl ?_
  refine WP.skip ?_
  refine WP.next ?_
  refine WP.seq ?_
  refine WP.region [0] rfl ?_
  refine WP.val rfl rfl rfl rfl (Yld.assign rfl rfl) ?_
  refine WP.nil ?_
  refine WP.next ?_
  refine WP.seq ?_
  refine WP.seq ?_
  refine WP.region [0, 1, 2, 3] rfl ?_
  refine WP.val rfl rfl rfl rfl (Yld.fieldAddr rfl ty_fd_23_0 rfl) ?_
  refine WP.val rfl rfl rfl rfl (Yld.load rfl ty_sc_3 rfl (by repeat (first | exact There.h | exact There.i (by assumption) | apply There.t | apply There.s)) rfl) ?_
  refine WP.val rfl rfl rfl rfl (Yld.rem64 rfl rfl rfl ⟨by have := hm.no; omega, by decide⟩) ?_
  refine WP.split rfl rfl rfl rfl (Yld.eql rfl rfl rfl) (fun h5 => ?_) (fun h5 => ?_)
  · refine WP.nil ?_
    refine WP.sub [(0, _), (1, _), (3, _), (4, _), (5, _), (6, _), (7, _), (14, _), (19, _)] ?_ ⟨rfl, rfl, rfl, rfl, rfl, rfl, rfl, rfl, rfl, trivial⟩
    refine WP.next ?_
    refine WP.condT rfl ?_
    refine WP.region [0] rfl ?_
    refine WP.val rfl rfl rfl rfl (Yld.assign rfl rfl) ?_
    refine WP.nil ?_
    refine WP.next ?_
    refine WP.seq ?_
    refine WP.shareOwn ho (by repeat (first | exact Take.nil | with_reducible apply Take.cons | apply Take.app | exact Rm.chunk | exact Rm.here | exact Rm.nil0 | apply Rm.skip | apply Rm.skipS | (focus (apply Take.all; (repeat (first | exact Rm.chunk | exact Rm.here | exact Rm.nil0 | apply Rm.skip | apply Rm.skipS)); done)) | apply Take.cons)) (fun J3 hJ3 hbs => ?_)
    refine WP.region [0, 1, 2, 3, 4] rfl ?_
    refine WP.val rfl rfl rfl rfl (Yld.move rfl rfl) ?_
    refine WP.val rfl rfl rfl rfl (Yld.move rfl rfl) ?_
    refine WP.val rfl rfl rfl rfl (Yld.move rfl rfl) ?_
    refine WP.loud rfl rfl ?_
    refine Op.call (ref_Write (at_ := 4) (hd.mono (Imm.le_trans hJ2 hJ3)) hbs hwb (by rw [enc_len]; decide)) rfl Try.func28 rfl rfl rfl rfl (by repeat (first | exact Take.nil | with_reducible apply Take.cons | apply Take.app | exact Rm.chunk | exact Rm.here | exact Rm.nil0 | apply Rm.skip | apply Rm.skipS | (focus (apply Take.all; (repeat (first | exact Rm.chunk | exact Rm.here | exact Rm.nil0 | apply Rm.skip | apply Rm.skipS)); done)) | apply Take.cons)) ?_
    rintro v J4 L9 hJ4 ⟨rfl, hd2⟩
    try simp only [List.cons_append, List.nil_append, List.append_assoc]
    refine WP.val rfl rfl rfl rfl (Yld.assign rfl rfl) ?_
    refine WP.nil ?_
    refine WP.sub [(0, _), (1, _), (3, _), (4, _), (5, _), (6, _), (7, _), (14, _), (19, _)] ?_ ⟨rfl, rfl, rfl, rfl, rfl, rfl, rfl, rfl, rfl, trivial⟩
    refine WP.next ?_
    refine WP.ret ?_
    refine WP.fin .ret (.inr rfl) (res1 rfl rfl) L9 (by repeat (first | exact Take.nil | with_reducible apply Take.cons | apply Take.app | exact Rm.chunk | exact Rm.here | exact Rm.nil0 | apply Rm.skip | apply Rm.skipS | (focus (apply Take.all; (repeat (first | exact Rm.chunk | exact Rm.here | exact Rm.nil0 | apply Rm.skip | apply Rm.skipS)); done)) | apply Take.cons)) (by repeat (first | exact Leave.done | apply Leave.drop | apply Leave.dropS)) (Imm.le_trans hJ2 (Imm.le_trans hJ3 hJ4)) ?_
    have e : s.no % 2 * 4 = 4 := (by have := hm.no; omega)
    rw [e]; exact ⟨rfl, hd2⟩
  · refine WP.nil ?_
    refine WP.sub [(0, _), (1, _), (3, _), (4, _), (5, _), (6, _), (7, _), (14, _), (19, _)] ?_ ⟨rfl, rfl, rfl, rfl, rfl, rfl, rfl, rfl, rfl, trivial⟩
    refine WP.next ?_
    refine WP.condF rfl ?_
    refine WP.skip ?_
    refine WP.next ?_
    refine WP.seq ?_
    refine WP.shareOwn ho (by repeat (first | exact Take.nil | with_reducible apply Take.cons | apply Take.app | exact Rm.chunk | exact Rm.here | exact Rm.nil0 | apply Rm.skip | apply Rm.skipS | (focus (apply Take.all; (repeat (first | exact Rm.chunk | exact Rm.here | exact Rm.nil0 | apply Rm.skip | apply Rm.skipS)); done)) | apply Take.cons)) (fun J3 hJ3 hbs => ?_)
    refine WP.region [0, 1, 2, 3, 4] rfl ?_
    refine WP.val rfl rfl rfl rfl (Yld.move rfl rfl) ?_
    refine WP.val rfl rfl rfl rfl (Yld.move rfl rfl) ?_
    refine WP.val rfl rfl rfl rfl (Yld.move rfl rfl) ?_
    refine WP.loud rfl rfl ?_
    refine Op.call (ref_Write (at_ := 0) (hd.mono (Imm.le_trans hJ2 hJ3)) hbs hwb (by rw [enc_len]; decide)) rfl Try.func28 rfl rfl rfl rfl (by repeat (first | exact Take.nil | with_reducible apply Take.cons | apply Take.app | exact Rm.chunk | exact Rm.here | exact Rm.nil0 | apply Rm.skip | apply Rm.skipS | (focus (apply Take.all; (repeat (first | exact Rm.chunk | exact Rm.here | exact Rm.nil0 | apply Rm.skip | apply Rm.skipS)); done)) | apply Take.cons)) ?_
    rintro v J4 L9 hJ4 ⟨rfl, hd2⟩
    try simp only [List.cons_append, List.nil_append, List.append_assoc]
    refine WP.val rfl rfl rfl rfl (Yld.assign rfl rfl) ?_
    refine WP.nil ?_
    refine WP.sub [(0, _), (1, _), (3, _), (4, _), (5, _), (6, _), (7, _), (14, _), (19, _)] ?_ ⟨rfl, rfl, rfl, rfl, rfl, rfl, rfl, rfl, rfl, trivial⟩
    refine WP.next ?_
    refine WP.ret ?_
    refine WP.fin .ret (.inr rfl) (res1 rfl rfl) L9 (by repeat (first | exact Take.nil | with_reducible apply Take.cons | apply Take.app | exact Rm.chunk | exact Rm.here | exact Rm.nil0 | apply Rm.skip | apply Rm.skipS | (focus (apply Take.all; (repeat (first | exact Rm.chunk | exact Rm.here | exact Rm.nil0 | apply Rm.skip | apply Rm.skipS)); done)) | apply Take.cons)) (by repeat (first | exact Leave.done | apply Leave.drop | apply Leave.dropS)) (Imm.le_trans hJ2 (Imm.le_trans hJ3 hJ4)) ?_
    have e : s.no % 2 * 4 = 0 := (by have := hm.no; omega)
    rw [e]; exact ⟨rfl, hd2⟩

theorem ref_SWrite_bad {I : Imm} {r n : Nat} {x : Dk} {L : Chunks} (hd : IsRef I r n x L) {s : Sp} (hm : ¬ s.may) : Spec Try.prog 23 [.pointer (some ⟨r, 0, none⟩), .agg (spV s).toArray] I L (fun v J L' => v = .int .i64 1 ∧ I = J ∧ L' = L) := by
  refine Spec.of Try.func23 rfl Try.ntmps23 (Nat.le_of_ble_eq_true rfl) (fun F => ?_)
  try simp only [List.cons_append, List.nil_append, List.append_assoc]
  dsimp only [argsEnv]
  refine WP.seq ?_
  refine WP.region [0, 1] rfl ?_
  refine WP.loud rfl rfl ?_
  refine Op.box rfl rfl rfl rfl rfl (fun b3 => ?_)
  refine WP.val rfl rfl rfl rfl (Yld.assign rfl rfl) ?_
  refine WP.nil ?_
  refine WP.next ?_
  refine WP.seq ?_
  refine WP.region [0, 1, 2, 3, 4, 5, 6] rfl ?_
  refine WP.val rfl rfl rfl rfl (Yld.loadAll rfl ty_ag_23 rfl (by repeat (first | exact There.h | exact There.i (by assumption) | apply There.t | apply There.s)) rfl) ?_
  refine WP.loud rfl rfl ?_
  refine Op.call (ref_Encode_bad hm) rfl Try.func10 rfl rfl rfl rfl (by repeat (first | exact Take.nil | with_reducible apply Take.cons | apply Take.app | exact Rm.chunk | exact Rm.here | exact Rm.nil0 | apply Rm.skip | apply Rm.skipS | (focus (apply Take.all; (repeat (first | exact Rm.chunk | exact Rm.here | exact Rm.nil0 | apply Rm.skip | apply Rm.skipS)); done)) | apply Take.cons)) ?_
  rintro v J L1 hJ ⟨rfl, rfl, rfl⟩
  clear hJ; try simp only [List.cons_append, List.nil_append, List.append_assoc]
  refine WP.val rfl rfl rfl rfl (Yld.move rfl rfl) ?_
  refine WP.val rfl rfl rfl rfl (Yld.extract rfl rfl rfl) ?_
  refine WP.val rfl rfl rfl rfl (Yld.extract rfl rfl rfl) ?_
  refine WP.val rfl rfl rfl rfl (Yld.assign rfl rfl) ?_
  refine WP.val rfl rfl rfl rfl (Yld.assign rfl rfl) ?_
  refine WP.nil ?_
  refine WP.sub [(0, _), (1, _), (3, _), (4, _), (5, _), (6, _)] ?_ ⟨rfl, rfl, rfl, rfl, rfl, rfl, trivial⟩
  refine WP.next ?_
  refine WP.seq ?_
  refine WP.seq ?_
  refine WP.region [0, 1] rfl ?_
  refine WP.val rfl rfl rfl rfl (Yld.move rfl rfl) ?_
  refine WP.val rfl rfl rfl rfl (Yld.neq rfl rfl rfl true (decide_eq_true (by omega))) ?_
  refine WP.nil ?_
  refine WP.sub [(0, _), (1, _), (3, _), (4, _), (5, _), (6, _), (14, _)] ?_ ⟨rfl, rfl, rfl, rfl, rfl, rfl, rfl, trivial⟩
  refine WP.next ?_
  refine WP.condT rfl ?_
  refine WP.seq ?_
  refine WP.region [0, 1] rfl ?_
  refine WP.val rfl rfl rfl rfl (Yld.move rfl rfl) ?_
  refine WP.val rfl rfl rfl rfl (Yld.assign rfl rfl) ?_
  refine WP.nil ?_
  refine WP.sub [(0, _), (1, _), (3, _), (4, _), (5, _), (6, _), (14, _)] ?_ ⟨rfl, rfl, rfl, rfl, rfl, rfl, rfl, trivial⟩
  refine WP.next ?_
  refine WP.ret ?_
  refine WP.fin .ret (.inr rfl) (res1 rfl rfl) L (by repeat (first | exact Take.nil | with_reducible apply Take.cons | apply Take.app | exact Rm.chunk | exact Rm.here | exact Rm.nil0 | apply Rm.skip | apply Rm.skipS | (focus (apply Take.all; (repeat (first | exact Rm.chunk | exact Rm.here | exact Rm.nil0 | apply Rm.skip | apply Rm.skipS)); done)) | apply Take.cons)) (by repeat (first | exact Leave.done | apply Leave.drop | apply Leave.dropS)) (Imm.le_refl _) ?_
  exact ⟨rfl, rfl, rfl⟩


theorem read_64' {x : Dk} {n : Nat} {at_ : Int} (h : x.ok n) (h0 : (x.read n at_ 1).2 = 0) : (x.read n at_ 1).1.length = 64 := by
  unfold Dk.read at h0 ⊢
  split at h0
  · simp at h0
  · split at h0
    · simp at h0
    · rename_i h1 h2
      rw [if_neg h1, if_neg h2]
      have := h.ln
      simp only [List.length_take, List.length_drop]
      omega
theorem supR_ok {x : Dk} {n : Nat} (h0 : (x.read n 0 1).2 = 0) (h1 : (x.read n 4 1).2 = 0) : supR x n = sup8 (x.read n 0 1).1 (x.read n 4 1).1 := by
  unfold supR
  rw [if_neg (by simp [h0]), if_neg (by simp [h1])]
  have e2 : rdS x n 2 = (upS (upS spZ (decS (x.read n 0 1).1)) (decS (x.read n 4 1).1), tagz (x.read n 0 1).1 && tagz (x.read n 4 1).1) := by
    have a0 : x.read n (4 * ((0 : Nat) : Int)) 1 = x.read n 0 1 := by simp
    have a1 : x.read n (4 * ((1 : Nat) : Int)) 1 = x.read n 4 1 := by simp
    simp only [rdS, a0, a1, Bool.true_and]; rfl
  rw [e2]; rfl
theorem supR_e0 {x : Dk} {n : Nat} (h0 : (x.read n 0 1).2 ≠ 0) : supR x n = (spZ, (x.read n 0 1).2) := by unfold supR; rw [if_pos h0]
theorem supR_e1 {x : Dk} {n : Nat} (h0 : (x.read n 0 1).2 = 0) (h1 : (x.read n 4 1).2 ≠ 0) : supR x n = (spZ, (x.read n 4 1).2) := by unfold supR; rw [if_neg (by simp [h0]), if_pos h1]
theorem sup8_first {a b : List UInt8} {s : Sp} (ha : decS a = some s) (hb : ∀ t, decS b = some t → t.no ≤ s.no) : sup8 a b = (s, 0) := by
  have hs := (tag_dec ha).1.no
  have hne : s.ints ≠ spZ.ints := fun h => by simp [Sp.ints, spZ] at h; omega
  have e1 : upS (upS spZ (decS a)) (decS b) = s := by
    rw [ha]
    have : upS spZ (some s) = s := by show (if (0 : Int) < s.no then s else spZ) = s; rw [if_pos (by omega)]
    rw [this]
    cases hd : decS b with
    | none => rfl
    | some t => have := hb t hd; show (if s.no < t.no then t else s) = s; rw [if_neg (by omega)]
  unfold sup8
  rw [e1, if_neg (fun h => hne h.1)]
theorem sup8_none {a b : List UInt8} (ha : decS a = none) (hb : decS b = none) : sup8 a b = (spZ, if (tagz a && tagz b) = true then 0 else 160) := by
  unfold sup8
  rw [ha, hb]
  have e : upS (upS spZ none) none = spZ := rfl
  rw [e]
  cases h : (tagz a && tagz b) with
  | true => rw [if_neg (fun h => by cases h.2)]; rfl
  | false => rw [if_pos ⟨rfl, rfl⟩]; rfl
theorem leN_zero : ∀ l : List UInt8, leN l = 0 ↔ ∀ c ∈ l, c = 0
  | [] => by simp [leN]
  | a :: l => by
    simp only [leN, List.mem_cons, forall_eq_or_imp]
    rw [← leN_zero l]
    constructor
    · intro h
      exact ⟨UInt8.toNat_inj.1 (by show a.toNat = 0; omega), by omega⟩
    · rintro ⟨rfl, h⟩
      rw [h]; rfl
theorem tagz_all {b : List UInt8} (h : ∀ j, 56 ≤ j → j < b.length → b[j]? = some 0) : tagz b = true := by
  refine tagz_iff ((leN_zero _).2 fun c hc => ?_)
  obtain ⟨i, hi, rfl⟩ := List.getElem_of_mem hc
  rw [List.length_drop] at hi
  have := h (56 + i) (by omega) (by omega)
  rw [List.getElem?_eq_getElem (by omega)] at this
  rw [List.getElem_drop]; exact Option.some.inj this
theorem tagz_not {b : List UInt8} (hl : b.length = 64) {j : Nat} (h1 : 56 ≤ j) (h2 : j < b.length) (h : ¬ ((b[j]'h2).toNat : Int) = 0) : tagz b = false := by
  unfold tagz
  refine decide_eq_false fun h0 => h ?_
  have hlt := leN_lt (b.drop 56)
  rw [List.length_drop, hl] at hlt
  have e1 : BitVec.ofNat 64 (leN (b.drop 56)) = 0#64 := BitVec.toInt_inj.1 (by rw [h0]; rfl)
  have e2 := congrArg BitVec.toNat e1
  rw [BitVec.toNat_ofNat, Nat.mod_eq_of_lt (by omega)] at e2
  have e3 := (leN_zero _).1 e2 (b[j]'h2) (List.mem_iff_getElem.2 ⟨j - 56, by simp; omega, by rw [List.getElem_drop]; congr 1; omega⟩)
  rw [e3]; rfl
theorem okE {o : Option Sp} (h : (if o.isSome = true then (0 : Int) else 160) = 0) : ∃ s, o = some s := by
  cases o with
  | none => exact absurd h (by decide)
  | some s => exact ⟨s, rfl⟩
theorem badE {o : Option Sp} (h : ¬ (if o.isSome = true then (0 : Int) else 160) = 0) : o = none := by
  cases o with
  | none => rfl
  | some s => exact absurd rfl h

theorem ref_ok {I : Imm} {r n : Nat} {x : Dk} {L : Chunks} (h : IsRef I r n x L) : x.ok n := by cases h with | mk ok => exact ok
set_option maxHeartbeats 1000000 in
theorem ref_SRead {I : Imm} {r n : Nat} {x : Dk} {L : Chunks} (hd : IsRef I r n x L) (hwb : x.waits.length ≤ 1954687338000) : Spec Try.prog 29 [.pointer (some ⟨r, 0, none⟩)] I L (fun v J L' => v = .tuple #[.agg (spV (supR x n).1).toArray, .int .i64 (supR x n).2] ∧ L' = L) := by
  refine Spec.of Try.func29 rfl Try.ntmps29 (Nat.le_of_ble_eq_true rfl) (fun F => ?_)
  try simp only [List.cons_append, List.nil_append, List.append_assoc]
  dsimp only [argsEnv]
  refine WP.seq ?_
  refine WP.region [0, 1] rfl ?_
  refine WP.loud rfl rfl ?_
  refine Op.alloc rfl rfl rfl ty_zr_23 (fun b2 => ?_)
  refine WP.val rfl rfl rfl rfl (Yld.assign rfl rfl) ?_
  refine WP.nil ?_
  refine WP.next ?_
  refine WP.seq ?_
  refine WP.region [0, 1, 2, 3, 4, 5, 6] rfl ?_
  refine WP.val rfl rfl rfl rfl (Yld.move rfl rfl) ?_
  refine WP.loud rfl rfl ?_
  refine Op.call (ref_Read (at_ := 0) (many := 1) hd hwb) rfl Try.func37 rfl rfl rfl rfl (by repeat (first | exact Take.nil | with_reducible apply Take.cons | apply Take.app | exact Rm.chunk | exact Rm.here | exact Rm.nil0 | apply Rm.skip | apply Rm.skipS | (focus (apply Take.all; (repeat (first | exact Rm.chunk | exact Rm.here | exact Rm.nil0 | apply Rm.skip | apply Rm.skipS)); done)) | apply Take.cons)) ?_
  rintro v J Lq hJ ⟨rfl, v4, La, rfl, hoa, rfl⟩
  clear hJ; try simp only [List.cons_append, List.nil_append, List.append_assoc]
  refine WP.val rfl rfl rfl rfl (Yld.move rfl rfl) ?_
  refine WP.val rfl rfl rfl rfl (Yld.extract rfl rfl rfl) ?_
  refine WP.val rfl rfl rfl rfl (Yld.extract rfl rfl rfl) ?_
  refine WP.val rfl rfl rfl rfl (Yld.assign rfl rfl) ?_
  refine WP.val rfl rfl rfl rfl (Yld.assign rfl rfl) ?_
  refine WP.nil ?_
  refine WP.sub [(0, _), (2, _), (3, _), (4, _), (5, _)] ?_ ⟨rfl, rfl, rfl, rfl, rfl, trivial⟩
  refine WP.next ?_
  refine WP.seq ?_
  refine WP.seq ?_
  refine WP.region [0, 1] rfl ?_
  refine WP.val rfl rfl rfl rfl (Yld.move rfl rfl) ?_
  refine WP.split rfl rfl rfl rfl (Yld.neq rfl rfl rfl) (fun he => ?_) (fun he => ?_)
  · refine WP.nil ?_
    refine WP.sub [(0, _), (2, _), (3, _), (4, _), (5, _), (19, _)] ?_ ⟨rfl, rfl, rfl, rfl, rfl, rfl, trivial⟩
    refine WP.next ?_
    refine WP.condT rfl ?_
    refine WP.seq ?_
    refine WP.region [0, 1, 2, 3] rfl ?_
    refine WP.val rfl rfl rfl rfl (Yld.buildS (pl := []) rfl ty_zr_23 ty_zd_23 (by kernel_rfl) rfl (vs := []) rfl (segs := []) rfl rfl (by repeat (first | exact SetSeg.nil | apply SetSeg.one | exact SetAt.zero | apply SetAt.succ))) ?_
    refine WP.val rfl rfl rfl rfl (Yld.move rfl rfl) ?_
    refine WP.loud rfl rfl ?_
    refine Op.storeAll rfl rfl ty_sz_23 rfl rfl rfl rfl (by repeat (first | exact Upd.head | apply Upd.tail | apply Upd.tailS)) rfl ?_
    refine WP.val rfl rfl rfl rfl (Yld.assign rfl rfl) ?_
    refine WP.nil ?_
    refine WP.sub [(0, _), (2, _), (3, _), (4, _), (5, _), (19, _)] ?_ ⟨rfl, rfl, rfl, rfl, rfl, rfl, trivial⟩
    refine WP.next ?_
    refine WP.ret ?_
    refine WP.fin .ret (.inr rfl) (resT (rs := [.cell 2 23, .tmp 3]) (vs := [_, _]) rfl ⟨⟨_, _, _, _, rfl, (by repeat (first | exact There.h | exact There.i (by assumption) | apply There.t | apply There.s)), .inl ⟨ty_ag_23, by rfl, rfl⟩⟩, rfl, trivial⟩ rfl) L (by repeat (first | exact Take.nil | with_reducible apply Take.cons | apply Take.app | exact Rm.chunk | exact Rm.here | exact Rm.nil0 | apply Rm.skip | apply Rm.skipS | (focus (apply Take.all; (repeat (first | exact Rm.chunk | exact Rm.here | exact Rm.nil0 | apply Rm.skip | apply Rm.skipS)); done)) | apply Take.cons)) (by repeat (first | exact Leave.done | apply Leave.drop | apply Leave.dropS)) (Imm.le_refl _) ?_
    exact ⟨(by rw [supR_e0 (by omega)]; rfl), rfl⟩
  · have he0 : (x.read n 0 1).2 = 0 := by omega
    refine WP.nil ?_
    refine WP.sub [(0, _), (2, _), (3, _), (4, _), (5, _), (19, _)] ?_ ⟨rfl, rfl, rfl, rfl, rfl, rfl, trivial⟩
    refine WP.next ?_
    refine WP.condF rfl ?_
    refine WP.skip ?_
    refine WP.next ?_
    refine WP.seq ?_
    refine WP.region [0, 1, 2, 3, 4, 5, 6] rfl ?_
    refine WP.val rfl rfl rfl rfl (Yld.move rfl rfl) ?_
    refine WP.loud rfl rfl ?_
    refine Op.call (ref_Read (at_ := 4) (many := 1) hd hwb) rfl Try.func37 rfl rfl rfl rfl (by repeat (first | exact Take.nil | with_reducible apply Take.cons | apply Take.app | exact Rm.chunk | exact Rm.here | exact Rm.nil0 | apply Rm.skip | apply Rm.skipS | (focus (apply Take.all; (repeat (first | exact Rm.chunk | exact Rm.here | exact Rm.nil0 | apply Rm.skip | apply Rm.skipS)); done)) | apply Take.cons)) ?_
    rintro v J Lq hJ ⟨rfl, v6, Lb, rfl, hob, rfl⟩
    clear hJ; try simp only [List.cons_append, List.nil_append, List.append_assoc]
    refine WP.val rfl rfl rfl rfl (Yld.move rfl rfl) ?_
    refine WP.val rfl rfl rfl rfl (Yld.extract rfl rfl rfl) ?_
    refine WP.val rfl rfl rfl rfl (Yld.extract rfl rfl rfl) ?_
    refine WP.val rfl rfl rfl rfl (Yld.assign rfl rfl) ?_
    refine WP.val rfl rfl rfl rfl (Yld.assign rfl rfl) ?_
    refine WP.nil ?_
    refine WP.sub [(0, _), (2, _), (3, _), (4, _), (5, _), (6, _), (7, _), (19, _)] ?_ ⟨rfl, rfl, rfl, rfl, rfl, rfl, rfl, rfl, trivial⟩
    refine WP.next ?_
    refine WP.seq ?_
    refine WP.seq ?_
    refine WP.region [0, 1] rfl ?_
    refine WP.val rfl rfl rfl rfl (Yld.move rfl rfl) ?_
    refine WP.split rfl rfl rfl rfl (Yld.neq rfl rfl rfl) (fun hf => ?_) (fun hf => ?_)
    · refine WP.nil ?_
      refine WP.sub [(0, _), (2, _), (3, _), (4, _), (5, _), (6, _), (7, _), (19, _), (28, _)] ?_ ⟨rfl, rfl, rfl, rfl, rfl, rfl, rfl, rfl, rfl, trivial⟩
      refine WP.next ?_
      refine WP.condT rfl ?_
      refine WP.seq ?_
      refine WP.region [0, 1, 2, 3] rfl ?_
      refine WP.val rfl rfl rfl rfl (Yld.buildS (pl := []) rfl ty_zr_23 ty_zd_23 (by kernel_rfl) rfl (vs := []) rfl (segs := []) rfl rfl (by repeat (first | exact SetSeg.nil | apply SetSeg.one | exact SetAt.zero | apply SetAt.succ))) ?_
      refine WP.val rfl rfl rfl rfl (Yld.move rfl rfl) ?_
      refine WP.loud rfl rfl ?_
      refine Op.storeAll rfl rfl ty_sz_23 rfl rfl rfl rfl (by repeat (first | exact Upd.head | apply Upd.tail | apply Upd.tailS)) rfl ?_
      refine WP.val rfl rfl rfl rfl (Yld.assign rfl rfl) ?_
      refine WP.nil ?_
      refine WP.sub [(0, _), (2, _), (3, _), (4, _), (5, _), (6, _), (7, _), (19, _), (28, _)] ?_ ⟨rfl, rfl, rfl, rfl, rfl, rfl, rfl, rfl, rfl, trivial⟩
      refine WP.next ?_
      refine WP.ret ?_
      refine WP.fin .ret (.inr rfl) (resT (rs := [.cell 2 23, .tmp 3]) (vs := [_, _]) rfl ⟨⟨_, _, _, _, rfl, (by repeat (first | exact There.h | exact There.i (by assumption) | apply There.t | apply There.s)), .inl ⟨ty_ag_23, by rfl, rfl⟩⟩, rfl, trivial⟩ rfl) L (by repeat (first | exact Take.nil | with_reducible apply Take.cons | apply Take.app | exact Rm.chunk | exact Rm.here | exact Rm.nil0 | apply Rm.skip | apply Rm.skipS | (focus (apply Take.all; (repeat (first | exact Rm.chunk | exact Rm.here | exact Rm.nil0 | apply Rm.skip | apply Rm.skipS)); done)) | apply Take.cons)) (by repeat (first | exact Leave.done | apply Leave.drop | apply Leave.dropS)) (Imm.le_refl _) ?_
      exact ⟨(by rw [supR_e1 he0 (by omega)]; rfl), rfl⟩
    · have hf0 : (x.read n 4 1).2 = 0 := by omega
      refine WP.nil ?_
      refine WP.sub [(0, _), (2, _), (3, _), (4, _), (5, _), (6, _), (7, _), (19, _), (28, _)] ?_ ⟨rfl, rfl, rfl, rfl, rfl, rfl, rfl, rfl, rfl, trivial⟩
      refine WP.next ?_
      refine WP.condF rfl ?_
      refine WP.skip ?_
      refine WP.next ?_
      refine WP.seq ?_
      have hok := ref_ok hd
      have ha64 := read_64' hok he0
      have hb64 := read_64' hok hf0
      refine WP.shareOwn hoa (by repeat (first | exact Take.nil | with_reducible apply Take.cons | apply Take.app | exact Rm.chunk | exact Rm.here | exact Rm.nil0 | apply Rm.skip | apply Rm.skipS | (focus (apply Take.all; (repeat (first | exact Rm.chunk | exact Rm.here | exact Rm.nil0 | apply Rm.skip | apply Rm.skipS)); done)) | apply Take.cons)) (fun J2 hJ2 ha => ?_)
      refine WP.shareOwn hob (by repeat (first | exact Take.nil | with_reducible apply Take.cons | apply Take.app | exact Rm.chunk | exact Rm.here | exact Rm.nil0 | apply Rm.skip | apply Rm.skipS | (focus (apply Take.all; (repeat (first | exact Rm.chunk | exact Rm.here | exact Rm.nil0 | apply Rm.skip | apply Rm.skipS)); done)) | apply Take.cons)) (fun J3 hJ3 hb => ?_)
      have ha := ha.mono (fun b o h => hJ3.2 b o h)
      refine WP.region [0, 1, 2, 3, 4, 5, 6, 7] rfl ?_
      refine WP.val rfl rfl rfl rfl (Yld.move rfl rfl) ?_
      refine WP.loud rfl rfl ?_
      refine Op.call (ref_Decode ha (by omega)) rfl Try.func12 rfl rfl rfl rfl (by repeat (first | exact Take.nil | with_reducible apply Take.cons | apply Take.app | exact Rm.chunk | exact Rm.here | exact Rm.nil0 | apply Rm.skip | apply Rm.skipS | (focus (apply Take.all; (repeat (first | exact Rm.chunk | exact Rm.here | exact Rm.nil0 | apply Rm.skip | apply Rm.skipS)); done)) | apply Take.cons)) ?_
      rintro v J4 L1 hJ4 ⟨rfl, rfl⟩
      try simp only [List.cons_append, List.nil_append, List.append_assoc]
      have ha := ha.mono (fun b o h => hJ4.2 b o h)
      have hb := hb.mono (fun b o h => hJ4.2 b o h)
      refine WP.val rfl rfl rfl rfl (Yld.move rfl rfl) ?_
      refine WP.val rfl rfl rfl rfl (Yld.extract rfl rfl rfl) ?_
      refine WP.val rfl rfl rfl rfl (Yld.extract rfl rfl rfl) ?_
      refine WP.loud rfl rfl ?_
      refine Op.alloc rfl rfl rfl ty_zr_23 (fun b8 => ?_)
      refine WP.loud rfl rfl ?_
      refine Op.storeAll rfl rfl ty_sz_23 rfl rfl rfl rfl (by repeat (first | exact Upd.head | apply Upd.tail | apply Upd.tailS)) rfl ?_
      refine WP.val rfl rfl rfl rfl (Yld.assign rfl rfl) ?_
      refine WP.nil ?_
      refine WP.sub [(0, _), (2, _), (3, _), (4, _), (5, _), (6, _), (7, _), (8, _), (9, _), (19, _), (28, _)] ?_ ⟨rfl, rfl, rfl, rfl, rfl, rfl, rfl, rfl, rfl, rfl, rfl, trivial⟩
      refine WP.next ?_
      refine WP.seq ?_
      refine WP.region [0, 1, 2, 3, 4, 5, 6, 7] rfl ?_
      refine WP.val rfl rfl rfl rfl (Yld.move rfl rfl) ?_
      refine WP.loud rfl rfl ?_
      refine Op.call (ref_Decode hb (by omega)) rfl Try.func12 rfl rfl rfl rfl (by repeat (first | exact Take.nil | with_reducible apply Take.cons | apply Take.app | exact Rm.chunk | exact Rm.here | exact Rm.nil0 | apply Rm.skip | apply Rm.skipS | (focus (apply Take.all; (repeat (first | exact Rm.chunk | exact Rm.here | exact Rm.nil0 | apply Rm.skip | apply Rm.skipS)); done)) | apply Take.cons)) ?_
      rintro v J5 L1 hJ5 ⟨rfl, rfl⟩
      try simp only [List.cons_append, List.nil_append, List.append_assoc]
      have ha := ha.mono (fun b o h => hJ5.2 b o h)
      have hb := hb.mono (fun b o h => hJ5.2 b o h)
      refine WP.val rfl rfl rfl rfl (Yld.move rfl rfl) ?_
      refine WP.val rfl rfl rfl rfl (Yld.extract rfl rfl rfl) ?_
      refine WP.val rfl rfl rfl rfl (Yld.extract rfl rfl rfl) ?_
      refine WP.loud rfl rfl ?_
      refine Op.alloc rfl rfl rfl ty_zr_23 (fun b10 => ?_)
      refine WP.loud rfl rfl ?_
      refine Op.storeAll rfl rfl ty_sz_23 rfl rfl rfl rfl (by repeat (first | exact Upd.head | apply Upd.tail | apply Upd.tailS)) rfl ?_
      refine WP.val rfl rfl rfl rfl (Yld.assign rfl rfl) ?_
      refine WP.nil ?_
      refine WP.sub [(0, _), (2, _), (3, _), (4, _), (5, _), (6, _), (7, _), (8, _), (9, _), (10, _), (11, _), (19, _), (28, _)] ?_ ⟨rfl, rfl, rfl, rfl, rfl, rfl, rfl, rfl, rfl, rfl, rfl, rfl, rfl, trivial⟩
      refine WP.next ?_
      refine WP.seq ?_
      refine WP.seq ?_
      refine WP.region [0, 1, 2, 3, 4, 5, 6, 7, 8, 9, 10, 11, 12] rfl ?_
      refine WP.val rfl rfl rfl rfl (Yld.move rfl rfl) ?_
      refine WP.split rfl rfl rfl rfl (Yld.eql rfl rfl rfl) (fun hh => ?_) (fun hh => ?_)
      · refine WP.val rfl rfl rfl rfl (Yld.move rfl rfl) ?_
        refine WP.valG rfl rfl rfl rfl rfl rfl rfl (Yld.move rfl rfl) ?_
        refine WP.splitG rfl rfl rfl rfl rfl rfl rfl (Yld.neq rfl rfl rfl) (fun hg => ?_) (fun hg => ?_)
        · refine WP.valG rfl rfl rfl rfl rfl rfl rfl (Yld.move rfl rfl) ?_
          refine WP.passG rfl rfl rfl rfl rfl rfl rfl rfl ?_
          refine WP.passG rfl rfl rfl rfl rfl rfl rfl rfl ?_
          refine WP.passG rfl rfl rfl rfl rfl rfl rfl rfl ?_
          refine WP.passG rfl rfl rfl rfl rfl rfl rfl rfl ?_
          refine WP.passG rfl rfl rfl rfl rfl rfl rfl rfl ?_
          refine WP.valG rfl rfl rfl rfl rfl rfl rfl (Yld.pickT rfl rfl rfl) ?_
          refine WP.val rfl rfl rfl rfl (Yld.pickT rfl rfl rfl) ?_
          refine WP.nil ?_
          refine WP.sub [(0, _), (2, _), (3, _), (4, _), (5, _), (6, _), (7, _), (8, _), (9, _), (10, _), (11, _), (19, _), (28, _), (53, _)] ?_ ⟨rfl, rfl, rfl, rfl, rfl, rfl, rfl, rfl, rfl, rfl, rfl, rfl, rfl, rfl, trivial⟩
          refine WP.next ?_
          refine WP.condT rfl ?_
          refine WP.seq ?_
          refine WP.region [0, 1, 2] rfl ?_
          refine WP.val rfl rfl rfl rfl (Yld.loadAll rfl ty_ag_23 rfl (by repeat (first | exact There.h | exact There.i (by assumption) | apply There.t | apply There.s)) rfl) ?_
          refine WP.loud rfl rfl ?_
          refine Op.storeAll rfl rfl ty_sz_23 rfl rfl rfl rfl (by repeat (first | exact Upd.head | apply Upd.tail | apply Upd.tailS)) rfl ?_
          refine WP.val rfl rfl rfl rfl (Yld.assign rfl rfl) ?_
          refine WP.nil ?_
          refine WP.sub [(0, _), (2, _), (3, _), (4, _), (5, _), (6, _), (7, _), (8, _), (9, _), (10, _), (11, _), (19, _), (28, _), (53, _)] ?_ ⟨rfl, rfl, rfl, rfl, rfl, rfl, rfl, rfl, rfl, rfl, rfl, rfl, rfl, rfl, trivial⟩
          refine WP.next ?_
          refine WP.ret ?_
          refine WP.fin .ret (.inr rfl) (resT (rs := [.cell 2 23, .tmp 3]) (vs := [_, _]) rfl ⟨⟨_, _, _, _, rfl, (by repeat (first | exact There.h | exact There.i (by assumption) | apply There.t | apply There.s)), .inl ⟨ty_ag_23, by rfl, rfl⟩⟩, rfl, trivial⟩ rfl) L (by repeat (first | exact Take.nil | with_reducible apply Take.cons | apply Take.app | exact Rm.chunk | exact Rm.here | exact Rm.nil0 | apply Rm.skip | apply Rm.skipS | (focus (apply Take.all; (repeat (first | exact Rm.chunk | exact Rm.here | exact Rm.nil0 | apply Rm.skip | apply Rm.skipS)); done)) | apply Take.cons)) (by repeat (first | exact Leave.done | apply Leave.drop | apply Leave.dropS)) (Imm.le_trans hJ2 (Imm.le_trans hJ3 (Imm.le_trans hJ4 hJ5))) ?_
          have hsr := supR_ok he0 hf0
          obtain ⟨t, ht⟩ := okE hh
          have hn := badE hg
          have q := (sup8_top (a := (x.read n 4 1).1) (b := (x.read n 0 1).1) (tag_dec ht).1.no.1 ht (fun t' h' => by rw [hn] at h'; cases h')).2
          exact ⟨(by rw [hsr, q, ht]; rfl), rfl⟩
        · refine WP.valG rfl rfl rfl rfl rfl rfl rfl (Yld.move rfl rfl) ?_
          refine WP.valG rfl rfl rfl rfl rfl rfl rfl (Yld.fieldAddr rfl ty_fd_23_0 rfl) ?_
          refine WP.valG rfl rfl rfl rfl rfl rfl rfl (Yld.load rfl ty_sc_3 rfl (by repeat (first | exact There.h | exact There.i (by assumption) | apply There.t | apply There.s)) rfl) ?_
          refine WP.valG rfl rfl rfl rfl rfl rfl rfl (Yld.fieldAddr rfl ty_fd_23_0 rfl) ?_
          refine WP.valG rfl rfl rfl rfl rfl rfl rfl (Yld.load rfl ty_sc_3 rfl (by repeat (first | exact There.h | exact There.i (by assumption) | apply There.t | apply There.s)) rfl) ?_
          refine WP.splitG rfl rfl rfl rfl rfl rfl rfl (Yld.gtr rfl rfl rfl) (fun hgt => ?_) (fun hgt => ?_)
          · refine WP.valG rfl rfl rfl rfl rfl rfl rfl (Yld.pickF rfl rfl rfl) ?_
            refine WP.val rfl rfl rfl rfl (Yld.pickT rfl rfl rfl) ?_
            refine WP.nil ?_
            refine WP.sub [(0, _), (2, _), (3, _), (4, _), (5, _), (6, _), (7, _), (8, _), (9, _), (10, _), (11, _), (19, _), (28, _), (53, _)] ?_ ⟨rfl, rfl, rfl, rfl, rfl, rfl, rfl, rfl, rfl, rfl, rfl, rfl, rfl, rfl, trivial⟩
            refine WP.next ?_
            refine WP.condT rfl ?_
            refine WP.seq ?_
            refine WP.region [0, 1, 2] rfl ?_
            refine WP.val rfl rfl rfl rfl (Yld.loadAll rfl ty_ag_23 rfl (by repeat (first | exact There.h | exact There.i (by assumption) | apply There.t | apply There.s)) rfl) ?_
            refine WP.loud rfl rfl ?_
            refine Op.storeAll rfl rfl ty_sz_23 rfl rfl rfl rfl (by repeat (first | exact Upd.head | apply Upd.tail | apply Upd.tailS)) rfl ?_
            refine WP.val rfl rfl rfl rfl (Yld.assign rfl rfl) ?_
            refine WP.nil ?_
            refine WP.sub [(0, _), (2, _), (3, _), (4, _), (5, _), (6, _), (7, _), (8, _), (9, _), (10, _), (11, _), (19, _), (28, _), (53, _)] ?_ ⟨rfl, rfl, rfl, rfl, rfl, rfl, rfl, rfl, rfl, rfl, rfl, rfl, rfl, rfl, trivial⟩
            refine WP.next ?_
            refine WP.ret ?_
            refine WP.fin .ret (.inr rfl) (resT (rs := [.cell 2 23, .tmp 3]) (vs := [_, _]) rfl ⟨⟨_, _, _, _, rfl, (by repeat (first | exact There.h | exact There.i (by assumption) | apply There.t | apply There.s)), .inl ⟨ty_ag_23, by rfl, rfl⟩⟩, rfl, trivial⟩ rfl) L (by repeat (first | exact Take.nil | with_reducible apply Take.cons | apply Take.app | exact Rm.chunk | exact Rm.here | exact Rm.nil0 | apply Rm.skip | apply Rm.skipS | (focus (apply Take.all; (repeat (first | exact Rm.chunk | exact Rm.here | exact Rm.nil0 | apply Rm.skip | apply Rm.skipS)); done)) | apply Take.cons)) (by repeat (first | exact Leave.done | apply Leave.drop | apply Leave.dropS)) (Imm.le_trans hJ2 (Imm.le_trans hJ3 (Imm.le_trans hJ4 hJ5))) ?_
            have hsr := supR_ok he0 hf0
            obtain ⟨t, ht⟩ := okE hh
            obtain ⟨s, hs⟩ := okE (Decidable.not_not.1 hg)
            rw [ht, hs] at hgt
            have q := (sup8_top (a := (x.read n 4 1).1) (b := (x.read n 0 1).1) (tag_dec ht).1.no.1 ht (fun t' h' => by rw [hs] at h'; cases h'; simpa using hgt)).2
            exact ⟨(by rw [hsr, q, ht]; rfl), rfl⟩
          · refine WP.valG rfl rfl rfl rfl rfl rfl rfl (Yld.pickF rfl rfl rfl) ?_
            refine WP.val rfl rfl rfl rfl (Yld.pickT rfl rfl rfl) ?_
            refine WP.nil ?_
            refine WP.sub [(0, _), (2, _), (3, _), (4, _), (5, _), (6, _), (7, _), (8, _), (9, _), (10, _), (11, _), (19, _), (28, _), (53, _)] ?_ ⟨rfl, rfl, rfl, rfl, rfl, rfl, rfl, rfl, rfl, rfl, rfl, rfl, rfl, rfl, trivial⟩
            refine WP.next ?_
            refine WP.condF rfl ?_
            refine WP.skip ?_
            refine WP.next ?_
            refine WP.seq ?_
            refine WP.seq ?_
            refine WP.region [0, 1] rfl ?_
            refine WP.val rfl rfl rfl rfl (Yld.move rfl rfl) ?_
            refine WP.val rfl rfl rfl rfl (Yld.eql rfl rfl rfl true (decide_eq_true (by exact Decidable.not_not.1 hg))) ?_
            refine WP.nil ?_
            refine WP.sub [(0, _), (2, _), (3, _), (4, _), (5, _), (6, _), (7, _), (8, _), (9, _), (10, _), (11, _), (19, _), (28, _), (53, _), (56, _)] ?_ ⟨rfl, rfl, rfl, rfl, rfl, rfl, rfl, rfl, rfl, rfl, rfl, rfl, rfl, rfl, rfl, trivial⟩
            refine WP.next ?_
            refine WP.condT rfl ?_
            refine WP.seq ?_
            refine WP.region [0, 1, 2] rfl ?_
            refine WP.val rfl rfl rfl rfl (Yld.loadAll rfl ty_ag_23 rfl (by repeat (first | exact There.h | exact There.i (by assumption) | apply There.t | apply There.s)) rfl) ?_
            refine WP.loud rfl rfl ?_
            refine Op.storeAll rfl rfl ty_sz_23 rfl rfl rfl rfl (by repeat (first | exact Upd.head | apply Upd.tail | apply Upd.tailS)) rfl ?_
            refine WP.val rfl rfl rfl rfl (Yld.assign rfl rfl) ?_
            refine WP.nil ?_
            refine WP.sub [(0, _), (2, _), (3, _), (4, _), (5, _), (6, _), (7, _), (8, _), (9, _), (10, _), (11, _), (19, _), (28, _), (53, _), (56, _)] ?_ ⟨rfl, rfl, rfl, rfl, rfl, rfl, rfl, rfl, rfl, rfl, rfl, rfl, rfl, rfl, rfl, trivial⟩
            refine WP.next ?_
            refine WP.ret ?_
            refine WP.fin .ret (.inr rfl) (resT (rs := [.cell 2 23, .tmp 3]) (vs := [_, _]) rfl ⟨⟨_, _, _, _, rfl, (by repeat (first | exact There.h | exact There.i (by assumption) | apply There.t | apply There.s)), .inl ⟨ty_ag_23, by rfl, rfl⟩⟩, rfl, trivial⟩ rfl) L (by repeat (first | exact Take.nil | with_reducible apply Take.cons | apply Take.app | exact Rm.chunk | exact Rm.here | exact Rm.nil0 | apply Rm.skip | apply Rm.skipS | (focus (apply Take.all; (repeat (first | exact Rm.chunk | exact Rm.here | exact Rm.nil0 | apply Rm.skip | apply Rm.skipS)); done)) | apply Take.cons)) (by repeat (first | exact Leave.done | apply Leave.drop | apply Leave.dropS)) (Imm.le_trans hJ2 (Imm.le_trans hJ3 (Imm.le_trans hJ4 hJ5))) ?_
            have hsr := supR_ok he0 hf0
            obtain ⟨t, ht⟩ := okE hh
            obtain ⟨s, hs⟩ := okE (Decidable.not_not.1 hg)
            rw [ht, hs] at hgt
            have q := sup8_first (a := (x.read n 0 1).1) (b := (x.read n 4 1).1) hs (fun t' h' => by rw [ht] at h'; cases h'; simp only [Option.getD_some] at hgt; omega)
            exact ⟨(by rw [hsr, q, hs]; rfl), rfl⟩
      · refine WP.val rfl rfl rfl rfl (Yld.move rfl rfl) ?_
        refine WP.passG rfl rfl rfl rfl rfl rfl rfl rfl ?_
        refine WP.passG rfl rfl rfl rfl rfl rfl rfl rfl ?_
        refine WP.passG rfl rfl rfl rfl rfl rfl rfl rfl ?_
        refine WP.passG rfl rfl rfl rfl rfl rfl rfl rfl ?_
        refine WP.passG rfl rfl rfl rfl rfl rfl rfl rfl ?_
        refine WP.passG rfl rfl rfl rfl rfl rfl rfl rfl ?_
        refine WP.passG rfl rfl rfl rfl rfl rfl rfl rfl ?_
        refine WP.passG rfl rfl rfl rfl rfl rfl rfl rfl ?_
        refine WP.passG rfl rfl rfl rfl rfl rfl rfl rfl ?_
        refine WP.val rfl rfl rfl rfl (Yld.pickF rfl rfl rfl) ?_
        refine WP.nil ?_
        refine WP.sub [(0, _), (2, _), (3, _), (4, _), (5, _), (6, _), (7, _), (8, _), (9, _), (10, _), (11, _), (19, _), (28, _), (53, _)] ?_ ⟨rfl, rfl, rfl, rfl, rfl, rfl, rfl, rfl, rfl, rfl, rfl, rfl, rfl, rfl, trivial⟩
        refine WP.next ?_
        refine WP.condF rfl ?_
        refine WP.skip ?_
        refine WP.next ?_
        refine WP.seq ?_
        refine WP.seq ?_
        refine WP.region [0, 1] rfl ?_
        refine WP.val rfl rfl rfl rfl (Yld.move rfl rfl) ?_
        refine WP.split rfl rfl rfl rfl (Yld.eql rfl rfl rfl) (fun hg2 => ?_) (fun hg2 => ?_)
        · refine WP.nil ?_
          refine WP.sub [(0, _), (2, _), (3, _), (4, _), (5, _), (6, _), (7, _), (8, _), (9, _), (10, _), (11, _), (19, _), (28, _), (53, _), (56, _)] ?_ ⟨rfl, rfl, rfl, rfl, rfl, rfl, rfl, rfl, rfl, rfl, rfl, rfl, rfl, rfl, rfl, trivial⟩
          refine WP.next ?_
          refine WP.condT rfl ?_
          refine WP.seq ?_
          refine WP.region [0, 1, 2] rfl ?_
          refine WP.val rfl rfl rfl rfl (Yld.loadAll rfl ty_ag_23 rfl (by repeat (first | exact There.h | exact There.i (by assumption) | apply There.t | apply There.s)) rfl) ?_
          refine WP.loud rfl rfl ?_
          refine Op.storeAll rfl rfl ty_sz_23 rfl rfl rfl rfl (by repeat (first | exact Upd.head | apply Upd.tail | apply Upd.tailS)) rfl ?_
          refine WP.val rfl rfl rfl rfl (Yld.assign rfl rfl) ?_
          refine WP.nil ?_
          refine WP.sub [(0, _), (2, _), (3, _), (4, _), (5, _), (6, _), (7, _), (8, _), (9, _), (10, _), (11, _), (19, _), (28, _), (53, _), (56, _)] ?_ ⟨rfl, rfl, rfl, rfl, rfl, rfl, rfl, rfl, rfl, rfl, rfl, rfl, rfl, rfl, rfl, trivial⟩
          refine WP.next ?_
          refine WP.ret ?_
          refine WP.fin .ret (.inr rfl) (resT (rs := [.cell 2 23, .tmp 3]) (vs := [_, _]) rfl ⟨⟨_, _, _, _, rfl, (by repeat (first | exact There.h | exact There.i (by assumption) | apply There.t | apply There.s)), .inl ⟨ty_ag_23, by rfl, rfl⟩⟩, rfl, trivial⟩ rfl) L (by repeat (first | exact Take.nil | with_reducible apply Take.cons | apply Take.app | exact Rm.chunk | exact Rm.here | exact Rm.nil0 | apply Rm.skip | apply Rm.skipS | (focus (apply Take.all; (repeat (first | exact Rm.chunk | exact Rm.here | exact Rm.nil0 | apply Rm.skip | apply Rm.skipS)); done)) | apply Take.cons)) (by repeat (first | exact Leave.done | apply Leave.drop | apply Leave.dropS)) (Imm.le_trans hJ2 (Imm.le_trans hJ3 (Imm.le_trans hJ4 hJ5))) ?_
          have hsr := supR_ok he0 hf0
          have hn := badE hh
          obtain ⟨s, hs⟩ := okE hg2
          have q := sup8_first (a := (x.read n 0 1).1) (b := (x.read n 4 1).1) hs (fun t' h' => by rw [hn] at h'; cases h')
          exact ⟨(by rw [hsr, q, hs]; rfl), rfl⟩
        · refine WP.nil ?_
          refine WP.sub [(0, _), (2, _), (3, _), (4, _), (5, _), (6, _), (7, _), (8, _), (9, _), (10, _), (11, _), (19, _), (28, _), (53, _), (56, _)] ?_ ⟨rfl, rfl, rfl, rfl, rfl, rfl, rfl, rfl, rfl, rfl, rfl, rfl, rfl, rfl, rfl, trivial⟩
          refine WP.next ?_
          refine WP.condF rfl ?_
          refine WP.skip ?_
          refine WP.next ?_
          refine WP.seq ?_
          refine WP.seq ?_
          obtain ⟨ba, ka, ca, Ta, fa, ra, rfl, hca, hba, hda⟩ := ha.get (by omega)
          obtain ⟨be, ke, ce, Te, fe, re, rfl, hce, hbe, hde⟩ := hb.get (by omega)
          refine WP.region [0] rfl ?_
          refine WP.val rfl rfl rfl rfl (Yld.assign rfl rfl) ?_
          refine WP.nil ?_
          refine WP.next ?_
          refine WP.block ?_
          refine WP.loop (X := Nat) (fun i : Nat => [(2, .pointer (some ⟨b2, 0, none⟩)), (4, .slice (some ⟨ba, ka, none⟩) (x.read n 0 1).1.length ca), (6, .slice (some ⟨be, ke, none⟩) (x.read n 4 1).1.length ce), (12, .int .i64 (i : Int))]) (fun _ => J5) (fun _ => (b2, row 23 (spV spZ)) :: (L ++ F)) (fun i => 56 ≤ i ∧ i ≤ 64 ∧ ∀ j, 56 ≤ j → j < i → (x.read n 0 1).1[j]? = some 0 ∧ (x.read n 4 1).1[j]? = some 0) (fun i => 64 - i) 56 ⟨by decide, by decide, fun j h1 h2 => by omega⟩ ⟨rfl, rfl, rfl, rfl, trivial⟩ rfl (by (try dsimp only); repeat (first | exact Rm.chunk | exact Rm.here | exact Rm.nil0 | apply Rm.skip | apply Rm.skipS | apply PX.cons | (apply PX.done; (repeat (first | exact Leave.done | apply Leave.drop | apply Leave.dropS)); done) | apply PX.app)) ?_
          rintro i ⟨h56, hi64, hall⟩; try dsimp only at h56 hi64 hall
          try dsimp only
          try simp only [List.cons_append, List.nil_append, List.append_assoc]
          refine WP.seq ?_
          refine WP.seq ?_
          refine WP.region [0, 1] rfl ?_
          refine WP.val rfl rfl rfl rfl (Yld.move rfl rfl) ?_
          refine WP.split rfl rfl rfl rfl (Yld.lss rfl rfl rfl) (fun hlt => ?_) (fun hlt => ?_)
          · have hia : i < (x.read n 0 1).1.length := by omega
            have hib : i < (x.read n 4 1).1.length := by omega
            have eba := take_cells hda i (byteV (x.read n 0 1).1[i]) (by simp [bytesV, hia]) (by rw [bytesV_len]; exact hia)
            have ebe := take_cells hde i (byteV (x.read n 4 1).1[i]) (by simp [bytesV, hib]) (by rw [bytesV_len]; exact hib)
            rw [Array.getElem?_toList] at eba ebe
            refine WP.nil ?_
            refine WP.sub [(2, _), (4, _), (6, _), (12, _), (59, _)] ?_ ⟨rfl, rfl, rfl, rfl, rfl, trivial⟩
            refine WP.next ?_
            refine WP.condT rfl ?_
            refine WP.skip ?_
            refine WP.next ?_
            refine WP.seq ?_
            refine WP.block ?_
            refine WP.seq ?_
            refine WP.region [0, 1, 2, 3, 4, 5, 6, 7, 8, 9, 10, 11] rfl ?_
            refine WP.val rfl rfl rfl rfl (Yld.move rfl rfl) ?_
            refine WP.val rfl rfl rfl rfl (Yld.move rfl rfl) ?_
            refine WP.val rfl rfl rfl rfl (Yld.indexAddr (i := i) rfl ty_sl_24 rfl rfl hia) ?_
            refine WP.val rfl rfl rfl rfl (Yld.loadC rfl ty_sc_5 rfl (There.i hba) (by rw [Nat.mul_one]; exact eba)) ?_
            refine WP.split rfl rfl rfl rfl (Yld.neq rfl rfl rfl) (fun hna => ?_) (fun hna => ?_)
            · refine WP.val rfl rfl rfl rfl (Yld.move rfl rfl) ?_
              refine WP.passG rfl rfl rfl rfl rfl rfl rfl rfl ?_
              refine WP.passG rfl rfl rfl rfl rfl rfl rfl rfl ?_
              refine WP.passG rfl rfl rfl rfl rfl rfl rfl rfl ?_
              refine WP.passG rfl rfl rfl rfl rfl rfl rfl rfl ?_
              refine WP.passG rfl rfl rfl rfl rfl rfl rfl rfl ?_
              refine WP.val rfl rfl rfl rfl (Yld.pickT rfl rfl rfl) ?_
              refine WP.nil ?_
              refine WP.sub [(2, _), (4, _), (6, _), (12, _), (59, _), (73, _)] ?_ ⟨rfl, rfl, rfl, rfl, rfl, rfl, trivial⟩
              refine WP.next ?_
              refine WP.condT rfl ?_
              refine WP.seq ?_
              refine WP.region [0, 1, 2] rfl ?_
              refine WP.val rfl rfl rfl rfl (Yld.buildS (pl := []) rfl ty_zr_23 ty_zd_23 (by kernel_rfl) rfl (vs := []) rfl (segs := []) rfl rfl (by repeat (first | exact SetSeg.nil | apply SetSeg.one | exact SetAt.zero | apply SetAt.succ))) ?_
              refine WP.loud rfl rfl ?_
              refine Op.storeAll rfl rfl ty_sz_23 rfl rfl rfl rfl (by repeat (first | exact Upd.head | apply Upd.tail | apply Upd.tailS)) rfl ?_
              refine WP.val rfl rfl rfl rfl (Yld.assign rfl rfl) ?_
              refine WP.nil ?_
              refine WP.sub [(2, _), (3, _), (4, _), (6, _), (12, _), (59, _), (73, _)] ?_ ⟨rfl, rfl, rfl, rfl, rfl, rfl, rfl, trivial⟩
              refine WP.next ?_
              refine WP.ret ?_
              refine WP.fin .ret (.inr rfl) (resT (rs := [.cell 2 23, .tmp 3]) (vs := [_, _]) rfl ⟨⟨_, _, _, _, rfl, (by repeat (first | exact There.h | exact There.i (by assumption) | apply There.t | apply There.s)), .inl ⟨ty_ag_23, by rfl, rfl⟩⟩, rfl, trivial⟩ rfl) L (by repeat (first | exact Take.nil | with_reducible apply Take.cons | apply Take.app | exact Rm.chunk | exact Rm.here | exact Rm.nil0 | apply Rm.skip | apply Rm.skipS | (focus (apply Take.all; (repeat (first | exact Rm.chunk | exact Rm.here | exact Rm.nil0 | apply Rm.skip | apply Rm.skipS)); done)) | apply Take.cons)) (by repeat (first | exact Leave.done | apply Leave.drop | apply Leave.dropS)) (Imm.le_trans hJ2 (Imm.le_trans hJ3 (Imm.le_trans hJ4 hJ5))) ?_
              have hsr := supR_ok he0 hf0
              have q := sup8_none (a := (x.read n 0 1).1) (b := (x.read n 4 1).1) (badE hg2) (badE hh)
              have ta := tagz_not (b := (x.read n 0 1).1) ha64 (j := i) h56 hia hna
              exact ⟨(by rw [hsr, q, ta]; rfl), rfl⟩
            · refine WP.val rfl rfl rfl rfl (Yld.move rfl rfl) ?_
              refine WP.valG rfl rfl rfl rfl rfl rfl rfl (Yld.move rfl rfl) ?_
              refine WP.valG rfl rfl rfl rfl rfl rfl rfl (Yld.move rfl rfl) ?_
              refine WP.valG rfl rfl rfl rfl rfl rfl rfl (Yld.indexAddr (i := i) rfl ty_sl_24 rfl rfl hib) ?_
              refine WP.valG rfl rfl rfl rfl rfl rfl rfl (Yld.loadC rfl ty_sc_5 rfl (There.i hbe) (by rw [Nat.mul_one]; exact ebe)) ?_
              refine WP.splitG rfl rfl rfl rfl rfl rfl rfl (Yld.neq rfl rfl rfl) (fun hnb => ?_) (fun hnb => ?_)
              · refine WP.val rfl rfl rfl rfl (Yld.pickF rfl rfl rfl) ?_
                refine WP.nil ?_
                refine WP.sub [(2, _), (4, _), (6, _), (12, _), (59, _), (73, _)] ?_ ⟨rfl, rfl, rfl, rfl, rfl, rfl, trivial⟩
                refine WP.next ?_
                refine WP.condT rfl ?_
                refine WP.seq ?_
                refine WP.region [0, 1, 2] rfl ?_
                refine WP.val rfl rfl rfl rfl (Yld.buildS (pl := []) rfl ty_zr_23 ty_zd_23 (by kernel_rfl) rfl (vs := []) rfl (segs := []) rfl rfl (by repeat (first | exact SetSeg.nil | apply SetSeg.one | exact SetAt.zero | apply SetAt.succ))) ?_
                refine WP.loud rfl rfl ?_
                refine Op.storeAll rfl rfl ty_sz_23 rfl rfl rfl rfl (by repeat (first | exact Upd.head | apply Upd.tail | apply Upd.tailS)) rfl ?_
                refine WP.val rfl rfl rfl rfl (Yld.assign rfl rfl) ?_
                refine WP.nil ?_
                refine WP.sub [(2, _), (3, _), (4, _), (6, _), (12, _), (59, _), (73, _)] ?_ ⟨rfl, rfl, rfl, rfl, rfl, rfl, rfl, trivial⟩
                refine WP.next ?_
                refine WP.ret ?_
                refine WP.fin .ret (.inr rfl) (resT (rs := [.cell 2 23, .tmp 3]) (vs := [_, _]) rfl ⟨⟨_, _, _, _, rfl, (by repeat (first | exact There.h | exact There.i (by assumption) | apply There.t | apply There.s)), .inl ⟨ty_ag_23, by rfl, rfl⟩⟩, rfl, trivial⟩ rfl) L (by repeat (first | exact Take.nil | with_reducible apply Take.cons | apply Take.app | exact Rm.chunk | exact Rm.here | exact Rm.nil0 | apply Rm.skip | apply Rm.skipS | (focus (apply Take.all; (repeat (first | exact Rm.chunk | exact Rm.here | exact Rm.nil0 | apply Rm.skip | apply Rm.skipS)); done)) | apply Take.cons)) (by repeat (first | exact Leave.done | apply Leave.drop | apply Leave.dropS)) (Imm.le_trans hJ2 (Imm.le_trans hJ3 (Imm.le_trans hJ4 hJ5))) ?_
                have hsr := supR_ok he0 hf0
                have q := sup8_none (a := (x.read n 0 1).1) (b := (x.read n 4 1).1) (badE hg2) (badE hh)
                have tb := tagz_not (b := (x.read n 4 1).1) hb64 (j := i) h56 hib hnb
                exact ⟨(by rw [hsr, q, tb, Bool.and_false]; rfl), rfl⟩
              · refine WP.val rfl rfl rfl rfl (Yld.pickF rfl rfl rfl) ?_
                refine WP.nil ?_
                refine WP.sub [(2, _), (4, _), (6, _), (12, _), (59, _), (73, _)] ?_ ⟨rfl, rfl, rfl, rfl, rfl, rfl, trivial⟩
                refine WP.next ?_
                refine WP.condF rfl ?_
                refine WP.skip ?_
                refine WP.leave ?_
                refine WP.next ?_
                refine WP.region [0, 1, 2] rfl ?_
                refine WP.val rfl rfl rfl rfl (Yld.move rfl rfl) ?_
                refine WP.val rfl rfl rfl rfl (Yld.add64 rfl rfl rfl (by omega)) ?_
                refine WP.val rfl rfl rfl rfl (Yld.assign rfl rfl) ?_
                refine WP.nil ?_
                refine WP.sub [(2, _), (4, _), (6, _), (12, _), (59, _), (73, _)] ?_ ⟨rfl, rfl, rfl, rfl, rfl, rfl, trivial⟩
                exact WP.again (i + 1) ⟨(show 56 ≤ i + 1 by omega), (show i + 1 ≤ 64 by omega), fun j h1 h2 => by rcases Nat.lt_succ_iff_lt_or_eq.1 h2 with h2 | rfl; exact hall j h1 h2; exact ⟨by rw [List.getElem?_eq_getElem hia]; exact congrArg some (UInt8.toNat_inj.1 (by show _ = 0; omega)), by rw [List.getElem?_eq_getElem hib]; exact congrArg some (UInt8.toNat_inj.1 (by show _ = 0; omega))⟩⟩ (show 64 - (i + 1) < 64 - i by omega) ⟨rfl, rfl, rfl, rfl, trivial⟩ rfl (by (try dsimp only); repeat (first | exact Rm.chunk | exact Rm.here | exact Rm.nil0 | apply Rm.skip | apply Rm.skipS | apply PX.cons | (apply PX.done; (repeat (first | exact Leave.done | apply Leave.drop | apply Leave.dropS)); done) | apply PX.app))
          · obtain rfl : i = 64 := by omega
            refine WP.nil ?_
            refine WP.sub [(2, _), (4, _), (6, _), (12, _), (59, _)] ?_ ⟨rfl, rfl, rfl, rfl, rfl, trivial⟩
            refine WP.next ?_
            refine WP.condF rfl ?_
            refine WP.exit ?_
            refine WP.thenE ?_
            refine WP.thenE ?_
            refine WP.hit ?_
            refine WP.next ?_
            refine WP.seq ?_
            refine WP.region [0, 1, 2] rfl ?_
            refine WP.val rfl rfl rfl rfl (Yld.buildS (pl := []) rfl ty_zr_23 ty_zd_23 (by kernel_rfl) rfl (vs := []) rfl (segs := []) rfl rfl (by repeat (first | exact SetSeg.nil | apply SetSeg.one | exact SetAt.zero | apply SetAt.succ))) ?_
            refine WP.loud rfl rfl ?_
            refine Op.storeAll rfl rfl ty_sz_23 rfl rfl rfl rfl (by repeat (first | exact Upd.head | apply Upd.tail | apply Upd.tailS)) rfl ?_
            refine WP.val rfl rfl rfl rfl (Yld.assign rfl rfl) ?_
            refine WP.nil ?_
            refine WP.sub [(2, _), (3, _), (4, _), (6, _), (12, _), (59, _)] ?_ ⟨rfl, rfl, rfl, rfl, rfl, rfl, trivial⟩
            refine WP.next ?_
            refine WP.ret ?_
            refine WP.fin .ret (.inr rfl) (resT (rs := [.cell 2 23, .tmp 3]) (vs := [_, _]) rfl ⟨⟨_, _, _, _, rfl, (by repeat (first | exact There.h | exact There.i (by assumption) | apply There.t | apply There.s)), .inl ⟨ty_ag_23, by rfl, rfl⟩⟩, rfl, trivial⟩ rfl) L (by repeat (first | exact Take.nil | with_reducible apply Take.cons | apply Take.app | exact Rm.chunk | exact Rm.here | exact Rm.nil0 | apply Rm.skip | apply Rm.skipS | (focus (apply Take.all; (repeat (first | exact Rm.chunk | exact Rm.here | exact Rm.nil0 | apply Rm.skip | apply Rm.skipS)); done)) | apply Take.cons)) (by repeat (first | exact Leave.done | apply Leave.drop | apply Leave.dropS)) (Imm.le_trans hJ2 (Imm.le_trans hJ3 (Imm.le_trans hJ4 hJ5))) ?_
            have hsr := supR_ok he0 hf0
            have q := sup8_none (a := (x.read n 0 1).1) (b := (x.read n 4 1).1) (badE hg2) (badE hh)
            have ta := tagz_all (b := (x.read n 0 1).1) (fun j h1 h2 => (hall j h1 (by omega)).1)
            have tb := tagz_all (b := (x.read n 4 1).1) (fun j h1 h2 => (hall j h1 (by omega)).2)
            exact ⟨(by rw [hsr, q, ta, tb]; rfl), rfl⟩


end Go.Hp
