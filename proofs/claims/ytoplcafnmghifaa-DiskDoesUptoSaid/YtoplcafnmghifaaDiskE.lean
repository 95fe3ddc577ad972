import Derived.Test.YtoplcafnmghifaaDiskD
set_option linter.unusedVariables false
set_option linter.unusedSimpArgs false
namespace Go.Hp
open Go Go.Proofs

/-- Write, from a buffer of one's own. -/
theorem disk_WriteO {I : Imm} {d n b c : Nat} {x : Dk} {L : Chunks} (hd : IsDisk d n x L) {at_ : Int} {bs : List UInt8} {sp : List Value} (hc : bs.length ≤ c) (hwb : x.waits.length + 8192 ≤ 1099511627776) (hbl : bs.length ≤ 1152921504606846976) :
    Spec Try.prog 21 [.pointer (some ⟨d, 0, none⟩), .int .i64 at_, .slice (some ⟨b, 0, none⟩) bs.length c] I ((b, row 5 (bytesV bs ++ sp)) :: L) (fun v J L' => I = J ∧ ∃ L1, L' = (b, row 5 (bytesV bs ++ sp)) :: L1 ∧ v = .int .i64 (x.write n at_ bs).2 ∧ IsDisk d n (x.write n at_ bs).1 L1) :=
  Spec.lend (R := fun v _ L1 => v = .int .i64 (x.write n at_ bs).2 ∧ IsDisk d n (x.write n at_ bs).1 L1) fun J hJ hb => (disk_Write hd (Im_lit hb hc) hwb hbl).mono (by rintro v J' L' _ ⟨h1, h2, h3⟩; exact ⟨h2, h1, h3⟩)
theorem disk_Up0 {I : Imm} {d n : Nat} {x : Dk} {L : Chunks} (hd : IsDisk d n x L) (hwb : x.waits.length ≤ 1099511627776) : Spec Try.prog 25 [.pointer (some ⟨d, 0, none⟩), .slice none 0 0] I L (fun v' J L' => v' = .tuple #[] ∧ I = J ∧ IsDisk d n (x.up []) L') :=
  disk_Up (ks := []) hd ⟨none, 0, rfl, Nat.le_refl _, rfl, .inl rfl⟩ hwb
/-- The first chapter's disk. -/
def aw0 : List UInt8 := (List.replicate 64 (0 : UInt8)).set 0 7
def aw1 : Dk := ((Dk.new 4).write 4 1 aw0).1
def aw2 : Dk := aw1.sync
def aw3 : Dk := (aw2.write 4 2 aw0).1
def aw4 : Dk := aw3.up []
theorem aw_facts : ((Dk.new 4).write 4 1 aw0).2 = 0 ∧ aw1.off = false ∧ (aw2.write 4 2 aw0).2 = 0 ∧ aw3.waits.length = 1 ∧ (aw4.read 4 1 2).2 = 0 ∧ (aw4.read 4 1 2).1.length = 128 ∧ (aw4.read 4 1 2).1[0]? = some 7 ∧ (aw4.read 4 1 2).1[64]? = some 0 ∧ aw4.writes = 2 ∧ aw4.syncs = 1 ∧ aw1.waits.length = 1 ∧ aw2.waits.length = 0 := by decide +kernel
theorem disk_awake (I : Imm) : Spec Try.prog 19 [] I [] (fun v J L => v = .bool true ∧ I = J ∧ L = []) := by
  refine Spec.of Try.func19 rfl Try.ntmps19 (Nat.le_of_ble_eq_true rfl) (fun F => ?_)
  try simp only [List.cons_append, List.nil_append, List.append_assoc]
  dsimp only [argsEnv]
  refine WP.seq ?_
  refine WP.region [0] rfl ?_
  refine WP.val rfl rfl rfl rfl (Yld.assign rfl rfl) ?_
  refine WP.nil ?_
  refine WP.next ?_
  refine WP.seq ?_
  refine WP.region [0, 1, 2, 3, 4, 5] rfl ?_
  refine WP.loud rfl rfl ?_
  refine Op.call (disk_New (n := 4) (by decide) (by decide)) rfl Try.func20 rfl rfl rfl rfl (by repeat (first | exact Take.nil | apply Take.cons | apply Take.app | exact Rm.chunk | exact Rm.here | apply Rm.skip | apply Rm.skipS | apply Take.all)) ?_
  rintro v J L1 hJ ⟨rfl, d, rfl, hd⟩
  clear hJ; try simp only [List.cons_append, List.nil_append, List.append_assoc]
  refine WP.val rfl rfl rfl rfl (Yld.move rfl rfl) ?_
  refine WP.val rfl rfl rfl rfl (Yld.extract rfl rfl rfl) ?_
  refine WP.val rfl rfl rfl rfl (Yld.extract rfl rfl rfl) ?_
  refine WP.val rfl rfl rfl rfl (Yld.assign rfl rfl) ?_
  refine WP.val rfl rfl rfl rfl (Yld.assign rfl rfl) ?_
  refine WP.nil ?_
  refine WP.sub [(0, _), (1, _), (2, _)] ?_ ⟨rfl, rfl, rfl, trivial⟩
  refine WP.next ?_
  refine WP.seq ?_
  refine WP.seq ?_
  refine WP.region [0, 1, 2, 3, 4, 5, 6, 7, 8, 9, 10, 11, 12, 13, 14, 15] rfl ?_
  refine WP.val rfl rfl rfl rfl (Yld.move rfl rfl) ?_
  refine WP.val rfl rfl rfl rfl (Yld.eqlNil rfl ty_pt_46 rfl rfl) ?_
  refine WP.val rfl rfl rfl rfl (Yld.move rfl rfl) ?_
  refine WP.valG rfl rfl rfl rfl rfl rfl rfl (Yld.move rfl rfl) ?_
  refine WP.valG rfl rfl rfl rfl rfl rfl rfl (Yld.neq rfl rfl rfl false (decide_eq_false (by decide))) ?_
  refine WP.val rfl rfl rfl rfl (Yld.pickF rfl rfl rfl) ?_
  refine WP.val rfl rfl rfl rfl (Yld.move rfl rfl) ?_
  refine WP.valG rfl rfl rfl rfl rfl rfl rfl (Yld.move rfl rfl) ?_
  refine WP.loudG rfl rfl rfl rfl rfl ?_
  refine Op.call (disk_Sectors hd) rfl Try.func31 rfl rfl rfl rfl (by repeat (first | exact Take.nil | apply Take.cons | apply Take.app | exact Rm.chunk | exact Rm.here | apply Rm.skip | apply Rm.skipS | apply Take.all)) ?_
  rintro v J L1 hJ ⟨rfl, rfl, rfl⟩
  clear hJ; try simp only [List.cons_append, List.nil_append, List.append_assoc]
  refine WP.valG rfl rfl rfl rfl rfl rfl rfl (Yld.neq rfl rfl rfl false (decide_eq_false (by decide))) ?_
  refine WP.val rfl rfl rfl rfl (Yld.pickF rfl rfl rfl) ?_
  refine WP.val rfl rfl rfl rfl (Yld.move rfl rfl) ?_
  refine WP.valG rfl rfl rfl rfl rfl rfl rfl (Yld.move rfl rfl) ?_
  refine WP.loudG rfl rfl rfl rfl rfl ?_
  refine Op.call (disk_On hd) rfl Try.func28 rfl rfl rfl rfl (by repeat (first | exact Take.nil | apply Take.cons | apply Take.app | exact Rm.chunk | exact Rm.here | apply Rm.skip | apply Rm.skipS | apply Take.all)) ?_
  rintro v J L1 hJ ⟨rfl, rfl, rfl⟩
  clear hJ; try simp only [List.cons_append, List.nil_append, List.append_assoc]
  refine WP.valG rfl rfl rfl rfl rfl rfl rfl (Yld.not rfl rfl) ?_
  refine WP.val rfl rfl rfl rfl (Yld.pickF rfl rfl rfl) ?_
  refine WP.nil ?_
  refine WP.sub [(0, _), (1, _), (2, _), (29, _)] ?_ ⟨rfl, rfl, rfl, rfl, trivial⟩
  refine WP.next ?_
  refine WP.condF rfl ?_
  refine WP.skip ?_
  refine WP.next ?_
  refine WP.seq ?_
  refine WP.region [0, 1] rfl ?_
  refine WP.loud rfl rfl ?_
  refine Op.make (l := 64) (c := 64) rfl ty_sl_51 ty_el_51 rfl rfl rfl rfl rfl (Nat.le_refl _) (by decide) (by decide) (fun bb => ?_)
  rw [bytes0]
  refine WP.val rfl rfl rfl rfl (Yld.assign rfl rfl) ?_
  refine WP.nil ?_
  refine WP.sub [(0, _), (1, _), (2, _), (3, _), (29, _)] ?_ ⟨rfl, rfl, rfl, rfl, rfl, trivial⟩
  refine WP.next ?_
  refine WP.seq ?_
  refine WP.region [0, 1, 2] rfl ?_
  refine WP.val rfl rfl rfl rfl (Yld.move rfl rfl) ?_
  refine WP.val rfl rfl rfl rfl (Yld.indexAddr (i := 0) rfl ty_sl_51 rfl rfl (by decide)) ?_
  refine WP.loud rfl rfl ?_
  refine Op.store1 rfl rfl ty_sz_5 rfl rfl rfl (by repeat (first | exact Upd.head | apply Upd.tail | apply Upd.tailS)) (set_byte (l := List.replicate 64 0) (k := 0) 7 (by decide)) ?_
  rw [show (bytesV ((List.replicate 64 (0 : UInt8)).set 0 7)) = bytesV aw0 ++ [] from (List.append_nil _).symm]
  refine WP.nil ?_
  refine WP.sub [(0, _), (1, _), (2, _), (3, _), (29, _)] ?_ ⟨rfl, rfl, rfl, rfl, rfl, trivial⟩
  refine WP.next ?_
  refine WP.seq ?_
  refine WP.region [0, 1, 2, 3] rfl ?_
  refine WP.val rfl rfl rfl rfl (Yld.move rfl rfl) ?_
  refine WP.val rfl rfl rfl rfl (Yld.move rfl rfl) ?_
  refine WP.loud rfl rfl ?_
  refine Op.call (disk_WriteO (bs := aw0) (sp := []) (b := bb) (c := 64) hd (by decide) (by decide) (by decide)) rfl Try.func21 rfl rfl rfl rfl (by repeat (first | exact Take.nil | apply Take.cons | apply Take.app | exact Rm.chunk | exact Rm.here | apply Rm.skip | apply Rm.skipS | apply Take.all)) ?_
  rintro v J L1 hJ ⟨rfl, L1, rfl, rfl, hd⟩
  clear hJ; try simp only [List.cons_append, List.nil_append, List.append_assoc]
  try simp only [List.cons_append, List.nil_append, List.append_assoc]
  rw [aw_facts.1]
  have hd : IsDisk d 4 aw1 L1 := hd
  refine WP.val rfl rfl rfl rfl (Yld.assign rfl rfl) ?_
  refine WP.nil ?_
  refine WP.sub [(0, _), (1, _), (2, _), (3, _), (4, _), (29, _)] ?_ ⟨rfl, rfl, rfl, rfl, rfl, rfl, trivial⟩
  refine WP.next ?_
  refine WP.seq ?_
  refine WP.region [0, 1, 2] rfl ?_
  refine WP.val rfl rfl rfl rfl (Yld.move rfl rfl) ?_
  refine WP.loud rfl rfl ?_
  refine Op.call (disk_Sync hd) rfl Try.func22 rfl rfl rfl rfl (by repeat (first | exact Take.nil | apply Take.cons | apply Take.app | exact Rm.chunk | exact Rm.here | apply Rm.skip | apply Rm.skipS | apply Take.all)) ?_
  rintro v J L1 hJ ⟨rfl, rfl, hd⟩
  clear hJ; try simp only [List.cons_append, List.nil_append, List.append_assoc]
  have hd : IsDisk d 4 aw2 _ := hd
  rw [aw_facts.2.1, if_neg Bool.false_ne_true]
  refine WP.val rfl rfl rfl rfl (Yld.assign rfl rfl) ?_
  refine WP.nil ?_
  refine WP.sub [(0, _), (1, _), (2, _), (3, _), (4, _), (5, _), (29, _)] ?_ ⟨rfl, rfl, rfl, rfl, rfl, rfl, rfl, trivial⟩
  refine WP.next ?_
  refine WP.seq ?_
  refine WP.region [0, 1, 2, 3] rfl ?_
  refine WP.val rfl rfl rfl rfl (Yld.move rfl rfl) ?_
  refine WP.val rfl rfl rfl rfl (Yld.move rfl rfl) ?_
  refine WP.loud rfl rfl ?_
  refine Op.call (disk_WriteO (bs := aw0) (sp := []) (b := bb) (c := 64) hd (by decide) (by rw [aw_facts.2.2.2.2.2.2.2.2.2.2.2]; decide) (by decide)) rfl Try.func21 rfl rfl rfl rfl (by repeat (first | exact Take.nil | apply Take.cons | apply Take.app | exact Rm.chunk | exact Rm.here | apply Rm.skip | apply Rm.skipS | apply Take.all)) ?_
  rintro v J L1 hJ ⟨rfl, L1, rfl, rfl, hd⟩
  clear hJ; try simp only [List.cons_append, List.nil_append, List.append_assoc]
  try simp only [List.cons_append, List.nil_append, List.append_assoc]
  rw [aw_facts.2.2.1]
  have hd : IsDisk d 4 aw3 L1 := hd
  refine WP.val rfl rfl rfl rfl (Yld.assign rfl rfl) ?_
  refine WP.nil ?_
  refine WP.sub [(0, _), (1, _), (2, _), (3, _), (4, _), (5, _), (6, _), (29, _)] ?_ ⟨rfl, rfl, rfl, rfl, rfl, rfl, rfl, rfl, trivial⟩
  refine WP.next ?_
  refine WP.seq ?_
  refine WP.region [0, 1, 2] rfl ?_
  refine WP.val rfl rfl rfl rfl (Yld.move rfl rfl) ?_
  refine WP.loud rfl rfl ?_
  refine Op.call (disk_Waiting hd) rfl Try.func24 rfl rfl rfl rfl (by repeat (first | exact Take.nil | apply Take.cons | apply Take.app | exact Rm.chunk | exact Rm.here | apply Rm.skip | apply Rm.skipS | apply Take.all)) ?_
  rintro v J L1 hJ ⟨rfl, rfl, rfl⟩
  clear hJ; try simp only [List.cons_append, List.nil_append, List.append_assoc]
  refine WP.val rfl rfl rfl rfl (Yld.assign rfl rfl) ?_
  refine WP.nil ?_
  refine WP.sub [(0, _), (1, _), (2, _), (3, _), (4, _), (5, _), (6, _), (7, _), (29, _)] ?_ ⟨rfl, rfl, rfl, rfl, rfl, rfl, rfl, rfl, rfl, trivial⟩
  refine WP.next ?_
  refine WP.seq ?_
  refine WP.region [0, 1] rfl ?_
  refine WP.val rfl rfl rfl rfl (Yld.move rfl rfl) ?_
  refine WP.loud rfl rfl ?_
  refine Op.call (disk_Up0 hd (by rw [aw_facts.2.2.2.1]; decide)) rfl Try.func25 rfl rfl rfl rfl (by repeat (first | exact Take.nil | apply Take.cons | apply Take.app | exact Rm.chunk | exact Rm.here | apply Rm.skip | apply Rm.skipS | apply Take.all)) ?_
  rintro v J L1 hJ ⟨rfl, rfl, hd⟩
  clear hJ; try simp only [List.cons_append, List.nil_append, List.append_assoc]
  have hd : IsDisk d 4 aw4 _ := hd
  refine WP.nil ?_
  refine WP.sub [(0, _), (1, _), (2, _), (3, _), (4, _), (5, _), (6, _), (7, _), (29, _)] ?_ ⟨rfl, rfl, rfl, rfl, rfl, rfl, rfl, rfl, rfl, trivial⟩
  refine WP.next ?_
  refine WP.seq ?_
  refine WP.region [0, 1, 2, 3, 4, 5, 6] rfl ?_
  refine WP.val rfl rfl rfl rfl (Yld.move rfl rfl) ?_
  refine WP.loud rfl rfl ?_
  refine Op.call (disk_Read hd) rfl Try.func23 rfl rfl rfl rfl (by repeat (first | exact Take.nil | apply Take.cons | apply Take.app | exact Rm.chunk | exact Rm.here | apply Rm.skip | apply Rm.skipS | apply Take.all)) ?_
  rintro v J L1 hJ ⟨rfl, vr, Lr, rfl, hro, rfl⟩
  clear hJ; try simp only [List.cons_append, List.nil_append, List.append_assoc]
  obtain ⟨br, cr, spr, rfl, rfl, hr1, hr2⟩ := hro.get (by rw [aw_facts.2.2.2.2.2.1]; decide)
  try simp only [List.cons_append, List.nil_append, List.append_assoc]
  refine WP.val rfl rfl rfl rfl (Yld.move rfl rfl) ?_
  refine WP.val rfl rfl rfl rfl (Yld.extract rfl rfl rfl) ?_
  refine WP.val rfl rfl rfl rfl (Yld.extract rfl rfl rfl) ?_
  refine WP.val rfl rfl rfl rfl (Yld.assign rfl rfl) ?_
  refine WP.val rfl rfl rfl rfl (Yld.assign rfl rfl) ?_
  refine WP.nil ?_
  refine WP.sub [(0, _), (1, _), (2, _), (3, _), (4, _), (5, _), (6, _), (7, _), (8, _), (9, _), (29, _)] ?_ ⟨rfl, rfl, rfl, rfl, rfl, rfl, rfl, rfl, rfl, rfl, rfl, trivial⟩
  refine WP.next ?_
  refine WP.seq ?_
  refine WP.seq ?_
  refine WP.region [0, 1, 2, 3, 4, 5, 6, 7, 8, 9, 10, 11, 12, 13, 14, 15, 16, 17, 18, 19, 20, 21, 22] rfl ?_
  refine WP.val rfl rfl rfl rfl (Yld.move rfl rfl) ?_
  refine WP.val rfl rfl rfl rfl (Yld.neq rfl rfl rfl false (decide_eq_false (by decide))) ?_
  refine WP.val rfl rfl rfl rfl (Yld.move rfl rfl) ?_
  refine WP.valG rfl rfl rfl rfl rfl rfl rfl (Yld.move rfl rfl) ?_
  refine WP.valG rfl rfl rfl rfl rfl rfl rfl (Yld.neq rfl rfl rfl false (decide_eq_false (by decide))) ?_
  refine WP.val rfl rfl rfl rfl (Yld.pickF rfl rfl rfl) ?_
  refine WP.val rfl rfl rfl rfl (Yld.move rfl rfl) ?_
  refine WP.valG rfl rfl rfl rfl rfl rfl rfl (Yld.move rfl rfl) ?_
  refine WP.valG rfl rfl rfl rfl rfl rfl rfl (Yld.neq rfl rfl rfl false (decide_eq_false (by decide))) ?_
  refine WP.val rfl rfl rfl rfl (Yld.pickF rfl rfl rfl) ?_
  refine WP.val rfl rfl rfl rfl (Yld.move rfl rfl) ?_
  refine WP.valG rfl rfl rfl rfl rfl rfl rfl (Yld.move rfl rfl) ?_
  refine WP.valG rfl rfl rfl rfl rfl rfl rfl (Yld.neq rfl rfl rfl false (decide_eq_false (by simp [aw_facts.2.2.2.2.1]))) ?_
  refine WP.val rfl rfl rfl rfl (Yld.pickF rfl rfl rfl) ?_
  refine WP.val rfl rfl rfl rfl (Yld.move rfl rfl) ?_
  refine WP.valG rfl rfl rfl rfl rfl rfl rfl (Yld.move rfl rfl) ?_
  refine WP.valG rfl rfl rfl rfl rfl rfl rfl (Yld.neq rfl rfl rfl false (decide_eq_false (by simp [aw_facts.2.2.2.1]))) ?_
  refine WP.val rfl rfl rfl rfl (Yld.pickF rfl rfl rfl) ?_
  refine WP.val rfl rfl rfl rfl (Yld.move rfl rfl) ?_
  refine WP.valG rfl rfl rfl rfl rfl rfl rfl (Yld.move rfl rfl) ?_
  refine WP.valG rfl rfl rfl rfl rfl rfl rfl (Yld.len rfl ty_sl_51 rfl) ?_
  refine WP.valG rfl rfl rfl rfl rfl rfl rfl (Yld.neq rfl rfl rfl false (decide_eq_false (by simp [aw_facts.2.2.2.2.2.1]))) ?_
  refine WP.val rfl rfl rfl rfl (Yld.pickF rfl rfl rfl) ?_
  refine WP.nil ?_
  refine WP.sub [(0, _), (1, _), (2, _), (3, _), (4, _), (5, _), (6, _), (7, _), (8, _), (9, _), (29, _), (72, _)] ?_ ⟨rfl, rfl, rfl, rfl, rfl, rfl, rfl, rfl, rfl, rfl, rfl, rfl, trivial⟩
  refine WP.next ?_
  refine WP.condF rfl ?_
  refine WP.skip ?_
  refine WP.next ?_
  refine WP.seq ?_
  refine WP.region [0, 1, 2, 3, 4, 5, 6, 7, 8, 9, 10, 11, 12, 13, 14, 15, 16, 17, 18, 19, 20] rfl ?_
  refine WP.val rfl rfl rfl rfl (Yld.move rfl rfl) ?_
  refine WP.val rfl rfl rfl rfl (Yld.indexAddr (i := 0) rfl ty_sl_51 rfl rfl (by rw [aw_facts.2.2.2.2.2.1]; decide)) ?_
  refine WP.val rfl rfl rfl rfl (Yld.load rfl ty_sc_5 rfl (by repeat (first | exact There.h | exact There.i (by assumption) | apply There.t | apply There.s)) (byte_at (k := 0) (by rw [aw_facts.2.2.2.2.2.1]; decide) spr)) ?_
  refine WP.val rfl rfl rfl rfl (Yld.eql rfl rfl rfl true (decide_eq_true (by rw [(List.getElem?_eq_some_iff.1 aw_facts.2.2.2.2.2.2.1).2]; rfl))) ?_
  refine WP.val rfl rfl rfl rfl (Yld.move rfl rfl) ?_
  refine WP.valG rfl rfl rfl rfl rfl rfl rfl (Yld.move rfl rfl) ?_
  refine WP.valG rfl rfl rfl rfl rfl rfl rfl (Yld.indexAddr (i := 64) rfl ty_sl_51 rfl rfl (by rw [aw_facts.2.2.2.2.2.1]; decide)) ?_
  refine WP.valG rfl rfl rfl rfl rfl rfl rfl (Yld.load rfl ty_sc_5 rfl (by repeat (first | exact There.h | exact There.i (by assumption) | apply There.t | apply There.s)) (byte_at (k := 64) (by rw [aw_facts.2.2.2.2.2.1]; decide) spr)) ?_
  refine WP.valG rfl rfl rfl rfl rfl rfl rfl (Yld.eql rfl rfl rfl true (decide_eq_true (by rw [(List.getElem?_eq_some_iff.1 aw_facts.2.2.2.2.2.2.2.1).2]; rfl))) ?_
  refine WP.val rfl rfl rfl rfl (Yld.pickT rfl rfl rfl) ?_
  refine WP.val rfl rfl rfl rfl (Yld.move rfl rfl) ?_
  refine WP.valG rfl rfl rfl rfl rfl rfl rfl (Yld.move rfl rfl) ?_
  refine WP.loudG rfl rfl rfl rfl rfl ?_
  refine Op.call (disk_Writes hd) rfl Try.func29 rfl rfl rfl rfl (by repeat (first | exact Take.nil | apply Take.cons | apply Take.app | exact Rm.chunk | exact Rm.here | apply Rm.skip | apply Rm.skipS | apply Take.all)) ?_
  rintro v J L1 hJ ⟨rfl, rfl, rfl⟩
  clear hJ; try simp only [List.cons_append, List.nil_append, List.append_assoc]
  refine WP.valG rfl rfl rfl rfl rfl rfl rfl (Yld.eql rfl rfl rfl true (decide_eq_true (by exact aw_facts.2.2.2.2.2.2.2.2.1))) ?_
  refine WP.val rfl rfl rfl rfl (Yld.pickT rfl rfl rfl) ?_
  refine WP.val rfl rfl rfl rfl (Yld.move rfl rfl) ?_
  refine WP.valG rfl rfl rfl rfl rfl rfl rfl (Yld.move rfl rfl) ?_
  refine WP.loudG rfl rfl rfl rfl rfl ?_
  refine Op.call (disk_Syncs hd) rfl Try.func30 rfl rfl rfl rfl (by repeat (first | exact Take.nil | apply Take.cons | apply Take.app | exact Rm.chunk | exact Rm.here | apply Rm.skip | apply Rm.skipS | apply Take.all)) ?_
  rintro v J L1 hJ ⟨rfl, rfl, rfl⟩
  clear hJ; try simp only [List.cons_append, List.nil_append, List.append_assoc]
  refine WP.valG rfl rfl rfl rfl rfl rfl rfl (Yld.eql rfl rfl rfl true (decide_eq_true (by exact aw_facts.2.2.2.2.2.2.2.2.2.1))) ?_
  refine WP.val rfl rfl rfl rfl (Yld.pickT rfl rfl rfl) ?_
  refine WP.val rfl rfl rfl rfl (Yld.assign rfl rfl) ?_
  refine WP.nil ?_
  refine WP.sub [(0, _), (1, _), (2, _), (3, _), (4, _), (5, _), (6, _), (7, _), (8, _), (9, _), (29, _), (72, _)] ?_ ⟨rfl, rfl, rfl, rfl, rfl, rfl, rfl, rfl, rfl, rfl, rfl, rfl, trivial⟩
  refine WP.next ?_
  refine WP.ret ?_
  refine WP.fin .ret (.inr rfl) (res1 rfl rfl) [] (by repeat (first | exact Take.nil | apply Take.cons | apply Take.app | exact Rm.chunk | exact Rm.here | apply Rm.skip | apply Rm.skipS | apply Take.all)) (by repeat (first | exact Leave.done | apply Leave.drop | apply Leave.dropS)) (Imm.le_refl _) ?_
  exact ⟨rfl, rfl, rfl⟩


end Go.Hp
