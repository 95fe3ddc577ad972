import Derived.Test.YtoplcafnmghifaaCell
import Derived.Test.YtoplcafnmghifaaHpMore
set_option linter.unusedVariables false
set_option linter.unusedSimpArgs false
namespace Go.Hp
open Go Go.Proofs
theorem cell_awake (I : Imm) : Spec Try.prog 11 [] I [] (fun v J L => v = .bool true ∧ I = J ∧ L = []) := by
  refine Spec.of Try.func11 rfl Try.ntmps11 (Nat.le_of_ble_eq_true rfl) (fun F => ?_)
  try simp only [List.cons_append, List.nil_append, List.append_assoc]
  dsimp only [argsEnv]
  refine WP.seq ?_
  refine WP.region [0] rfl ?_
  refine WP.val rfl rfl rfl rfl (Yld.assign rfl rfl) ?_
  refine WP.nil ?_
  refine WP.next ?_
  refine WP.seq ?_
  refine WP.region [0, 1] rfl ?_
  refine WP.loud rfl rfl ?_
  refine Op.call (cell_NewCount _) rfl Try.func12 rfl rfl rfl rfl (by repeat (first | exact Take.nil | apply Take.cons | apply Take.app | exact Rm.chunk | exact Rm.here | apply Rm.skip | apply Rm.skipS | apply Take.all)) ?_
  rintro v J L1 hJ ⟨c, rfl, rfl, rfl⟩
  clear hJ; try simp only [List.cons_append, List.nil_append, List.append_assoc]
  refine WP.val rfl rfl rfl rfl (Yld.assign rfl rfl) ?_
  refine WP.nil ?_
  refine WP.sub [(0, _), (1, _)] ?_ ⟨rfl, rfl, trivial⟩
  refine WP.next ?_
  refine WP.seq ?_
  refine WP.region [0, 1, 2] rfl ?_
  refine WP.val rfl rfl rfl rfl (Yld.move rfl rfl) ?_
  refine WP.loud rfl rfl ?_
  refine Op.call (cell_NewInt (o := default)) rfl Try.func13 rfl rfl rfl rfl (by repeat (first | exact Take.nil | apply Take.cons | apply Take.app | exact Rm.chunk | exact Rm.here | apply Rm.skip | apply Rm.skipS | apply Take.all)) ?_
  rintro v J L1 hJ ⟨x, rfl, rfl, rfl⟩
  clear hJ; try simp only [List.cons_append, List.nil_append, List.append_assoc]
  refine WP.val rfl rfl rfl rfl (Yld.assign rfl rfl) ?_
  refine WP.nil ?_
  refine WP.sub [(0, _), (1, _), (2, _)] ?_ ⟨rfl, rfl, rfl, trivial⟩
  refine WP.next ?_
  refine WP.seq ?_
  refine WP.seq ?_
  refine WP.region [0, 1, 2, 3, 4, 5] rfl ?_
  refine WP.val rfl rfl rfl rfl (Yld.move rfl rfl) ?_
  refine WP.val rfl rfl rfl rfl (Yld.eqlNil rfl ty_pt_24 rfl rfl) ?_
  refine WP.val rfl rfl rfl rfl (Yld.move rfl rfl) ?_
  refine WP.valG rfl rfl rfl rfl rfl rfl rfl (Yld.move rfl rfl) ?_
  refine WP.valG rfl rfl rfl rfl rfl rfl rfl (Yld.eqlNil rfl ty_pt_26 rfl rfl) ?_
  refine WP.val rfl rfl rfl rfl (Yld.pickF rfl rfl rfl) ?_
  refine WP.nil ?_
  refine WP.sub [(0, _), (1, _), (2, _), (15, _)] ?_ ⟨rfl, rfl, rfl, rfl, trivial⟩
  refine WP.next ?_
  refine WP.condF rfl ?_
  refine WP.skip ?_
  refine WP.next ?_
  refine WP.seq ?_
  refine WP.region [0, 1, 2] rfl ?_
  refine WP.val rfl rfl rfl rfl (Yld.move rfl rfl) ?_
  refine WP.loud rfl rfl ?_
  refine Op.call cell_Load rfl Try.func14 rfl rfl rfl rfl (by repeat (first | exact Take.nil | apply Take.cons | apply Take.app | exact Rm.chunk | exact Rm.here | apply Rm.skip | apply Rm.skipS | apply Take.all)) ?_
  rintro v J L1 hJ ⟨rfl, rfl, rfl⟩
  clear hJ; try simp only [List.cons_append, List.nil_append, List.append_assoc]
  refine WP.val rfl rfl rfl rfl (Yld.assign rfl rfl) ?_
  refine WP.nil ?_
  refine WP.sub [(0, _), (1, _), (2, _), (3, _), (15, _)] ?_ ⟨rfl, rfl, rfl, rfl, rfl, trivial⟩
  refine WP.next ?_
  refine WP.seq ?_
  refine WP.region [0, 1, 2] rfl ?_
  refine WP.val rfl rfl rfl rfl (Yld.move rfl rfl) ?_
  refine WP.loud rfl rfl ?_
  refine Op.call cell_CAS_hit rfl Try.func15 rfl rfl rfl rfl (by repeat (first | exact Take.nil | apply Take.cons | apply Take.app | exact Rm.chunk | exact Rm.here | apply Rm.skip | apply Rm.skipS | apply Take.all)) ?_
  rintro v J L1 hJ ⟨rfl, rfl, rfl⟩
  clear hJ; try simp only [List.cons_append, List.nil_append, List.append_assoc]
  refine WP.val rfl rfl rfl rfl (Yld.assign rfl rfl) ?_
  refine WP.nil ?_
  refine WP.sub [(0, _), (1, _), (2, _), (3, _), (4, _), (15, _)] ?_ ⟨rfl, rfl, rfl, rfl, rfl, rfl, trivial⟩
  refine WP.next ?_
  refine WP.seq ?_
  refine WP.region [0, 1, 2] rfl ?_
  refine WP.val rfl rfl rfl rfl (Yld.move rfl rfl) ?_
  refine WP.loud rfl rfl ?_
  refine Op.call (cell_CAS_miss (v := 7) (z := 5) (by decide)) rfl Try.func15 rfl rfl rfl rfl (by repeat (first | exact Take.nil | apply Take.cons | apply Take.app | exact Rm.chunk | exact Rm.here | apply Rm.skip | apply Rm.skipS | apply Take.all)) ?_
  rintro v J L1 hJ ⟨rfl, rfl, rfl⟩
  clear hJ; try simp only [List.cons_append, List.nil_append, List.append_assoc]
  refine WP.val rfl rfl rfl rfl (Yld.assign rfl rfl) ?_
  refine WP.nil ?_
  refine WP.sub [(0, _), (1, _), (2, _), (3, _), (4, _), (5, _), (15, _)] ?_ ⟨rfl, rfl, rfl, rfl, rfl, rfl, rfl, trivial⟩
  refine WP.next ?_
  refine WP.seq ?_
  refine WP.region [0, 1, 2] rfl ?_
  refine WP.val rfl rfl rfl rfl (Yld.move rfl rfl) ?_
  refine WP.loud rfl rfl ?_
  refine Op.call cell_Add rfl Try.func35 rfl rfl rfl rfl (by repeat (first | exact Take.nil | apply Take.cons | apply Take.app | exact Rm.chunk | exact Rm.here | apply Rm.skip | apply Rm.skipS | apply Take.all)) ?_
  rintro v J L1 hJ ⟨rfl, rfl, rfl⟩
  clear hJ; try simp only [List.cons_append, List.nil_append, List.append_assoc]
  refine WP.val rfl rfl rfl rfl (Yld.assign rfl rfl) ?_
  refine WP.nil ?_
  refine WP.sub [(0, _), (1, _), (2, _), (3, _), (4, _), (5, _), (6, _), (15, _)] ?_ ⟨rfl, rfl, rfl, rfl, rfl, rfl, rfl, rfl, trivial⟩
  refine WP.next ?_
  refine WP.seq ?_
  refine WP.region [0, 1, 2, 3, 4, 5, 6, 7, 8, 9, 10, 11, 12, 13, 14, 15, 16, 17, 18, 19, 20, 21, 22, 23, 24] rfl ?_
  refine WP.val rfl rfl rfl rfl (Yld.move rfl rfl) ?_
  refine WP.val rfl rfl rfl rfl (Yld.eql rfl rfl rfl true (decide_eq_true (by rfl))) ?_
  refine WP.val rfl rfl rfl rfl (Yld.move rfl rfl) ?_
  refine WP.valG rfl rfl rfl rfl rfl rfl rfl (Yld.move rfl rfl) ?_
  refine WP.val rfl rfl rfl rfl (Yld.pickT rfl rfl rfl) ?_
  refine WP.val rfl rfl rfl rfl (Yld.move rfl rfl) ?_
  refine WP.valG rfl rfl rfl rfl rfl rfl rfl (Yld.move rfl rfl) ?_
  refine WP.valG rfl rfl rfl rfl rfl rfl rfl (Yld.not rfl rfl) ?_
  refine WP.val rfl rfl rfl rfl (Yld.pickT rfl rfl rfl) ?_
  refine WP.val rfl rfl rfl rfl (Yld.move rfl rfl) ?_
  refine WP.valG rfl rfl rfl rfl rfl rfl rfl (Yld.move rfl rfl) ?_
  refine WP.valG rfl rfl rfl rfl rfl rfl rfl (Yld.eql rfl rfl rfl true (decide_eq_true (by decide))) ?_
  refine WP.val rfl rfl rfl rfl (Yld.pickT rfl rfl rfl) ?_
  refine WP.val rfl rfl rfl rfl (Yld.move rfl rfl) ?_
  refine WP.valG rfl rfl rfl rfl rfl rfl rfl (Yld.move rfl rfl) ?_
  refine WP.loudG rfl rfl rfl rfl rfl ?_
  refine Op.call cell_Load rfl Try.func14 rfl rfl rfl rfl (by repeat (first | exact Take.nil | apply Take.cons | apply Take.app | exact Rm.chunk | exact Rm.here | apply Rm.skip | apply Rm.skipS | apply Take.all)) ?_
  rintro v J L1 hJ ⟨rfl, rfl, rfl⟩
  clear hJ; try simp only [List.cons_append, List.nil_append, List.append_assoc]
  refine WP.valG rfl rfl rfl rfl rfl rfl rfl (Yld.eql rfl rfl rfl true (decide_eq_true (by decide))) ?_
  refine WP.val rfl rfl rfl rfl (Yld.pickT rfl rfl rfl) ?_
  refine WP.val rfl rfl rfl rfl (Yld.move rfl rfl) ?_
  refine WP.valG rfl rfl rfl rfl rfl rfl rfl (Yld.move rfl rfl) ?_
  refine WP.loudG rfl rfl rfl rfl rfl ?_
  refine Op.call cell_Tally rfl Try.func16 rfl rfl rfl rfl (by repeat (first | exact Take.nil | apply Take.cons | apply Take.app | exact Rm.chunk | exact Rm.here | apply Rm.skip | apply Rm.skipS | apply Take.all)) ?_
  rintro v J L1 hJ ⟨rfl, rfl, rfl⟩
  clear hJ; try simp only [List.cons_append, List.nil_append, List.append_assoc]
  refine WP.valG rfl rfl rfl rfl rfl rfl rfl (Yld.buildS (pl := [(0, 0, 1), (2, 2, 1), (3, 3, 1), (4, 4, 1)]) rfl ty_zr_31 ty_zd_31 (by kernel_rfl) rfl (vs := [_, _, _, _]) rfl (segs := [(0, [_]), (2, [_]), (3, [_]), (4, [_])]) rfl rfl (by repeat (first | exact SetSeg.nil | apply SetSeg.one | exact SetAt.zero | apply SetAt.succ))) ?_
  refine WP.valG rfl rfl rfl rfl rfl rfl rfl (Yld.eqlInts (us := [_, _, _, _, _]) (vs := [_, _, _, _, _]) rfl (by kernel_rfl) rfl rfl rfl rfl true (by decide)) ?_
  refine WP.val rfl rfl rfl rfl (Yld.pickT rfl rfl rfl) ?_
  refine WP.val rfl rfl rfl rfl (Yld.assign rfl rfl) ?_
  refine WP.nil ?_
  refine WP.sub [(0, _), (1, _), (2, _), (3, _), (4, _), (5, _), (6, _), (15, _)] ?_ ⟨rfl, rfl, rfl, rfl, rfl, rfl, rfl, rfl, trivial⟩
  refine WP.next ?_
  refine WP.ret ?_
  refine WP.fin .ret (.inr rfl) (res1 rfl rfl) [] (by repeat (first | exact Take.nil | apply Take.cons | apply Take.app | exact Rm.chunk | exact Rm.here | apply Rm.skip | apply Rm.skipS | apply Take.all)) (by repeat (first | exact Leave.done | apply Leave.drop | apply Leave.dropS)) (Imm.le_refl _) ?_
  exact ⟨rfl, rfl, rfl⟩


/-- A cell, and what is counted. -/
structure CS where
  v : Int
  l : Int
  s : Int
  sw : Int
  m : Int
  a : Int
def inc (n : Int) : Int := IntKind.i64.wrap (n + 1)
/-- An access: what the cell is then, and the answer. -/
def actSt (k A B : Int) (s : CS) : CS × Int :=
  if k = 0 then ({ s with l := inc s.l }, s.v)
  else if k = 1 then ({ s with v := A, s := inc s.s }, 0)
  else if k = 2 then (if s.v = A then ({ s with v := B, sw := inc s.sw }, 1) else ({ s with m := inc s.m }, 0))
  else if k = 3 then ({ s with v := IntKind.i64.wrap (s.v + A), a := inc s.a }, IntKind.i64.wrap (s.v + A))
  else (s, 0)
theorem cell_acts {I : Imm} {c x : Nat} {s : CS} {k ce A B : Int} : Spec Try.prog 18 [.pointer (some ⟨x, 0, none⟩), .agg #[.int .i64 k, .int .i64 ce, .int .i64 A, .int .i64 B]] I [(x, row 83 [.int .i64 s.v, .pointer (some ⟨c, 0, none⟩)]), (c, row 81 [.int .i64 s.l, .int .i64 s.s, .int .i64 s.sw, .int .i64 s.m, .int .i64 s.a])] (fun v' J L => v' = .int .i64 (actSt k A B s).2 ∧ I = J ∧ L = [(x, row 83 [.int .i64 (actSt k A B s).1.v, .pointer (some ⟨c, 0, none⟩)]), (c, row 81 [.int .i64 (actSt k A B s).1.l, .int .i64 (actSt k A B s).1.s, .int .i64 (actSt k A B s).1.sw, .int .i64 (actSt k A B s).1.m, .int .i64 (actSt k A B s).1.a])]) := by
  refine Spec.of Try.func18 rfl Try.ntmps18 (Nat.le_of_ble_eq_true rfl) (fun F => ?_)
  try simp only [List.cons_append, List.nil_append, List.append_assoc]
  dsimp only [argsEnv]
  refine WP.seq ?_
  refine WP.region [0, 1] rfl ?_
  refine WP.loud rfl rfl ?_
  refine Op.box rfl rfl rfl rfl rfl (fun b3 => ?_)
  refine WP.val rfl rfl rfl rfl (Yld.assign rfl rfl) ?_
  refine WP.nil ?_
  refine WP.next ?_
  refine WP.seq ?_
  refine WP.seq ?_
  refine WP.region [0, 1] rfl ?_
  refine WP.val rfl rfl rfl rfl (Yld.fieldAddr rfl ty_fd_37_0 rfl) ?_
  refine WP.val rfl rfl rfl rfl (Yld.load rfl ty_sc_3 rfl (by repeat (first | exact There.h | exact There.i (by assumption) | apply There.t | apply There.s)) rfl) ?_
  refine WP.nil ?_
  refine WP.sub [(0, _), (1, _), (3, _), (4, _), (7, _)] ?_ ⟨rfl, rfl, rfl, rfl, rfl, trivial⟩
  refine WP.next ?_
  refine WP.block ?_
  refine WP.seq ?_
  refine WP.region [0, 1] rfl ?_
  refine WP.split rfl rfl rfl rfl (Yld.eql rfl rfl rfl) (fun hc => ?_) (fun hc => ?_)
  · refine WP.val rfl rfl rfl rfl (Yld.assign rfl rfl) ?_
    refine WP.nil ?_
    refine WP.sub [(0, _), (1, _), (3, _), (4, _), (7, _), (8, _)] ?_ ⟨rfl, rfl, rfl, rfl, rfl, rfl, trivial⟩
    refine WP.next ?_
    refine WP.condT rfl ?_
    refine WP.seq ?_
    refine WP.region [0, 1, 2] rfl ?_
    refine WP.val rfl rfl rfl rfl (Yld.move rfl rfl) ?_
    refine WP.loud rfl rfl ?_
    refine Op.call cell_Load rfl Try.func14 rfl rfl rfl rfl (by repeat (first | exact Take.nil | apply Take.cons | apply Take.app | exact Rm.chunk | exact Rm.here | apply Rm.skip | apply Rm.skipS | apply Take.all)) ?_
    rintro v J L1 hJ ⟨rfl, rfl, rfl⟩
    clear hJ; try simp only [List.cons_append, List.nil_append, List.append_assoc]
    refine WP.val rfl rfl rfl rfl (Yld.assign rfl rfl) ?_
    refine WP.nil ?_
    refine WP.sub [(0, _), (1, _), (3, _), (4, _), (7, _), (8, _)] ?_ ⟨rfl, rfl, rfl, rfl, rfl, rfl, trivial⟩
    refine WP.next ?_
    refine WP.ret ?_
    refine WP.fin .ret (.inr rfl) (res1 rfl rfl) [(x, row 83 _), (c, row 81 _)] (by repeat (first | exact Take.nil | apply Take.cons | apply Take.app | exact Rm.chunk | exact Rm.here | apply Rm.skip | apply Rm.skipS | apply Take.all)) (by repeat (first | exact Leave.done | apply Leave.drop | apply Leave.dropS)) (Imm.le_refl _) ?_
    refine ⟨?_, rfl, ?_⟩ <;> simp_all [actSt, inc]
  · refine WP.val rfl rfl rfl rfl (Yld.assign rfl rfl) ?_
    refine WP.nil ?_
    refine WP.sub [(0, _), (1, _), (3, _), (4, _), (7, _), (8, _)] ?_ ⟨rfl, rfl, rfl, rfl, rfl, rfl, trivial⟩
    refine WP.next ?_
    refine WP.condF rfl ?_
    refine WP.seq ?_
    refine WP.region [0, 1] rfl ?_
    refine WP.split rfl rfl rfl rfl (Yld.eql rfl rfl rfl) (fun hc => ?_) (fun hc => ?_)
    · refine WP.val rfl rfl rfl rfl (Yld.assign rfl rfl) ?_
      refine WP.nil ?_
      refine WP.sub [(0, _), (1, _), (3, _), (4, _), (7, _), (8, _), (12, _)] ?_ ⟨rfl, rfl, rfl, rfl, rfl, rfl, rfl, trivial⟩
      refine WP.next ?_
      refine WP.condT rfl ?_
      refine WP.region [0, 1, 2, 3] rfl ?_
      refine WP.val rfl rfl rfl rfl (Yld.move rfl rfl) ?_
      refine WP.val rfl rfl rfl rfl (Yld.fieldAddr rfl ty_fd_37_2 rfl) ?_
      refine WP.val rfl rfl rfl rfl (Yld.load rfl ty_sc_3 rfl (by repeat (first | exact There.h | exact There.i (by assumption) | apply There.t | apply There.s)) rfl) ?_
      refine WP.loud rfl rfl ?_
      refine Op.call cell_Store rfl Try.func40 rfl rfl rfl rfl (by repeat (first | exact Take.nil | apply Take.cons | apply Take.app | exact Rm.chunk | exact Rm.here | apply Rm.skip | apply Rm.skipS | apply Take.all)) ?_
      rintro v J L1 hJ ⟨rfl, rfl, rfl⟩
      clear hJ; try simp only [List.cons_append, List.nil_append, List.append_assoc]
      refine WP.nil ?_
      refine WP.sub [(0, _), (1, _), (3, _), (4, _), (7, _), (8, _), (12, _)] ?_ ⟨rfl, rfl, rfl, rfl, rfl, rfl, rfl, trivial⟩
      refine WP.leave ?_
      refine WP.next ?_
      refine WP.seq ?_
      refine WP.region [0] rfl ?_
      refine WP.val rfl rfl rfl rfl (Yld.assign rfl rfl) ?_
      refine WP.nil ?_
      refine WP.next ?_
      refine WP.ret ?_
      refine WP.fin .ret (.inr rfl) (res1 rfl rfl) [(x, row 83 _), (c, row 81 _)] (by repeat (first | exact Take.nil | apply Take.cons | apply Take.app | exact Rm.chunk | exact Rm.here | apply Rm.skip | apply Rm.skipS | apply Take.all)) (by repeat (first | exact Leave.done | apply Leave.drop | apply Leave.dropS)) (Imm.le_refl _) ?_
      refine ⟨?_, rfl, ?_⟩ <;> simp_all [actSt, inc]
    · refine WP.val rfl rfl rfl rfl (Yld.assign rfl rfl) ?_
      refine WP.nil ?_
      refine WP.sub [(0, _), (1, _), (3, _), (4, _), (7, _), (8, _), (12, _)] ?_ ⟨rfl, rfl, rfl, rfl, rfl, rfl, rfl, trivial⟩
      refine WP.next ?_
      refine WP.condF rfl ?_
      refine WP.seq ?_
      refine WP.region [0, 1] rfl ?_
      refine WP.split rfl rfl rfl rfl (Yld.eql rfl rfl rfl) (fun hc => ?_) (fun hc => ?_)
      · refine WP.val rfl rfl rfl rfl (Yld.assign rfl rfl) ?_
        refine WP.nil ?_
        refine WP.sub [(0, _), (1, _), (3, _), (4, _), (7, _), (8, _), (12, _), (18, _)] ?_ ⟨rfl, rfl, rfl, rfl, rfl, rfl, rfl, rfl, trivial⟩
        refine WP.next ?_
        refine WP.condT rfl ?_
        refine WP.seq ?_
        refine WP.region [0, 1, 2, 3, 4, 5, 6] rfl ?_
        refine WP.val rfl rfl rfl rfl (Yld.move rfl rfl) ?_
        refine WP.val rfl rfl rfl rfl (Yld.fieldAddr rfl ty_fd_37_2 rfl) ?_
        refine WP.val rfl rfl rfl rfl (Yld.load rfl ty_sc_3 rfl (by repeat (first | exact There.h | exact There.i (by assumption) | apply There.t | apply There.s)) rfl) ?_
        refine WP.val rfl rfl rfl rfl (Yld.fieldAddr rfl ty_fd_37_3 rfl) ?_
        refine WP.val rfl rfl rfl rfl (Yld.load rfl ty_sc_3 rfl (by repeat (first | exact There.h | exact There.i (by assumption) | apply There.t | apply There.s)) rfl) ?_
        refine WP.loud rfl rfl ?_
        refine Op.call cell_CAS rfl Try.func15 rfl rfl rfl rfl (by repeat (first | exact Take.nil | apply Take.cons | apply Take.app | exact Rm.chunk | exact Rm.here | apply Rm.skip | apply Rm.skipS | apply Take.all)) ?_
        rintro v J L1 hJ ⟨rfl, rfl, rfl⟩
        clear hJ; try simp only [List.cons_append, List.nil_append, List.append_assoc]
        refine WP.val rfl rfl rfl rfl (Yld.assign rfl rfl) ?_
        refine WP.nil ?_
        refine WP.sub [(0, _), (1, _), (3, _), (4, _), (5, _), (7, _), (8, _), (12, _), (18, _)] ?_ ⟨rfl, rfl, rfl, rfl, rfl, rfl, rfl, rfl, rfl, trivial⟩
        refine WP.next ?_
        refine WP.seq ?_
        refine WP.region [0] rfl ?_
        refine WP.val rfl rfl rfl rfl (Yld.move rfl rfl) ?_
        refine WP.nil ?_
        refine WP.next ?_
        refine WP.cond rfl (fun ht => ?_) (fun ht => ?_)
        · refine WP.seq ?_
          refine WP.region [0] rfl ?_
          refine WP.val rfl rfl rfl rfl (Yld.assign rfl rfl) ?_
          refine WP.nil ?_
          refine WP.next ?_
          refine WP.ret ?_
          refine WP.fin .ret (.inr rfl) (res1 rfl rfl) [(x, row 83 _), (c, row 81 _)] (by repeat (first | exact Take.nil | apply Take.cons | apply Take.app | exact Rm.chunk | exact Rm.here | apply Rm.skip | apply Rm.skipS | apply Take.all)) (by repeat (first | exact Leave.done | apply Leave.drop | apply Leave.dropS)) (Imm.le_refl _) ?_
          refine ⟨?_, rfl, ?_⟩ <;> simp_all [actSt, inc]
        · refine WP.skip ?_
          refine WP.leave ?_
          refine WP.next ?_
          refine WP.seq ?_
          refine WP.region [0] rfl ?_
          refine WP.val rfl rfl rfl rfl (Yld.assign rfl rfl) ?_
          refine WP.nil ?_
          refine WP.next ?_
          refine WP.ret ?_
          refine WP.fin .ret (.inr rfl) (res1 rfl rfl) [(x, row 83 _), (c, row 81 _)] (by repeat (first | exact Take.nil | apply Take.cons | apply Take.app | exact Rm.chunk | exact Rm.here | apply Rm.skip | apply Rm.skipS | apply Take.all)) (by repeat (first | exact Leave.done | apply Leave.drop | apply Leave.dropS)) (Imm.le_refl _) ?_
          refine ⟨?_, rfl, ?_⟩ <;> simp_all [actSt, inc]
      · refine WP.val rfl rfl rfl rfl (Yld.assign rfl rfl) ?_
        refine WP.nil ?_
        refine WP.sub [(0, _), (1, _), (3, _), (4, _), (7, _), (8, _), (12, _), (18, _)] ?_ ⟨rfl, rfl, rfl, rfl, rfl, rfl, rfl, rfl, trivial⟩
        refine WP.next ?_
        refine WP.condF rfl ?_
        refine WP.seq ?_
        refine WP.region [0, 1] rfl ?_
        refine WP.split rfl rfl rfl rfl (Yld.eql rfl rfl rfl) (fun hc => ?_) (fun hc => ?_)
        · refine WP.val rfl rfl rfl rfl (Yld.assign rfl rfl) ?_
          refine WP.nil ?_
          refine WP.sub [(0, _), (1, _), (3, _), (4, _), (7, _), (8, _), (12, _), (18, _), (27, _)] ?_ ⟨rfl, rfl, rfl, rfl, rfl, rfl, rfl, rfl, rfl, trivial⟩
          refine WP.next ?_
          refine WP.condT rfl ?_
          refine WP.seq ?_
          refine WP.region [0, 1, 2, 3, 4] rfl ?_
          refine WP.val rfl rfl rfl rfl (Yld.move rfl rfl) ?_
          refine WP.val rfl rfl rfl rfl (Yld.fieldAddr rfl ty_fd_37_2 rfl) ?_
          refine WP.val rfl rfl rfl rfl (Yld.load rfl ty_sc_3 rfl (by repeat (first | exact There.h | exact There.i (by assumption) | apply There.t | apply There.s)) rfl) ?_
          refine WP.loud rfl rfl ?_
          refine Op.call cell_Add rfl Try.func35 rfl rfl rfl rfl (by repeat (first | exact Take.nil | apply Take.cons | apply Take.app | exact Rm.chunk | exact Rm.here | apply Rm.skip | apply Rm.skipS | apply Take.all)) ?_
          rintro v J L1 hJ ⟨rfl, rfl, rfl⟩
          clear hJ; try simp only [List.cons_append, List.nil_append, List.append_assoc]
          refine WP.val rfl rfl rfl rfl (Yld.assign rfl rfl) ?_
          refine WP.nil ?_
          refine WP.sub [(0, _), (1, _), (3, _), (4, _), (7, _), (8, _), (12, _), (18, _), (27, _)] ?_ ⟨rfl, rfl, rfl, rfl, rfl, rfl, rfl, rfl, rfl, trivial⟩
          refine WP.next ?_
          refine WP.ret ?_
          refine WP.fin .ret (.inr rfl) (res1 rfl rfl) [(x, row 83 _), (c, row 81 _)] (by repeat (first | exact Take.nil | apply Take.cons | apply Take.app | exact Rm.chunk | exact Rm.here | apply Rm.skip | apply Rm.skipS | apply Take.all)) (by repeat (first | exact Leave.done | apply Leave.drop | apply Leave.dropS)) (Imm.le_refl _) ?_
          refine ⟨?_, rfl, ?_⟩ <;> simp_all [actSt, inc]
        · refine WP.val rfl rfl rfl rfl (Yld.assign rfl rfl) ?_
          refine WP.nil ?_
          refine WP.sub [(0, _), (1, _), (3, _), (4, _), (7, _), (8, _), (12, _), (18, _), (27, _)] ?_ ⟨rfl, rfl, rfl, rfl, rfl, rfl, rfl, rfl, rfl, trivial⟩
          refine WP.next ?_
          refine WP.condF rfl ?_
          refine WP.skip ?_
          refine WP.leave ?_
          refine WP.next ?_
          refine WP.seq ?_
          refine WP.region [0] rfl ?_
          refine WP.val rfl rfl rfl rfl (Yld.assign rfl rfl) ?_
          refine WP.nil ?_
          refine WP.next ?_
          refine WP.ret ?_
          refine WP.fin .ret (.inr rfl) (res1 rfl rfl) [(x, row 83 _), (c, row 81 _)] (by repeat (first | exact Take.nil | apply Take.cons | apply Take.app | exact Rm.chunk | exact Rm.here | apply Rm.skip | apply Rm.skipS | apply Take.all)) (by repeat (first | exact Leave.done | apply Leave.drop | apply Leave.dropS)) (Imm.le_refl _) ?_
          refine ⟨?_, rfl, ?_⟩ <;> simp_all [actSt, inc]


end Go.Hp
