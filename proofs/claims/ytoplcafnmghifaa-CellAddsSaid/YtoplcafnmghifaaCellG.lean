import Derived.Test.YtoplcafnmghifaaCellF
set_option linter.unusedVariables false
set_option linter.unusedSimpArgs false
namespace Go.Hp
open Go Go.Proofs
set_option maxHeartbeats 1000000 in
theorem cell_CellAdds {I : Imm} {first : Int} {by_ ps : List Int} {v1 v2 : Value} (hw : IntKind.i64.wrap first = first) (hf : Slc I 1 (fun (a : Int) cs => cs = [.int .i64 a] ∧ (Lit.int .i64 a).wf = true) v1 by_) (hl : Slc I 1 (fun (a : Int) cs => cs = [.int .i64 a] ∧ (Lit.int .i64 a).wf = true) v2 ps) (hfb : by_.length * 8 ≤ 140737488351232) (hn : ps.length * 8 ≤ 140737488351232) : Spec Try.prog 3 [.int .i64 first, v1, v2] I [] (fun v' J L => v' = .bool true ∧ I = J ∧ L = []) := by
  obtain ⟨A, cap, rfl, hcap, hby⟩ := hf
  obtain ⟨A2, cap2, rfl, hcap2, hps⟩ := hl
  refine Spec.of Try.func3 rfl Try.ntmps3 (Nat.le_of_ble_eq_true rfl) (fun F => ?_)
  try simp only [List.cons_append, List.nil_append, List.append_assoc]
  dsimp only [argsEnv]
  refine WP.seq ?_
  refine WP.region [0] rfl ?_
  refine WP.val rfl rfl rfl rfl (Yld.assign rfl rfl) ?_
  refine WP.nil ?_
  refine WP.next ?_
  refine WP.seq ?_
  refine WP.region [0, 1] rfl ?_
  refine WP.loud rfl rfl ?_
  refine Op.call (cell_awake _) rfl Try.func11 rfl rfl rfl rfl (by repeat (first | exact Take.nil | apply Take.cons | apply Take.app | exact Rm.chunk | exact Rm.here | apply Rm.skip | apply Rm.skipS | apply Take.all)) ?_
  rintro v J L1 hJ ⟨rfl, rfl, rfl⟩
  clear hJ; try simp only [List.cons_append, List.nil_append, List.append_assoc]
  refine WP.val rfl rfl rfl rfl (Yld.assign rfl rfl) ?_
  refine WP.nil ?_
  refine WP.sub [(0, _), (1, _), (2, _), (6, _), (7, _)] ?_ ⟨rfl, rfl, rfl, rfl, rfl, trivial⟩
  refine WP.next ?_
  refine WP.seq ?_
  refine WP.region [0, 1] rfl ?_
  refine WP.loud rfl rfl ?_
  refine Op.call (cell_NewCount _) rfl Try.func12 rfl rfl rfl rfl (by repeat (first | exact Take.nil | apply Take.cons | apply Take.app | exact Rm.chunk | exact Rm.here | apply Rm.skip | apply Rm.skipS | apply Take.all)) ?_
  rintro v J L1 hJ ⟨c, rfl, rfl, rfl⟩
  clear hJ; try simp only [List.cons_append, List.nil_append, List.append_assoc]
  refine WP.val rfl rfl rfl rfl (Yld.assign rfl rfl) ?_
  refine WP.nil ?_
  refine WP.sub [(0, _), (1, _), (2, _), (6, _), (7, _), (8, _)] ?_ ⟨rfl, rfl, rfl, rfl, rfl, rfl, trivial⟩
  refine WP.next ?_
  refine WP.seq ?_
  refine WP.region [0, 1, 2, 3] rfl ?_
  refine WP.val rfl rfl rfl rfl (Yld.move rfl rfl) ?_
  refine WP.val rfl rfl rfl rfl (Yld.move rfl rfl) ?_
  refine WP.loud rfl rfl ?_
  refine Op.call (cell_NewInt (o := default)) rfl Try.func13 rfl rfl rfl rfl (by repeat (first | exact Take.nil | apply Take.cons | apply Take.app | exact Rm.chunk | exact Rm.here | apply Rm.skip | apply Rm.skipS | apply Take.all)) ?_
  rintro v J L1 hJ ⟨xc, rfl, rfl, rfl⟩
  clear hJ; try simp only [List.cons_append, List.nil_append, List.append_assoc]
  refine WP.val rfl rfl rfl rfl (Yld.assign rfl rfl) ?_
  refine WP.nil ?_
  refine WP.sub [(0, _), (1, _), (2, _), (6, _), (7, _), (8, _), (9, _)] ?_ ⟨rfl, rfl, rfl, rfl, rfl, rfl, rfl, trivial⟩
  refine WP.next ?_
  refine WP.seq ?_
  refine WP.seq ?_
  refine WP.region [0, 1, 2, 3, 4, 5, 6, 7, 8, 9, 10] rfl ?_
  refine WP.val rfl rfl rfl rfl (Yld.move rfl rfl) ?_
  refine WP.val rfl rfl rfl rfl (Yld.not rfl rfl) ?_
  refine WP.val rfl rfl rfl rfl (Yld.move rfl rfl) ?_
  refine WP.valG rfl rfl rfl rfl rfl rfl rfl (Yld.move rfl rfl) ?_
  refine WP.valG rfl rfl rfl rfl rfl rfl rfl (Yld.eqlNil rfl ty_pt_26 rfl rfl) ?_
  refine WP.val rfl rfl rfl rfl (Yld.pickF rfl rfl rfl) ?_
  refine WP.val rfl rfl rfl rfl (Yld.move rfl rfl) ?_
  refine WP.valG rfl rfl rfl rfl rfl rfl rfl (Yld.move rfl rfl) ?_
  refine WP.valG rfl rfl rfl rfl rfl rfl rfl (Yld.len rfl ty_sl_22 rfl) ?_
  refine WP.splitG rfl rfl rfl rfl rfl rfl rfl (Yld.gtr rfl rfl rfl) (fun h200 => ?_) (fun h200 => ?_)
  · refine WP.val rfl rfl rfl rfl (Yld.pickF rfl rfl rfl) ?_
    refine WP.nil ?_
    refine WP.sub [(0, _), (1, _), (2, _), (6, _), (7, _), (8, _), (9, _), (34, _)] ?_ ⟨rfl, rfl, rfl, rfl, rfl, rfl, rfl, rfl, trivial⟩
    refine WP.next ?_
    refine WP.condT rfl ?_
    refine WP.seq ?_
    refine WP.region [0, 1] rfl ?_
    refine WP.val rfl rfl rfl rfl (Yld.move rfl rfl) ?_
    refine WP.val rfl rfl rfl rfl (Yld.assign rfl rfl) ?_
    refine WP.nil ?_
    refine WP.sub [(0, _), (1, _), (2, _), (6, _), (7, _), (8, _), (9, _), (34, _)] ?_ ⟨rfl, rfl, rfl, rfl, rfl, rfl, rfl, rfl, trivial⟩
    refine WP.next ?_
    refine WP.ret ?_
    refine WP.fin .ret (.inr rfl) (res1 rfl rfl) [] (by repeat (first | exact Take.nil | apply Take.cons | apply Take.app | exact Rm.chunk | exact Rm.here | apply Rm.skip | apply Rm.skipS | apply Take.all)) (by repeat (first | exact Leave.done | apply Leave.drop | apply Leave.dropS)) (Imm.le_refl _) ?_
    exact ⟨rfl, rfl, rfl⟩
  · refine WP.val rfl rfl rfl rfl (Yld.pickF rfl rfl rfl) ?_
    refine WP.nil ?_
    refine WP.sub [(0, _), (1, _), (2, _), (6, _), (7, _), (8, _), (9, _), (34, _)] ?_ ⟨rfl, rfl, rfl, rfl, rfl, rfl, rfl, rfl, trivial⟩
    refine WP.next ?_
    refine WP.condF rfl ?_
    refine WP.skip ?_
    refine WP.next ?_
    refine WP.seq ?_
    refine WP.region [0, 1, 2, 3] rfl ?_
    refine WP.val rfl rfl rfl rfl (Yld.move rfl rfl) ?_
    refine WP.val rfl rfl rfl rfl (Yld.len rfl ty_sl_22 rfl) ?_
    refine WP.loud rfl rfl ?_
    refine Op.make rfl ty_sl_22 ty_el_22 rfl rfl rfl rfl rfl (Nat.le_refl _) (by omega) (by omega) (fun b10 => ?_)
    rw [mk0]
    refine WP.val rfl rfl rfl rfl (Yld.assign rfl rfl) ?_
    refine WP.nil ?_
    refine WP.sub [(0, _), (1, _), (2, _), (6, _), (7, _), (8, _), (9, _), (10, _), (34, _)] ?_ ⟨rfl, rfl, rfl, rfl, rfl, rfl, rfl, rfl, rfl, trivial⟩
    refine WP.next ?_
    refine WP.seq ?_
    refine WP.region [0, 1, 2, 3] rfl ?_
    refine WP.val rfl rfl rfl rfl (Yld.move rfl rfl) ?_
    refine WP.val rfl rfl rfl rfl (Yld.len rfl ty_sl_22 rfl) ?_
    refine WP.loud rfl rfl ?_
    refine Op.make rfl ty_sl_22 ty_el_22 rfl rfl rfl rfl rfl (Nat.le_refl _) (by omega) (by omega) (fun b11 => ?_)
    rw [mk0]
    refine WP.val rfl rfl rfl rfl (Yld.assign rfl rfl) ?_
    refine WP.nil ?_
    refine WP.sub [(0, _), (1, _), (2, _), (6, _), (7, _), (8, _), (9, _), (10, _), (11, _), (34, _)] ?_ ⟨rfl, rfl, rfl, rfl, rfl, rfl, rfl, rfl, rfl, rfl, trivial⟩
    refine WP.next ?_
    refine WP.seq ?_
    refine WP.region [0, 1] rfl ?_
    refine WP.val rfl rfl rfl rfl (Yld.move rfl rfl) ?_
    refine WP.val rfl rfl rfl rfl (Yld.assign rfl rfl) ?_
    refine WP.nil ?_
    refine WP.sub [(0, _), (1, _), (2, _), (6, _), (7, _), (8, _), (9, _), (10, _), (11, _), (12, _), (34, _)] ?_ ⟨rfl, rfl, rfl, rfl, rfl, rfl, rfl, rfl, rfl, rfl, rfl, trivial⟩
    refine WP.next ?_
    refine WP.seq ?_
    refine WP.region [0, 1, 2] rfl ?_
    refine WP.val rfl rfl rfl rfl (Yld.move rfl rfl) ?_
    refine WP.val rfl rfl rfl rfl (Yld.len rfl ty_sl_22 rfl) ?_
    refine WP.val rfl rfl rfl rfl (Yld.assign rfl rfl) ?_
    refine WP.nil ?_
    refine WP.sub [(0, _), (1, _), (2, _), (6, _), (7, _), (8, _), (9, _), (10, _), (11, _), (12, _), (13, _), (34, _)] ?_ ⟨rfl, rfl, rfl, rfl, rfl, rfl, rfl, rfl, rfl, rfl, rfl, rfl, trivial⟩
    refine WP.next ?_
    refine WP.seq ?_
    refine WP.seq ?_
    refine WP.region [0] rfl ?_
    refine WP.val rfl rfl rfl rfl (Yld.assign rfl rfl) ?_
    refine WP.nil ?_
    refine WP.next ?_
    refine WP.block ?_
    refine WP.loop (X := Nat) (fun x : Nat => [(0, .int .i64 first), (1, .slice A by_.length cap), (2, .slice A2 ps.length cap2), (6, .bool false), (8, .pointer (some ⟨c, 0, none⟩)), (9, .pointer (some ⟨xc, 0, none⟩)), (10, .slice (some ⟨b10, 0, none⟩) by_.length by_.length), (11, .slice (some ⟨b11, 0, none⟩) by_.length by_.length), (12, .int .i64 (IntKind.i64.wrap (first + (by_.take x).sum))), (13, .int .i64 (by_.length : Int)), (14, .int .i64 (x : Int))]) (fun _ => I) (fun _ => (xc, row 83 [.int .i64 first, .pointer (some ⟨c, 0, none⟩)]) :: (c, row 81 [.int .i64 0, .int .i64 0, .int .i64 0, .int .i64 0, .int .i64 0]) :: (b10, row 3 ((List.replicate by_.length (0 : Int)).map (Value.int .i64))) :: (b11, row 3 ((List.replicate by_.length (0 : Int)).map (Value.int .i64))) :: F) (fun x => x ≤ by_.length) (fun x => by_.length - x) 0 (Nat.zero_le _) ⟨rfl, rfl, rfl, rfl, rfl, rfl, rfl, rfl, (congrArg (fun z => some (Value.int .i64 z)) (by simp [hw])), rfl, rfl, trivial⟩ rfl (by (try dsimp only); repeat (first | exact Rm.chunk | exact Rm.here | apply Rm.skip | apply Rm.skipS | apply PX.cons | (apply PX.done; (repeat (first | exact Leave.done | apply Leave.drop | apply Leave.dropS)); done) | apply PX.app)) ?_
    intro x hx
    try dsimp only
    try simp only [List.cons_append, List.nil_append, List.append_assoc]
    refine WP.seq ?_
    refine WP.seq ?_
    refine WP.region [0, 1, 2, 3] rfl ?_
    refine WP.val rfl rfl rfl rfl (Yld.move rfl rfl) ?_
    refine WP.val rfl rfl rfl rfl (Yld.move rfl rfl) ?_
    refine WP.val rfl rfl rfl rfl (Yld.len rfl ty_sl_22 rfl) ?_
    refine WP.split rfl rfl rfl rfl (Yld.lss rfl rfl rfl) (fun hc => ?_) (fun hc => ?_)
    · have hi : x < by_.length := by omega
      obtain ⟨b, kk, arr, T, fr, rfl, hb, hel⟩ := hby.resolve_left (by rintro rfl; simp at hi)
      obtain ⟨hl1, hR, _⟩ := hel x _ (List.getElem?_eq_getElem hi)
      have e0 := take_cells hR 0 _ rfl (by decide)
      rw [Array.getElem?_toList] at e0
      refine WP.nil ?_
      refine WP.sub [(0, _), (1, _), (2, _), (6, _), (8, _), (9, _), (10, _), (11, _), (12, _), (13, _), (14, _), (48, _)] ?_ ⟨rfl, rfl, rfl, rfl, rfl, rfl, rfl, rfl, rfl, rfl, rfl, rfl, trivial⟩
      refine WP.next ?_
      refine WP.condT rfl ?_
      refine WP.skip ?_
      refine WP.next ?_
      refine WP.seq ?_
      refine WP.block ?_
      refine WP.region [0, 1, 2, 3, 4, 5, 6] rfl ?_
      refine WP.val rfl rfl rfl rfl (Yld.move rfl rfl) ?_
      refine WP.val rfl rfl rfl rfl (Yld.move rfl rfl) ?_
      refine WP.val rfl rfl rfl rfl (Yld.move rfl rfl) ?_
      refine WP.val rfl rfl rfl rfl (Yld.indexAddr rfl ty_sl_22 rfl rfl (by omega)) ?_
      refine WP.val rfl rfl rfl rfl (Yld.loadC rfl ty_sc_3 rfl (There.i hb) e0) ?_
      refine WP.val rfl rfl rfl rfl (Yld.add rfl rfl rfl) ?_
      refine WP.val rfl rfl rfl rfl (Yld.assign rfl rfl) ?_
      refine WP.nil ?_
      refine WP.sub [(0, _), (1, _), (2, _), (6, _), (8, _), (9, _), (10, _), (11, _), (12, _), (13, _), (14, _), (48, _)] ?_ ⟨rfl, rfl, rfl, rfl, rfl, rfl, rfl, rfl, rfl, rfl, rfl, rfl, trivial⟩
      refine WP.leave ?_
      refine WP.next ?_
      refine WP.region [0, 1, 2] rfl ?_
      refine WP.val rfl rfl rfl rfl (Yld.move rfl rfl) ?_
      refine WP.val rfl rfl rfl rfl (Yld.add64 rfl rfl rfl (by omega)) ?_
      refine WP.val rfl rfl rfl rfl (Yld.assign rfl rfl) ?_
      refine WP.nil ?_
      refine WP.sub [(0, _), (1, _), (2, _), (6, _), (8, _), (9, _), (10, _), (11, _), (12, _), (13, _), (14, _), (48, _)] ?_ ⟨rfl, rfl, rfl, rfl, rfl, rfl, rfl, rfl, rfl, rfl, rfl, rfl, trivial⟩
      exact WP.again (x + 1) (by omega) (by omega) ⟨rfl, rfl, rfl, rfl, rfl, rfl, rfl, rfl, (congrArg (fun z => some (Value.int .i64 z)) (by rw [wrap_add, Int.add_assoc, List.take_succ_eq_append_getElem hi, List.sum_append]; simp)), rfl, rfl, trivial⟩ rfl (by (try dsimp only); repeat (first | exact Rm.chunk | exact Rm.here | apply Rm.skip | apply Rm.skipS | apply PX.cons | (apply PX.done; (repeat (first | exact Leave.done | apply Leave.drop | apply Leave.dropS)); done) | apply PX.app))
    · obtain rfl : x = by_.length := by omega
      have hsum := List.take_length (l := by_)
      refine WP.nil ?_
      refine WP.sub [(0, _), (1, _), (2, _), (6, _), (8, _), (9, _), (10, _), (11, _), (12, _), (13, _), (14, _), (48, _)] ?_ ⟨rfl, rfl, rfl, rfl, rfl, rfl, rfl, rfl, rfl, rfl, rfl, rfl, trivial⟩
      refine WP.next ?_
      refine WP.condF rfl ?_
      refine WP.exit ?_
      refine WP.thenE ?_
      refine WP.thenE ?_
      refine WP.hit ?_
      refine WP.next ?_
      refine WP.seq ?_
      refine WP.seq ?_
      refine WP.region [0] rfl ?_
      refine WP.val rfl rfl rfl rfl (Yld.assign rfl rfl) ?_
      refine WP.nil ?_
      refine WP.next ?_
      refine WP.block ?_
      refine WP.loop (X := XA) (fun x : XA => [(0, .int .i64 first), (1, .slice A by_.length cap), (2, .slice A2 ps.length cap2), (6, .bool false), (8, .pointer (some ⟨c, 0, none⟩)), (9, .pointer (some ⟨xc, 0, none⟩)), (10, .slice (some ⟨b10, 0, none⟩) by_.length by_.length), (11, .slice (some ⟨b11, 0, none⟩) by_.length by_.length), (12, .int .i64 (IntKind.i64.wrap (first + by_.sum))), (13, .int .i64 (x.left : Int)), (15, .int .i64 (x.i : Int))]) (fun _ => I) (fun x : XA => (xc, row 83 [.int .i64 x.v, .pointer (some ⟨c, 0, none⟩)]) :: (c, row 81 [.int .i64 x.l, .int .i64 0, .int .i64 x.sw, .int .i64 x.m, .int .i64 0]) :: (b10, row 3 (x.seen.map (Value.int .i64))) :: (b11, row 3 (x.st.map (Value.int .i64))) :: F) (fun x => x.ok first by_ ps.length) (fun x => ps.length + 3 * (by_.length * by_.length) + 1 - x.i) ⟨0, by_.length, List.replicate by_.length 0, List.replicate by_.length 0, first, 0, 0, 0⟩ (XA.start by_ ps.length hw) ⟨rfl, rfl, rfl, rfl, rfl, rfl, rfl, rfl, (congrArg (fun z => some (Value.int .i64 (IntKind.i64.wrap (first + List.sum z)))) hsum), rfl, rfl, trivial⟩ rfl (by (try dsimp only); repeat (first | exact Rm.chunk | exact Rm.here | apply Rm.skip | apply Rm.skipS | apply PX.cons | (apply PX.done; (repeat (first | exact Leave.done | apply Leave.drop | apply Leave.dropS)); done) | apply PX.app)) ?_
      intro x hx
      try dsimp only
      try simp only [List.cons_append, List.nil_append, List.append_assoc]
      refine WP.seq ?_
      refine WP.seq ?_
      refine WP.region [0, 1] rfl ?_
      refine WP.val rfl rfl rfl rfl (Yld.move rfl rfl) ?_
      refine WP.split rfl rfl rfl rfl (Yld.gtr rfl rfl rfl) (fun hc => ?_) (fun hc => ?_)
      · have hleft : 0 < x.left := by omega
        have hll : x.left ≤ by_.length := by have := hx.left; omega
        have hn0 : 0 < by_.length := by have := hx.left; omega
        have hib := XA.le hx hleft
        have hnn : by_.length * by_.length ≤ 200 * 200 := Nat.mul_le_mul (by omega) (by omega)
        have hnI : (by_.length : Int) * (by_.length : Int) = ((by_.length * by_.length : Nat) : Int) := by rw [Int.natCast_mul]
        have hwl : IntKind.i64.wrap (x.l + 1) = x.l + 1 := wrap64_id (by have := hx.lb; have := hx.l; have := hx.m0; have := hx.sw; omega)
        have hws : IntKind.i64.wrap (x.sw + 1) = x.sw + 1 := wrap64_id (by have := hx.lb; have := hx.l; have := hx.m0; have := hx.sw; omega)
        have hwm : IntKind.i64.wrap (x.m + 1) = x.m + 1 := wrap64_id (by have := hx.lb; have := hx.l; have := hx.m0; have := hx.sw; omega)
        generalize hNN : by_.length * by_.length = NN at hib hnn hnI
        refine WP.nil ?_
        refine WP.sub [(0, _), (1, _), (2, _), (6, _), (8, _), (9, _), (10, _), (11, _), (12, _), (13, _), (15, _), (58, _)] ?_ ⟨rfl, rfl, rfl, rfl, rfl, rfl, rfl, rfl, rfl, rfl, rfl, rfl, trivial⟩
        refine WP.next ?_
        refine WP.condT rfl ?_
        refine WP.skip ?_
        refine WP.next ?_
        refine WP.seq ?_
        refine WP.block ?_
        refine WP.seq ?_
        refine WP.region [0, 1, 2, 3, 4] rfl ?_
        refine WP.val rfl rfl rfl rfl (Yld.move rfl rfl) ?_
        refine WP.val rfl rfl rfl rfl (Yld.move rfl rfl) ?_
        refine WP.val rfl rfl rfl rfl (Yld.len rfl ty_sl_22 rfl) ?_
        refine WP.val rfl rfl rfl rfl (Yld.rem64 rfl rfl rfl (by omega)) ?_
        refine WP.val rfl rfl rfl rfl (Yld.assign rfl rfl) ?_
        refine WP.nil ?_
        refine WP.sub [(0, _), (1, _), (2, _), (6, _), (8, _), (9, _), (10, _), (11, _), (12, _), (13, _), (15, _), (16, _), (58, _)] ?_ ⟨rfl, rfl, rfl, rfl, rfl, rfl, rfl, rfl, rfl, rfl, rfl, rfl, rfl, trivial⟩
        refine WP.next ?_
        refine WP.cut (X := Nat) (fun t : Nat => [(0, .int .i64 first), (1, .slice A by_.length cap), (2, .slice A2 ps.length cap2), (6, .bool false), (8, .pointer (some ⟨c, 0, none⟩)), (9, .pointer (some ⟨xc, 0, none⟩)), (10, .slice (some ⟨b10, 0, none⟩) by_.length by_.length), (11, .slice (some ⟨b11, 0, none⟩) by_.length by_.length), (12, .int .i64 (IntKind.i64.wrap (first + by_.sum))), (13, .int .i64 (x.left : Int)), (15, .int .i64 (x.i : Int)), (16, .int .i64 (t : Int))]) (fun _ => I) (fun _ => (xc, row 83 [.int .i64 x.v, .pointer (some ⟨c, 0, none⟩)]) :: (c, row 81 [.int .i64 x.l, .int .i64 0, .int .i64 x.sw, .int .i64 x.m, .int .i64 0]) :: (b10, row 3 (x.seen.map (Value.int .i64))) :: (b11, row 3 (x.st.map (Value.int .i64))) :: F) (fun t => t < by_.length ∧ (ps.length ≤ x.i → t = x.i % by_.length)) ?_ ?_
        · skip
          refine WP.seq ?_
          refine WP.region [0, 1, 2, 3] rfl ?_
          refine WP.val rfl rfl rfl rfl (Yld.move rfl rfl) ?_
          refine WP.val rfl rfl rfl rfl (Yld.move rfl rfl) ?_
          refine WP.val rfl rfl rfl rfl (Yld.len rfl ty_sl_22 rfl) ?_
          refine WP.split rfl rfl rfl rfl (Yld.lss rfl rfl rfl) (fun hip' => ?_) (fun hip' => ?_)
          · have hip : x.i < ps.length := by omega
            obtain ⟨b, kk, arr, T, fr, rfl, hb, hel⟩ := hps.resolve_left (by rintro rfl; simp at hip)
            obtain ⟨hl1, hR, _⟩ := hel x.i _ (List.getElem?_eq_getElem hip)
            have e0 := take_cells hR 0 _ rfl (by decide)
            rw [Array.getElem?_toList] at e0
            have ht1 := Int.tmod_lt_of_pos (ps[x.i]'hip) (show 0 < (by_.length : Int) by omega)
            have ht2 := Int.lt_tmod_of_pos (ps[x.i]'hip) (show 0 < (by_.length : Int) by omega)
            refine WP.nil ?_
            refine WP.sub [(0, _), (1, _), (2, _), (6, _), (8, _), (9, _), (10, _), (11, _), (12, _), (13, _), (15, _), (16, _), (58, _), (68, _)] ?_ ⟨rfl, rfl, rfl, rfl, rfl, rfl, rfl, rfl, rfl, rfl, rfl, rfl, rfl, rfl, trivial⟩
            refine WP.next ?_
            refine WP.condT rfl ?_
            refine WP.seq ?_
            refine WP.region [0, 1, 2, 3, 4, 5, 6, 7] rfl ?_
            refine WP.val rfl rfl rfl rfl (Yld.move rfl rfl) ?_
            refine WP.val rfl rfl rfl rfl (Yld.move rfl rfl) ?_
            refine WP.val rfl rfl rfl rfl (Yld.indexAddr rfl ty_sl_22 rfl rfl (by omega)) ?_
            refine WP.val rfl rfl rfl rfl (Yld.loadC rfl ty_sc_3 rfl (There.i hb) e0) ?_
            refine WP.val rfl rfl rfl rfl (Yld.move rfl rfl) ?_
            refine WP.val rfl rfl rfl rfl (Yld.len rfl ty_sl_22 rfl) ?_
            refine WP.val rfl rfl rfl rfl (Yld.rem rfl rfl rfl (by omega)) ?_
            refine WP.val rfl rfl rfl rfl (Yld.assign rfl rfl) ?_
            refine WP.nil ?_
            refine WP.sub [(0, _), (1, _), (2, _), (6, _), (8, _), (9, _), (10, _), (11, _), (12, _), (13, _), (15, _), (16, _), (58, _), (68, _)] ?_ ⟨rfl, rfl, rfl, rfl, rfl, rfl, rfl, rfl, rfl, rfl, rfl, rfl, rfl, rfl, trivial⟩
            refine WP.next ?_
            refine WP.seq ?_
            refine WP.region [0, 1] rfl ?_
            refine WP.val rfl rfl rfl rfl (Yld.move rfl rfl) ?_
            refine WP.split rfl rfl rfl rfl (Yld.lss rfl rfl rfl) (fun hc => ?_) (fun hc => ?_)
            · refine WP.nil ?_
              refine WP.sub [(0, _), (1, _), (2, _), (6, _), (8, _), (9, _), (10, _), (11, _), (12, _), (13, _), (15, _), (16, _), (58, _), (68, _), (77, _)] ?_ ⟨rfl, rfl, rfl, rfl, rfl, rfl, rfl, rfl, rfl, rfl, rfl, rfl, rfl, rfl, rfl, trivial⟩
              refine WP.next ?_
              refine WP.condT rfl ?_
              refine WP.region [0, 1, 2, 3, 4] rfl ?_
              refine WP.val rfl rfl rfl rfl (Yld.move rfl rfl) ?_
              refine WP.val rfl rfl rfl rfl (Yld.move rfl rfl) ?_
              refine WP.val rfl rfl rfl rfl (Yld.len rfl ty_sl_22 rfl) ?_
              refine WP.val rfl rfl rfl rfl (Yld.add64 rfl rfl rfl (by omega)) ?_
              refine WP.val rfl rfl rfl rfl (Yld.assign rfl rfl) ?_
              refine WP.nil ?_
              refine WP.sub [(0, _), (1, _), (2, _), (6, _), (8, _), (9, _), (10, _), (11, _), (12, _), (13, _), (15, _), (16, _), (58, _), (68, _), (77, _)] ?_ ⟨rfl, rfl, rfl, rfl, rfl, rfl, rfl, rfl, rfl, rfl, rfl, rfl, rfl, rfl, rfl, trivial⟩
              exact WP.meet ((ps[x.i]'hip).tmod by_.length + by_.length).toNat ⟨by omega, fun h => absurd h (by omega)⟩ ⟨rfl, rfl, rfl, rfl, rfl, rfl, rfl, rfl, rfl, rfl, rfl, (congrArg (fun z => some (Value.int .i64 z)) (by omega)), trivial⟩ rfl (by (try dsimp only); repeat (first | exact Rm.chunk | exact Rm.here | apply Rm.skip | apply Rm.skipS | apply PX.cons | (apply PX.done; (repeat (first | exact Leave.done | apply Leave.drop | apply Leave.dropS)); done) | apply PX.app))
            · refine WP.nil ?_
              refine WP.sub [(0, _), (1, _), (2, _), (6, _), (8, _), (9, _), (10, _), (11, _), (12, _), (13, _), (15, _), (16, _), (58, _), (68, _), (77, _)] ?_ ⟨rfl, rfl, rfl, rfl, rfl, rfl, rfl, rfl, rfl, rfl, rfl, rfl, rfl, rfl, rfl, trivial⟩
              refine WP.next ?_
              refine WP.condF rfl ?_
              refine WP.skip ?_
              exact WP.meet ((ps[x.i]'hip).tmod by_.length).toNat ⟨by omega, fun h => absurd h (by omega)⟩ ⟨rfl, rfl, rfl, rfl, rfl, rfl, rfl, rfl, rfl, rfl, rfl, (congrArg (fun z => some (Value.int .i64 z)) (by omega)), trivial⟩ rfl (by (try dsimp only); repeat (first | exact Rm.chunk | exact Rm.here | apply Rm.skip | apply Rm.skipS | apply PX.cons | (apply PX.done; (repeat (first | exact Leave.done | apply Leave.drop | apply Leave.dropS)); done) | apply PX.app))
          · refine WP.nil ?_
            refine WP.sub [(0, _), (1, _), (2, _), (6, _), (8, _), (9, _), (10, _), (11, _), (12, _), (13, _), (15, _), (16, _), (58, _), (68, _)] ?_ ⟨rfl, rfl, rfl, rfl, rfl, rfl, rfl, rfl, rfl, rfl, rfl, rfl, rfl, rfl, trivial⟩
            refine WP.next ?_
            refine WP.condF rfl ?_
            refine WP.skip ?_
            exact WP.meet (x.i % by_.length) ⟨Nat.mod_lt _ hn0, fun _ => rfl⟩ ⟨rfl, rfl, rfl, rfl, rfl, rfl, rfl, rfl, rfl, rfl, rfl, (congrArg (fun z => some (Value.int .i64 z)) (by simp)), trivial⟩ rfl (by (try dsimp only); repeat (first | exact Rm.chunk | exact Rm.here | apply Rm.skip | apply Rm.skipS | apply PX.cons | (apply PX.done; (repeat (first | exact Leave.done | apply Leave.drop | apply Leave.dropS)); done) | apply PX.app))
        · rintro k ⟨hk, hkr⟩
          refine WP.cut (X := XA) (fun y : XA => [(0, .int .i64 first), (1, .slice A by_.length cap), (2, .slice A2 ps.length cap2), (6, .bool false), (8, .pointer (some ⟨c, 0, none⟩)), (9, .pointer (some ⟨xc, 0, none⟩)), (10, .slice (some ⟨b10, 0, none⟩) by_.length by_.length), (11, .slice (some ⟨b11, 0, none⟩) by_.length by_.length), (12, .int .i64 (IntKind.i64.wrap (first + by_.sum))), (13, .int .i64 (y.left : Int)), (15, .int .i64 (x.i : Int))]) (fun _ => I) (fun y : XA => (xc, row 83 [.int .i64 y.v, .pointer (some ⟨c, 0, none⟩)]) :: (c, row 81 [.int .i64 y.l, .int .i64 0, .int .i64 y.sw, .int .i64 y.m, .int .i64 0]) :: (b10, row 3 (y.seen.map (Value.int .i64))) :: (b11, row 3 (y.st.map (Value.int .i64))) :: F) (fun y => y.i = x.i + 1 ∧ y.ok first by_ ps.length) ?_ ?_
          · skip
            refine WP.seq ?_
            refine WP.region [0, 1, 2, 3] rfl ?_
            refine WP.val rfl rfl rfl rfl (Yld.move rfl rfl) ?_
            refine WP.val rfl rfl rfl rfl (Yld.move rfl rfl) ?_
            refine WP.val rfl rfl rfl rfl (Yld.indexAddr rfl ty_sl_22 rfl rfl (by omega)) ?_
            refine WP.val rfl rfl rfl rfl (Yld.load rfl ty_sc_3 rfl (by repeat (first | exact There.h | exact There.i (by assumption) | apply There.t | apply There.s)) (vals_at (by rw [hx.la]; exact hk))) ?_
            refine WP.nil ?_
            refine WP.sub [(0, _), (1, _), (2, _), (6, _), (8, _), (9, _), (10, _), (11, _), (12, _), (13, _), (15, _), (16, _), (85, _)] ?_ ⟨rfl, rfl, rfl, rfl, rfl, rfl, rfl, rfl, rfl, rfl, rfl, rfl, rfl, trivial⟩
            refine WP.next ?_
            refine WP.block ?_
            refine WP.seq ?_
            refine WP.region [0, 1] rfl ?_
            refine WP.split rfl rfl rfl rfl (Yld.eql rfl rfl rfl) (fun ha0 => ?_) (fun ha0 => ?_)
            · refine WP.val rfl rfl rfl rfl (Yld.assign rfl rfl) ?_
              refine WP.nil ?_
              refine WP.sub [(0, _), (1, _), (2, _), (6, _), (8, _), (9, _), (10, _), (11, _), (12, _), (13, _), (15, _), (16, _), (85, _), (86, _)] ?_ ⟨rfl, rfl, rfl, rfl, rfl, rfl, rfl, rfl, rfl, rfl, rfl, rfl, rfl, rfl, trivial⟩
              refine WP.next ?_
              refine WP.condT rfl ?_
              refine WP.seq ?_
              refine WP.region [0, 1, 2, 3, 4, 5] rfl ?_
              refine WP.val rfl rfl rfl rfl (Yld.move rfl rfl) ?_
              refine WP.val rfl rfl rfl rfl (Yld.move rfl rfl) ?_
              refine WP.val rfl rfl rfl rfl (Yld.move rfl rfl) ?_
              refine WP.loud rfl rfl ?_
              refine Op.call cell_Load rfl Try.func14 rfl rfl rfl rfl (by repeat (first | exact Take.nil | apply Take.cons | apply Take.app | exact Rm.chunk | exact Rm.here | apply Rm.skip | apply Rm.skipS | apply Take.all)) ?_
              rintro v J L1 hJ ⟨rfl, rfl, rfl⟩
              clear hJ; try simp only [List.cons_append, List.nil_append, List.append_assoc]
              refine WP.val rfl rfl rfl rfl (Yld.indexAddr rfl ty_sl_22 rfl rfl (by omega)) ?_
              refine WP.loud rfl rfl ?_
              refine Op.store1 rfl rfl ty_sz_3 rfl rfl rfl (by repeat (first | exact Upd.head | apply Upd.tail | apply Upd.tailS)) (set_at _ (by rw [hx.ls]; exact hk)) ?_
              refine WP.nil ?_
              refine WP.sub [(0, _), (1, _), (2, _), (6, _), (8, _), (9, _), (10, _), (11, _), (12, _), (13, _), (15, _), (16, _), (85, _), (86, _)] ?_ ⟨rfl, rfl, rfl, rfl, rfl, rfl, rfl, rfl, rfl, rfl, rfl, rfl, rfl, rfl, trivial⟩
              refine WP.next ?_
              refine WP.region [0, 1, 2, 3] rfl ?_
              refine WP.val rfl rfl rfl rfl (Yld.move rfl rfl) ?_
              refine WP.val rfl rfl rfl rfl (Yld.move rfl rfl) ?_
              refine WP.val rfl rfl rfl rfl (Yld.indexAddr rfl ty_sl_22 rfl rfl (by omega)) ?_
              refine WP.loud rfl rfl ?_
              refine Op.store1 rfl rfl ty_sz_3 rfl rfl rfl (by repeat (first | exact Upd.head | apply Upd.tail | apply Upd.tailS)) (set_at _ (by rw [hx.la]; exact hk)) ?_
              refine WP.nil ?_
              refine WP.sub [(0, _), (1, _), (2, _), (6, _), (8, _), (9, _), (10, _), (11, _), (12, _), (13, _), (15, _), (16, _), (85, _), (86, _)] ?_ ⟨rfl, rfl, rfl, rfl, rfl, rfl, rfl, rfl, rfl, rfl, rfl, rfl, rfl, rfl, trivial⟩
              refine WP.leave ?_
              rw [hwl]; exact WP.meet _ ⟨rfl, XA.load hx hleft hkr (by rw [hx.la]; exact hk) ha0⟩ ⟨rfl, rfl, rfl, rfl, rfl, rfl, rfl, rfl, rfl, rfl, rfl, trivial⟩ rfl (by (try dsimp only); repeat (first | exact Rm.chunk | exact Rm.here | apply Rm.skip | apply Rm.skipS | apply PX.cons | (apply PX.done; (repeat (first | exact Leave.done | apply Leave.drop | apply Leave.dropS)); done) | apply PX.app))
            · refine WP.val rfl rfl rfl rfl (Yld.assign rfl rfl) ?_
              refine WP.nil ?_
              refine WP.sub [(0, _), (1, _), (2, _), (6, _), (8, _), (9, _), (10, _), (11, _), (12, _), (13, _), (15, _), (16, _), (85, _), (86, _)] ?_ ⟨rfl, rfl, rfl, rfl, rfl, rfl, rfl, rfl, rfl, rfl, rfl, rfl, rfl, rfl, trivial⟩
              refine WP.next ?_
              refine WP.condF rfl ?_
              refine WP.seq ?_
              refine WP.region [0, 1] rfl ?_
              refine WP.split rfl rfl rfl rfl (Yld.eql rfl rfl rfl) (fun ha1 => ?_) (fun ha1 => ?_)
              · obtain ⟨b, kk, arr, T, fr, rfl, hb, hel⟩ := hby.resolve_left (by rintro rfl; simp at hk)
                obtain ⟨hl1, hR, _⟩ := hel k _ (List.getElem?_eq_getElem hk)
                have e0 := take_cells hR 0 _ rfl (by decide)
                rw [Array.getElem?_toList] at e0
                refine WP.val rfl rfl rfl rfl (Yld.assign rfl rfl) ?_
                refine WP.nil ?_
                refine WP.sub [(0, _), (1, _), (2, _), (6, _), (8, _), (9, _), (10, _), (11, _), (12, _), (13, _), (15, _), (16, _), (85, _), (86, _), (96, _)] ?_ ⟨rfl, rfl, rfl, rfl, rfl, rfl, rfl, rfl, rfl, rfl, rfl, rfl, rfl, rfl, rfl, trivial⟩
                refine WP.next ?_
                refine WP.condT rfl ?_
                refine WP.seq ?_
                refine WQ.start Trymixed 14 (by kernel_rfl) _ rfl [14, 15] rfl ?_
                refine WQ.val rfl rfl rfl (Yld.move rfl rfl) ?_
                refine WQ.val rfl rfl rfl (Yld.move rfl rfl) ?_
                refine WQ.val rfl rfl rfl (Yld.move rfl rfl) ?_
                refine WQ.val rfl rfl rfl (Yld.indexAddr rfl ty_sl_22 rfl rfl (by omega)) ?_
                refine WQ.val rfl rfl rfl (Yld.load rfl ty_sc_3 rfl (by repeat (first | exact There.h | exact There.i (by assumption) | apply There.t | apply There.s)) (vals_at (by rw [hx.ls]; exact hk))) ?_
                refine WQ.val rfl rfl rfl (Yld.move rfl rfl) ?_
                refine WQ.val rfl rfl rfl (Yld.move rfl rfl) ?_
                refine WQ.val rfl rfl rfl (Yld.indexAddr rfl ty_sl_22 rfl rfl (by omega)) ?_
                refine WQ.val rfl rfl rfl (Yld.load rfl ty_sc_3 rfl (by repeat (first | exact There.h | exact There.i (by assumption) | apply There.t | apply There.s)) (vals_at (by rw [hx.ls]; exact hk))) ?_
                refine WQ.val rfl rfl rfl (Yld.move rfl rfl) ?_
                refine WQ.val rfl rfl rfl (Yld.move rfl rfl) ?_
                refine WQ.val rfl rfl rfl (Yld.indexAddr rfl ty_sl_22 rfl rfl (by omega)) ?_
                refine WQ.val rfl rfl rfl (Yld.loadC rfl ty_sc_3 rfl (There.i hb) e0) ?_
                refine WQ.val rfl rfl rfl (Yld.add rfl rfl rfl) ?_
                refine WQ.nil ?_
                refine WP.loud rfl rfl ?_
                refine Op.call cell_CAS rfl Try.func15 rfl rfl rfl rfl (by repeat (first | exact Take.nil | apply Take.cons | apply Take.app | exact Rm.chunk | exact Rm.here | apply Rm.skip | apply Rm.skipS | apply Take.all)) ?_
                rintro v J L1 hJ ⟨rfl, rfl, rfl⟩
                clear hJ; try simp only [List.cons_append, List.nil_append, List.append_assoc]
                refine WP.val rfl rfl rfl rfl (Yld.assign rfl rfl) ?_
                refine WP.nil ?_
                refine WP.sub [(0, _), (1, _), (2, _), (6, _), (8, _), (9, _), (10, _), (11, _), (12, _), (13, _), (15, _), (16, _), (17, _), (85, _), (86, _), (96, _)] ?_ ⟨rfl, rfl, rfl, rfl, rfl, rfl, rfl, rfl, rfl, rfl, rfl, rfl, rfl, rfl, rfl, rfl, trivial⟩
                refine WP.next ?_
                refine WP.seq ?_
                refine WP.region [0, 1, 2, 3] rfl ?_
                refine WP.val rfl rfl rfl rfl (Yld.move rfl rfl) ?_
                refine WP.val rfl rfl rfl rfl (Yld.move rfl rfl) ?_
                refine WP.val rfl rfl rfl rfl (Yld.indexAddr rfl ty_sl_22 rfl rfl (by omega)) ?_
                refine WP.loud rfl rfl ?_
                refine Op.store1 rfl rfl ty_sz_3 rfl rfl rfl (by repeat (first | exact Upd.head | apply Upd.tail | apply Upd.tailS)) (set_at _ (by rw [hx.la]; exact hk)) ?_
                refine WP.nil ?_
                refine WP.sub [(0, _), (1, _), (2, _), (6, _), (8, _), (9, _), (10, _), (11, _), (12, _), (13, _), (15, _), (16, _), (17, _), (85, _), (86, _), (96, _)] ?_ ⟨rfl, rfl, rfl, rfl, rfl, rfl, rfl, rfl, rfl, rfl, rfl, rfl, rfl, rfl, rfl, rfl, trivial⟩
                refine WP.next ?_
                refine WP.seq ?_
                refine WP.region [0] rfl ?_
                refine WP.val rfl rfl rfl rfl (Yld.move rfl rfl) ?_
                refine WP.nil ?_
                refine WP.next ?_
                refine WP.cond rfl (fun ht => ?_) (fun ht => ?_)
                · refine WP.seq ?_
                  refine WP.region [0, 1, 2, 3] rfl ?_
                  refine WP.val rfl rfl rfl rfl (Yld.move rfl rfl) ?_
                  refine WP.val rfl rfl rfl rfl (Yld.move rfl rfl) ?_
                  refine WP.val rfl rfl rfl rfl (Yld.indexAddr rfl ty_sl_22 rfl rfl (by omega)) ?_
                  refine WP.loud rfl rfl ?_
                  refine Op.store1 rfl rfl ty_sz_3 rfl rfl rfl (by repeat (first | exact Upd.head | apply Upd.tail | apply Upd.tailS)) (set_at _ (by simp only [List.length_set]; rw [hx.la]; exact hk)) ?_
                  refine WP.nil ?_
                  refine WP.sub [(0, _), (1, _), (2, _), (6, _), (8, _), (9, _), (10, _), (11, _), (12, _), (13, _), (15, _), (16, _), (17, _), (85, _), (86, _), (96, _), (116, _)] ?_ ⟨rfl, rfl, rfl, rfl, rfl, rfl, rfl, rfl, rfl, rfl, rfl, rfl, rfl, rfl, rfl, rfl, rfl, trivial⟩
                  refine WP.next ?_
                  refine WP.region [0, 1, 2] rfl ?_
                  refine WP.val rfl rfl rfl rfl (Yld.move rfl rfl) ?_
                  refine WP.val rfl rfl rfl rfl (Yld.sub64 rfl rfl rfl (by omega)) ?_
                  refine WP.val rfl rfl rfl rfl (Yld.assign rfl rfl) ?_
                  refine WP.nil ?_
                  refine WP.sub [(0, _), (1, _), (2, _), (6, _), (8, _), (9, _), (10, _), (11, _), (12, _), (13, _), (15, _), (16, _), (17, _), (85, _), (86, _), (96, _), (116, _)] ?_ ⟨rfl, rfl, rfl, rfl, rfl, rfl, rfl, rfl, rfl, rfl, rfl, rfl, rfl, rfl, rfl, rfl, rfl, trivial⟩
                  refine WP.leave ?_
                  have hv := of_decide_eq_true ht; simp only [if_pos hv, ← hv, List.set_set, hws]; exact WP.meet _ ⟨rfl, XA.hit hx hleft hkr (by rw [hx.la]; exact hk) ha1 (List.getElem?_eq_getElem hk)⟩ ⟨rfl, rfl, rfl, rfl, rfl, rfl, rfl, rfl, rfl, (congrArg (fun z => some (Value.int .i64 z)) (by simp only; omega)), rfl, trivial⟩ rfl (by (try dsimp only); repeat (first | exact Rm.chunk | exact Rm.here | apply Rm.skip | apply Rm.skipS | apply PX.cons | (apply PX.done; (repeat (first | exact Leave.done | apply Leave.drop | apply Leave.dropS)); done) | apply PX.app))
                · refine WP.skip ?_
                  refine WP.leave ?_
                  have hv := of_decide_eq_false ht; simp only [if_neg hv, hwm]; exact WP.meet _ ⟨rfl, XA.miss hx hleft hkr (by rw [hx.la]; exact hk) ha1 (by rw [List.getElem?_eq_getElem (by rw [hx.ls]; exact hk : k < x.seen.length)]; exact fun e => hv (Option.some.inj e).symm)⟩ ⟨rfl, rfl, rfl, rfl, rfl, rfl, rfl, rfl, rfl, rfl, rfl, trivial⟩ rfl (by (try dsimp only); repeat (first | exact Rm.chunk | exact Rm.here | apply Rm.skip | apply Rm.skipS | apply PX.cons | (apply PX.done; (repeat (first | exact Leave.done | apply Leave.drop | apply Leave.dropS)); done) | apply PX.app))
              · refine WP.val rfl rfl rfl rfl (Yld.assign rfl rfl) ?_
                refine WP.nil ?_
                refine WP.sub [(0, _), (1, _), (2, _), (6, _), (8, _), (9, _), (10, _), (11, _), (12, _), (13, _), (15, _), (16, _), (85, _), (86, _), (96, _)] ?_ ⟨rfl, rfl, rfl, rfl, rfl, rfl, rfl, rfl, rfl, rfl, rfl, rfl, rfl, rfl, rfl, trivial⟩
                refine WP.next ?_
                refine WP.condF rfl ?_
                refine WP.skip ?_
                refine WP.leave ?_
                exact WP.meet _ ⟨rfl, XA.rest hx hleft hkr (by rw [hx.la]; exact hk) (by have := hx.rng _ (List.getElem_mem (by rw [hx.la]; exact hk : k < x.st.length)); omega)⟩ ⟨rfl, rfl, rfl, rfl, rfl, rfl, rfl, rfl, rfl, rfl, rfl, trivial⟩ rfl (by (try dsimp only); repeat (first | exact Rm.chunk | exact Rm.here | apply Rm.skip | apply Rm.skipS | apply PX.cons | (apply PX.done; (repeat (first | exact Leave.done | apply Leave.drop | apply Leave.dropS)); done) | apply PX.app))
          · rintro y hy
            refine WP.seq ?_
            refine WP.region [0, 1, 2, 3, 4, 5, 6, 7, 8, 9, 10, 11] rfl ?_
            refine WP.val rfl rfl rfl rfl (Yld.move rfl rfl) ?_
            refine WP.val rfl rfl rfl rfl (Yld.move rfl rfl) ?_
            refine WP.val rfl rfl rfl rfl (Yld.len rfl ty_sl_22 rfl) ?_
            refine WP.val rfl rfl rfl rfl (Yld.move rfl rfl) ?_
            refine WP.val rfl rfl rfl rfl (Yld.len rfl ty_sl_22 rfl) ?_
            refine WP.val rfl rfl rfl rfl (Yld.move rfl rfl) ?_
            refine WP.val rfl rfl rfl rfl (Yld.len rfl ty_sl_22 rfl) ?_
            refine WP.val rfl rfl rfl rfl (Yld.mul64 rfl rfl rfl (by omega)) ?_
            refine WP.val rfl rfl rfl rfl (Yld.mul64 rfl rfl rfl (by omega)) ?_
            refine WP.val rfl rfl rfl rfl (Yld.add64 rfl rfl rfl (by omega)) ?_
            refine WP.val rfl rfl rfl rfl (Yld.add64 rfl rfl rfl (by omega)) ?_
            refine WP.val rfl rfl rfl rfl (Yld.gtr rfl rfl rfl false (decide_eq_false (by omega))) ?_
            refine WP.nil ?_
            refine WP.sub [(0, _), (1, _), (2, _), (6, _), (8, _), (9, _), (10, _), (11, _), (12, _), (13, _), (15, _), (133, _)] ?_ ⟨rfl, rfl, rfl, rfl, rfl, rfl, rfl, rfl, rfl, rfl, rfl, rfl, trivial⟩
            refine WP.next ?_
            refine WP.condF rfl ?_
            refine WP.skip ?_
            refine WP.leave ?_
            refine WP.next ?_
            refine WP.region [0, 1, 2] rfl ?_
            refine WP.val rfl rfl rfl rfl (Yld.move rfl rfl) ?_
            refine WP.val rfl rfl rfl rfl (Yld.add64 rfl rfl rfl (by omega)) ?_
            refine WP.val rfl rfl rfl rfl (Yld.assign rfl rfl) ?_
            refine WP.nil ?_
            refine WP.sub [(0, _), (1, _), (2, _), (6, _), (8, _), (9, _), (10, _), (11, _), (12, _), (13, _), (15, _), (133, _)] ?_ ⟨rfl, rfl, rfl, rfl, rfl, rfl, rfl, rfl, rfl, rfl, rfl, rfl, trivial⟩
            exact WP.again y hy.2 (by simp only [hy.1]; omega) ⟨rfl, rfl, rfl, rfl, rfl, rfl, rfl, rfl, rfl, rfl, (congrArg (fun z => some (Value.int .i64 z)) (by rw [hy.1]; rfl)), trivial⟩ rfl (by (try dsimp only); repeat (first | exact Rm.chunk | exact Rm.here | apply Rm.skip | apply Rm.skipS | apply PX.cons | (apply PX.done; (repeat (first | exact Leave.done | apply Leave.drop | apply Leave.dropS)); done) | apply PX.app))
      · have hnn : by_.length * by_.length ≤ 200 * 200 := Nat.mul_le_mul (by omega) (by omega)
        generalize hNN : by_.length * by_.length = NN at hnn
        have hlb := hx.lb
        have hib := hx.ib
        rw [hNN] at hib
        have hm0 := hx.m0
        obtain ⟨hd1, hd2, hd3⟩ := XA.done hx (by omega)
        refine WP.nil ?_
        refine WP.sub [(0, _), (1, _), (2, _), (6, _), (8, _), (9, _), (10, _), (11, _), (12, _), (13, _), (15, _), (58, _)] ?_ ⟨rfl, rfl, rfl, rfl, rfl, rfl, rfl, rfl, rfl, rfl, rfl, rfl, trivial⟩
        refine WP.next ?_
        refine WP.condF rfl ?_
        refine WP.exit ?_
        refine WP.thenE ?_
        refine WP.thenE ?_
        refine WP.hit ?_
        refine WP.next ?_
        refine WP.seq ?_
        refine WP.region [0, 1, 2, 3] rfl ?_
        refine WP.val rfl rfl rfl rfl (Yld.move rfl rfl) ?_
        refine WP.loud rfl rfl ?_
        refine Op.call cell_Tally rfl Try.func16 rfl rfl rfl rfl (by repeat (first | exact Take.nil | apply Take.cons | apply Take.app | exact Rm.chunk | exact Rm.here | apply Rm.skip | apply Rm.skipS | apply Take.all)) ?_
        rintro v J L1 hJ ⟨rfl, rfl, rfl⟩
        clear hJ; try simp only [List.cons_append, List.nil_append, List.append_assoc]
        refine WP.loud rfl rfl ?_
        refine Op.alloc rfl rfl rfl ty_zr_31 (fun b18 => ?_)
        refine WP.loud rfl rfl ?_
        refine Op.storeAll rfl rfl ty_sz_31 rfl rfl rfl rfl (by repeat (first | exact Upd.head | apply Upd.tail | apply Upd.tailS)) rfl ?_
        refine WP.nil ?_
        refine WP.sub [(0, _), (1, _), (2, _), (6, _), (8, _), (9, _), (10, _), (11, _), (12, _), (13, _), (15, _), (18, _), (58, _)] ?_ ⟨rfl, rfl, rfl, rfl, rfl, rfl, rfl, rfl, rfl, rfl, rfl, rfl, rfl, trivial⟩
        refine WP.next ?_
        refine WP.seq ?_
        refine WP.region [0, 1, 2, 3, 4, 5, 6, 7, 8, 9, 10, 11, 12, 13, 14, 15, 16, 17, 18, 19, 20, 21] rfl ?_
        refine WP.val rfl rfl rfl rfl (Yld.move rfl rfl) ?_
        refine WP.loud rfl rfl ?_
        refine Op.call cell_Load rfl Try.func14 rfl rfl rfl rfl (by repeat (first | exact Take.nil | apply Take.cons | apply Take.app | exact Rm.chunk | exact Rm.here | apply Rm.skip | apply Rm.skipS | apply Take.all)) ?_
        rintro v J L1 hJ ⟨rfl, rfl, rfl⟩
        clear hJ; try simp only [List.cons_append, List.nil_append, List.append_assoc]
        refine WP.val rfl rfl rfl rfl (Yld.move rfl rfl) ?_
        refine WP.val rfl rfl rfl rfl (Yld.eql rfl rfl rfl true (decide_eq_true (by exact hd1))) ?_
        refine WP.val rfl rfl rfl rfl (Yld.move rfl rfl) ?_
        refine WP.valG rfl rfl rfl rfl rfl rfl rfl (Yld.fieldAddr rfl ty_fd_31_2 rfl) ?_
        refine WP.valG rfl rfl rfl rfl rfl rfl rfl (Yld.load rfl ty_sc_3 rfl (by repeat (first | exact There.h | exact There.i (by assumption) | apply There.t | apply There.s)) rfl) ?_
        refine WP.valG rfl rfl rfl rfl rfl rfl rfl (Yld.move rfl rfl) ?_
        refine WP.valG rfl rfl rfl rfl rfl rfl rfl (Yld.len rfl ty_sl_22 rfl) ?_
        refine WP.valG rfl rfl rfl rfl rfl rfl rfl (Yld.eql rfl rfl rfl true (decide_eq_true (by exact hd2))) ?_
        refine WP.val rfl rfl rfl rfl (Yld.pickT rfl rfl rfl) ?_
        refine WP.val rfl rfl rfl rfl (Yld.move rfl rfl) ?_
        refine WP.valG rfl rfl rfl rfl rfl rfl rfl (Yld.fieldAddr rfl ty_fd_31_0 rfl) ?_
        refine WP.valG rfl rfl rfl rfl rfl rfl rfl (Yld.load rfl ty_sc_3 rfl (by repeat (first | exact There.h | exact There.i (by assumption) | apply There.t | apply There.s)) rfl) ?_
        refine WP.valG rfl rfl rfl rfl rfl rfl rfl (Yld.fieldAddr rfl ty_fd_31_2 rfl) ?_
        refine WP.valG rfl rfl rfl rfl rfl rfl rfl (Yld.load rfl ty_sc_3 rfl (by repeat (first | exact There.h | exact There.i (by assumption) | apply There.t | apply There.s)) rfl) ?_
        refine WP.valG rfl rfl rfl rfl rfl rfl rfl (Yld.fieldAddr rfl ty_fd_31_3 rfl) ?_
        refine WP.valG rfl rfl rfl rfl rfl rfl rfl (Yld.load rfl ty_sc_3 rfl (by repeat (first | exact There.h | exact There.i (by assumption) | apply There.t | apply There.s)) rfl) ?_
        refine WP.valG rfl rfl rfl rfl rfl rfl rfl (Yld.add64 rfl rfl rfl (by omega)) ?_
        refine WP.valG rfl rfl rfl rfl rfl rfl rfl (Yld.eql rfl rfl rfl true (decide_eq_true (by exact hd3))) ?_
        refine WP.val rfl rfl rfl rfl (Yld.pickT rfl rfl rfl) ?_
        refine WP.val rfl rfl rfl rfl (Yld.assign rfl rfl) ?_
        refine WP.nil ?_
        refine WP.sub [(0, _), (1, _), (2, _), (6, _), (8, _), (9, _), (10, _), (11, _), (12, _), (13, _), (15, _), (18, _), (58, _)] ?_ ⟨rfl, rfl, rfl, rfl, rfl, rfl, rfl, rfl, rfl, rfl, rfl, rfl, rfl, trivial⟩
        refine WP.next ?_
        refine WP.ret ?_
        refine WP.fin .ret (.inr rfl) (res1 rfl rfl) [] (by repeat (first | exact Take.nil | apply Take.cons | apply Take.app | exact Rm.chunk | exact Rm.here | apply Rm.skip | apply Rm.skipS | apply Take.all)) (by repeat (first | exact Leave.done | apply Leave.drop | apply Leave.dropS)) (Imm.le_refl _) ?_
        exact ⟨rfl, rfl, rfl⟩


end Go.Hp
