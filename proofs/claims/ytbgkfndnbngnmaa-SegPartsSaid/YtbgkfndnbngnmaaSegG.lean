import Derived.Test.YtbgkfndnbngnmaaSegF
set_option linter.unusedVariables false
set_option linter.unusedSimpArgs false
namespace Go.Hp
open Go Go.Proofs
set_option maxHeartbeats 1000000 in
theorem seg_Parts {I : Imm} {no place era : Int} {b : List UInt8} {vb : Value} (hb : SlRd (Im I) vb b.length 1 (bytesV b)) (hbl : b.length ≤ 140737488351232) (hno : -9223372036854775808 ≤ no ∧ no ≤ 9223372036854775807) (hpl : -9223372036854775808 ≤ place ∧ place ≤ 9223372036854775807) : Spec Try.prog 9 [.int .i64 no, .int .i64 place, .int .i64 era, vb] I [] (fun v J L => ∃ vo l Lo Ld, v = .tuple #[vo, .int .i64 (pcutE no place era b)] ∧ l.map (·.1) = pcutL no place era b ∧ Own 35 6 vo (pcells l) l.length Lo ∧ OData l Ld ∧ L = Lo ++ Ld) := by
  refine Spec.of Try.func9 rfl Try.ntmps9 (Nat.le_of_ble_eq_true rfl) (fun F => ?_)
  try simp only [List.cons_append, List.nil_append, List.append_assoc]
  dsimp only [argsEnv]
  refine WP.seq ?_
  refine WP.region [0, 1] rfl ?_
  refine WP.val rfl rfl rfl rfl (Yld.assign rfl rfl) ?_
  refine WP.val rfl rfl rfl rfl (Yld.assign rfl rfl) ?_
  refine WP.nil ?_
  refine WP.next ?_
  refine WP.seq ?_
  refine WP.seq ?_
  refine WP.region [0, 1, 2] rfl ?_
  refine WP.val rfl rfl rfl rfl (Yld.move rfl rfl) ?_
  refine WP.val rfl rfl rfl rfl (Yld.lenR hb rfl ty_sl_22 rfl) ?_
  refine WP.split rfl rfl rfl rfl (Yld.gtr rfl rfl rfl) (fun hlong => ?_) (fun hlong => ?_)
  · refine WP.nil ?_
    refine WP.sub [(0, _), (1, _), (2, _), (3, _), (8, _), (9, _), (16, _)] ?_ ⟨rfl, rfl, rfl, rfl, rfl, rfl, rfl, trivial⟩
    refine WP.next ?_
    refine WP.condT rfl ?_
    refine WP.seq ?_
    refine WP.region [0, 1] rfl ?_
    refine WP.val rfl rfl rfl rfl (Yld.assign rfl rfl) ?_
    refine WP.val rfl rfl rfl rfl (Yld.assign rfl rfl) ?_
    refine WP.nil ?_
    refine WP.next ?_
    refine WP.ret ?_
    refine WP.fin .ret (.inr rfl) (res2 rfl rfl rfl) [] (by repeat (first | exact Take.nil | with_reducible apply Take.cons | apply Take.app | exact Rm.chunk | exact Rm.here | exact Rm.nil0 | apply Rm.skip | apply Rm.skipS | (focus (apply Take.all; (repeat (first | exact Rm.chunk | exact Rm.here | exact Rm.nil0 | apply Rm.skip | apply Rm.skipS)); done)) | apply Take.cons)) (by repeat (first | exact Leave.done | apply Leave.drop | apply Leave.dropS)) (Imm.le_refl _) ?_
    have e : pcutE no place era b = 2 := if_pos (by omega)
    have e2 : pcutL no place era b = [] := if_neg (by rw [e]; decide)
    rw [e, e2]; exact ⟨_, [], [], [], rfl, rfl, .none0, .nil, rfl⟩
  · have hlong : b.length ≤ 12672 := by omega
    refine WP.nil ?_
    refine WP.sub [(0, _), (1, _), (2, _), (3, _), (8, _), (9, _), (16, _)] ?_ ⟨rfl, rfl, rfl, rfl, rfl, rfl, rfl, trivial⟩
    refine WP.next ?_
    refine WP.condF rfl ?_
    refine WP.skip ?_
    refine WP.next ?_
    refine WP.seq ?_
    refine WP.region [0, 1, 2, 3, 4, 5] rfl ?_
    refine WP.val rfl rfl rfl rfl (Yld.move rfl rfl) ?_
    refine WP.val rfl rfl rfl rfl (Yld.lenR hb rfl ty_sl_22 rfl) ?_
    refine WP.val rfl rfl rfl rfl (Yld.add64 rfl rfl rfl (by omega)) ?_
    refine WP.val rfl rfl rfl rfl (Yld.sub64 rfl rfl rfl (by omega)) ?_
    refine WP.val rfl rfl rfl rfl (Yld.quo64 rfl rfl rfl (by omega)) ?_
    rw [show ((b.length : Int) + 198 - 1) / 198 = (pmanyOf b : Int) by unfold pmanyOf; omega]
    have hmb : pmanyOf b ≤ 64 := by unfold pmanyOf; omega
    refine WP.val rfl rfl rfl rfl (Yld.assign rfl rfl) ?_
    refine WP.nil ?_
    refine WP.sub [(0, _), (1, _), (2, _), (3, _), (8, _), (9, _), (10, _), (16, _)] ?_ ⟨rfl, rfl, rfl, rfl, rfl, rfl, rfl, rfl, trivial⟩
    refine WP.next ?_
    refine WP.seq ?_
    refine WP.seq ?_
    refine WP.region [0, 1, 2, 3, 4, 5, 6, 7, 8, 9, 10, 11, 12, 13, 14, 15, 16, 17, 18, 19, 20] rfl ?_
    refine WP.val rfl rfl rfl rfl (Yld.move rfl rfl) ?_
    refine WP.split rfl rfl rfl rfl (Yld.eql rfl rfl rfl) (fun hz => ?_) (fun hz => ?_)
    · refine WP.val rfl rfl rfl rfl (Yld.move rfl rfl) ?_
      refine WP.passG rfl rfl rfl rfl rfl rfl rfl rfl ?_
      refine WP.passG rfl rfl rfl rfl rfl rfl rfl rfl ?_
      refine WP.val rfl rfl rfl rfl (Yld.pickT rfl rfl rfl) ?_
      refine WP.val rfl rfl rfl rfl (Yld.move rfl rfl) ?_
      refine WP.passG rfl rfl rfl rfl rfl rfl rfl rfl ?_
      refine WP.passG rfl rfl rfl rfl rfl rfl rfl rfl ?_
      refine WP.passG rfl rfl rfl rfl rfl rfl rfl rfl ?_
      refine WP.passG rfl rfl rfl rfl rfl rfl rfl rfl ?_
      refine WP.passG rfl rfl rfl rfl rfl rfl rfl rfl ?_
      refine WP.val rfl rfl rfl rfl (Yld.pickT rfl rfl rfl) ?_
      refine WP.val rfl rfl rfl rfl (Yld.move rfl rfl) ?_
      refine WP.passG rfl rfl rfl rfl rfl rfl rfl rfl ?_
      refine WP.passG rfl rfl rfl rfl rfl rfl rfl rfl ?_
      refine WP.passG rfl rfl rfl rfl rfl rfl rfl rfl ?_
      refine WP.passG rfl rfl rfl rfl rfl rfl rfl rfl ?_
      refine WP.passG rfl rfl rfl rfl rfl rfl rfl rfl ?_
      refine WP.passG rfl rfl rfl rfl rfl rfl rfl rfl ?_
      refine WP.val rfl rfl rfl rfl (Yld.pickT rfl rfl rfl) ?_
      refine WP.nil ?_
      refine WP.sub [(0, _), (1, _), (2, _), (3, _), (8, _), (9, _), (10, _), (16, _), (42, _)] ?_ ⟨rfl, rfl, rfl, rfl, rfl, rfl, rfl, rfl, rfl, trivial⟩
      refine WP.next ?_
      refine WP.condT rfl ?_
      refine WP.seq ?_
      refine WP.region [0, 1] rfl ?_
      refine WP.val rfl rfl rfl rfl (Yld.assign rfl rfl) ?_
      refine WP.val rfl rfl rfl rfl (Yld.assign rfl rfl) ?_
      refine WP.nil ?_
      refine WP.next ?_
      refine WP.ret ?_
      refine WP.fin .ret (.inr rfl) (res2 rfl rfl rfl) [] (by repeat (first | exact Take.nil | with_reducible apply Take.cons | apply Take.app | exact Rm.chunk | exact Rm.here | exact Rm.nil0 | apply Rm.skip | apply Rm.skipS | (focus (apply Take.all; (repeat (first | exact Rm.chunk | exact Rm.here | exact Rm.nil0 | apply Rm.skip | apply Rm.skipS)); done)) | apply Take.cons)) (by repeat (first | exact Leave.done | apply Leave.drop | apply Leave.dropS)) (Imm.le_refl _) ?_
      have e : pcutE no place era b = 1 := by unfold pcutE; rw [if_neg (by omega), if_pos (.inl (by omega))]
      have e2 : pcutL no place era b = [] := if_neg (by rw [e]; decide)
      rw [e, e2]; exact ⟨_, [], [], [], rfl, rfl, .none0, .nil, rfl⟩
    · refine WP.val rfl rfl rfl rfl (Yld.move rfl rfl) ?_
      refine WP.valG rfl rfl rfl rfl rfl rfl rfl (Yld.move rfl rfl) ?_
      refine WP.splitG rfl rfl rfl rfl rfl rfl rfl (Yld.lss rfl rfl rfl) (fun hp0 => ?_) (fun hp0 => ?_)
      · refine WP.val rfl rfl rfl rfl (Yld.pickF rfl rfl rfl) ?_
        refine WP.val rfl rfl rfl rfl (Yld.move rfl rfl) ?_
        refine WP.passG rfl rfl rfl rfl rfl rfl rfl rfl ?_
        refine WP.passG rfl rfl rfl rfl rfl rfl rfl rfl ?_
        refine WP.passG rfl rfl rfl rfl rfl rfl rfl rfl ?_
        refine WP.passG rfl rfl rfl rfl rfl rfl rfl rfl ?_
        refine WP.passG rfl rfl rfl rfl rfl rfl rfl rfl ?_
        refine WP.val rfl rfl rfl rfl (Yld.pickT rfl rfl rfl) ?_
        refine WP.val rfl rfl rfl rfl (Yld.move rfl rfl) ?_
        refine WP.passG rfl rfl rfl rfl rfl rfl rfl rfl ?_
        refine WP.passG rfl rfl rfl rfl rfl rfl rfl rfl ?_
        refine WP.passG rfl rfl rfl rfl rfl rfl rfl rfl ?_
        refine WP.passG rfl rfl rfl rfl rfl rfl rfl rfl ?_
        refine WP.passG rfl rfl rfl rfl rfl rfl rfl rfl ?_
        refine WP.passG rfl rfl rfl rfl rfl rfl rfl rfl ?_
        refine WP.val rfl rfl rfl rfl (Yld.pickT rfl rfl rfl) ?_
        refine WP.nil ?_
        refine WP.sub [(0, _), (1, _), (2, _), (3, _), (8, _), (9, _), (10, _), (16, _), (42, _)] ?_ ⟨rfl, rfl, rfl, rfl, rfl, rfl, rfl, rfl, rfl, trivial⟩
        refine WP.next ?_
        refine WP.condT rfl ?_
        refine WP.seq ?_
        refine WP.region [0, 1] rfl ?_
        refine WP.val rfl rfl rfl rfl (Yld.assign rfl rfl) ?_
        refine WP.val rfl rfl rfl rfl (Yld.assign rfl rfl) ?_
        refine WP.nil ?_
        refine WP.next ?_
        refine WP.ret ?_
        refine WP.fin .ret (.inr rfl) (res2 rfl rfl rfl) [] (by repeat (first | exact Take.nil | with_reducible apply Take.cons | apply Take.app | exact Rm.chunk | exact Rm.here | exact Rm.nil0 | apply Rm.skip | apply Rm.skipS | (focus (apply Take.all; (repeat (first | exact Rm.chunk | exact Rm.here | exact Rm.nil0 | apply Rm.skip | apply Rm.skipS)); done)) | apply Take.cons)) (by repeat (first | exact Leave.done | apply Leave.drop | apply Leave.dropS)) (Imm.le_refl _) ?_
        have e : pcutE no place era b = 1 := by unfold pcutE; rw [if_neg (by omega), if_pos (.inr (.inl (by omega)))]
        have e2 : pcutL no place era b = [] := if_neg (by rw [e]; decide)
        rw [e, e2]; exact ⟨_, [], [], [], rfl, rfl, .none0, .nil, rfl⟩
      · refine WP.val rfl rfl rfl rfl (Yld.pickF rfl rfl rfl) ?_
        refine WP.val rfl rfl rfl rfl (Yld.move rfl rfl) ?_
        refine WP.valG rfl rfl rfl rfl rfl rfl rfl (Yld.move rfl rfl) ?_
        refine WP.valG rfl rfl rfl rfl rfl rfl rfl (Yld.move rfl rfl) ?_
        refine WP.valG rfl rfl rfl rfl rfl rfl rfl (Yld.sub64 rfl rfl rfl (by omega)) ?_
        refine WP.valG rfl rfl rfl rfl rfl rfl rfl (Yld.add64 rfl rfl rfl (by omega)) ?_
        refine WP.splitG rfl rfl rfl rfl rfl rfl rfl (Yld.gtr rfl rfl rfl) (fun hp1 => ?_) (fun hp1 => ?_)
        · refine WP.val rfl rfl rfl rfl (Yld.pickF rfl rfl rfl) ?_
          refine WP.val rfl rfl rfl rfl (Yld.move rfl rfl) ?_
          refine WP.passG rfl rfl rfl rfl rfl rfl rfl rfl ?_
          refine WP.passG rfl rfl rfl rfl rfl rfl rfl rfl ?_
          refine WP.passG rfl rfl rfl rfl rfl rfl rfl rfl ?_
          refine WP.passG rfl rfl rfl rfl rfl rfl rfl rfl ?_
          refine WP.passG rfl rfl rfl rfl rfl rfl rfl rfl ?_
          refine WP.passG rfl rfl rfl rfl rfl rfl rfl rfl ?_
          refine WP.val rfl rfl rfl rfl (Yld.pickT rfl rfl rfl) ?_
          refine WP.nil ?_
          refine WP.sub [(0, _), (1, _), (2, _), (3, _), (8, _), (9, _), (10, _), (16, _), (42, _)] ?_ ⟨rfl, rfl, rfl, rfl, rfl, rfl, rfl, rfl, rfl, trivial⟩
          refine WP.next ?_
          refine WP.condT rfl ?_
          refine WP.seq ?_
          refine WP.region [0, 1] rfl ?_
          refine WP.val rfl rfl rfl rfl (Yld.assign rfl rfl) ?_
          refine WP.val rfl rfl rfl rfl (Yld.assign rfl rfl) ?_
          refine WP.nil ?_
          refine WP.next ?_
          refine WP.ret ?_
          refine WP.fin .ret (.inr rfl) (res2 rfl rfl rfl) [] (by repeat (first | exact Take.nil | with_reducible apply Take.cons | apply Take.app | exact Rm.chunk | exact Rm.here | exact Rm.nil0 | apply Rm.skip | apply Rm.skipS | (focus (apply Take.all; (repeat (first | exact Rm.chunk | exact Rm.here | exact Rm.nil0 | apply Rm.skip | apply Rm.skipS)); done)) | apply Take.cons)) (by repeat (first | exact Leave.done | apply Leave.drop | apply Leave.dropS)) (Imm.le_refl _) ?_
          have e : pcutE no place era b = 1 := by unfold pcutE; rw [if_neg (by omega), if_pos (.inr (.inr (.inl (by omega))))]
          have e2 : pcutL no place era b = [] := if_neg (by rw [e]; decide)
          rw [e, e2]; exact ⟨_, [], [], [], rfl, rfl, .none0, .nil, rfl⟩
        · refine WP.val rfl rfl rfl rfl (Yld.pickF rfl rfl rfl) ?_
          refine WP.val rfl rfl rfl rfl (Yld.move rfl rfl) ?_
          refine WP.valG rfl rfl rfl rfl rfl rfl rfl (Yld.move rfl rfl) ?_
          refine WP.valG rfl rfl rfl rfl rfl rfl rfl (Yld.move rfl rfl) ?_
          refine WP.loudG rfl rfl rfl rfl rfl ?_
          refine Op.buildSlice rfl ty_sl_22 ty_el2_22 rfl rfl rfl rfl (vs := [_]) rfl (segs := [(0, [_])]) (cs := bytesV [0]) rfl rfl (by repeat (first | exact SetSeg.nil | apply SetSeg.one | exact SetAt.zero | apply SetAt.succ)) (fun bz => ?_)
          refine WP.share (fun J1 hJ1 hbz => ?_)
          have hb := hb.mono (fun b o h => hJ1.2 b o h)
          have hp0v := Im_lit (l := [0]) (sp := []) (c := 1) (by rw [List.append_nil]; exact hbz) (Nat.le_refl _)
          refine WP.valG rfl rfl rfl rfl rfl rfl rfl (Yld.buildS (pl := [(1, 1, 1), (3, 3, 1), (4, 4, 1), (5, 5, 1)]) rfl ty_zr_35 ty_zd_35 (by kernel_rfl) rfl (vs := [_, _, _, _]) rfl (segs := [(1, [_]), (3, [_]), (4, [_]), (5, [_])]) rfl rfl (by repeat (first | exact SetSeg.nil | apply SetSeg.one | exact SetAt.zero | apply SetAt.succ))) ?_
          refine WP.loudG rfl rfl rfl rfl rfl ?_
          refine Op.call (seg_mayQ (p := (⟨0, no, 0, era, 1, [0]⟩ : Pt)) hp0v) rfl Try.func32 rfl rfl rfl rfl (by repeat (first | exact Take.nil | with_reducible apply Take.cons | apply Take.app | exact Rm.chunk | exact Rm.here | exact Rm.nil0 | apply Rm.skip | apply Rm.skipS | (focus (apply Take.all; (repeat (first | exact Rm.chunk | exact Rm.here | exact Rm.nil0 | apply Rm.skip | apply Rm.skipS)); done)) | apply Take.cons)) ?_
          rintro v J L1 hJ ⟨rfl, rfl, rfl⟩
          clear hJ; try simp only [List.cons_append, List.nil_append, List.append_assoc]
          by_cases hmay : (decide ((⟨0, no, 0, era, 1, [0]⟩ : Pt).may)) = true
          · rw [hmay]
            refine WP.valG rfl rfl rfl rfl rfl rfl rfl (Yld.not rfl rfl) ?_
            refine WP.val rfl rfl rfl rfl (Yld.pickF rfl rfl rfl) ?_
            refine WP.nil ?_
            refine WP.sub [(0, _), (1, _), (2, _), (3, _), (8, _), (9, _), (10, _), (16, _), (42, _)] ?_ ⟨rfl, rfl, rfl, rfl, rfl, rfl, rfl, rfl, rfl, trivial⟩
            refine WP.next ?_
            refine WP.condF rfl ?_
            refine WP.skip ?_
            refine WP.next ?_
            refine WP.seq ?_
            have hE : pcutE no place era b = 0 := by unfold pcutE; rw [if_neg (by omega), if_neg (fun h => by rcases h with h | h | h | h; omega; omega; omega; exact h (of_decide_eq_true hmay))]
            refine WP.region [0] rfl ?_
            refine WP.val rfl rfl rfl rfl (Yld.assign rfl rfl) ?_
            refine WP.nil ?_
            refine WP.next ?_
            refine WP.seq ?_
            refine WP.seq ?_
            refine WP.region [0, 1] rfl ?_
            refine WP.val rfl rfl rfl rfl (Yld.move rfl rfl) ?_
            refine WP.val rfl rfl rfl rfl (Yld.move rfl rfl) ?_
            refine WP.nil ?_
            refine WP.next ?_
            refine WP.block ?_
            refine WP.loop (X := PX2) (fun t : PX2 => [(0, .int .i64 no), (1, .int .i64 place), (2, .int .i64 era), (3, t.v), (10, .int .i64 (pmanyOf b : Int)), (11, t.vo), (43, .int .i64 (pmanyOf b : Int)), (44, .int .i64 (t.i : Int))]) (fun _ => J1) (fun t : PX2 => t.Lo ++ (t.Ld ++ F)) (fun t => t.ok J1 no place era b (pmanyOf b)) (fun t => pmanyOf b - t.i) ⟨0, vb, .slice none 0 0, [], [], []⟩ ⟨Nat.zero_le _, (by rw [Nat.zero_mul, List.drop_zero]; exact hb), .none0, .nil, rfl⟩ ⟨rfl, rfl, rfl, rfl, rfl, rfl, rfl, rfl, trivial⟩ rfl (by (try dsimp only); repeat (first | exact Rm.chunk | exact Rm.here | exact Rm.nil0 | apply Rm.skip | apply Rm.skipS | apply PX.cons | (apply PX.done; (repeat (first | exact Leave.done | apply Leave.drop | apply Leave.dropS)); done) | apply PX.app)) ?_
            rintro ⟨i, v, vo, l, Lo, Ld⟩ ⟨hle, hrd, how, hod, heq⟩; dsimp only at hle hrd how hod heq
            try dsimp only
            try simp only [List.cons_append, List.nil_append, List.append_assoc]
            refine WP.seq ?_
            refine WP.region [0] rfl ?_
            refine WP.split rfl rfl rfl rfl (Yld.lss rfl rfl rfl) (fun hlt => ?_) (fun hlt => ?_)
            · have hi : i < pmanyOf b := by omega
              have hll := congrArg List.length heq
              simp only [List.length_map, List.length_range] at hll
              obtain ⟨Av, cv, rfl, hcv, _, _⟩ := id hrd
              have hdl : (b.drop (i * 198)).length = b.length - i * 198 := by simp
              have hpos : 0 < (b.drop (i * 198)).length := by unfold pmanyOf at hi; omega
              have hs3 := SlRd.sub3 hrd (h := min 198 (b.drop (i * 198)).length) (Nat.min_le_right _ _)
              rw [Nat.mul_one, bytesV_take] at hs3
              have htk : (b.drop (i * 198)).take (min 198 (b.drop (i * 198)).length) = (b.drop (i * 198)).take 198 := by rcases Nat.le_total 198 (b.drop (i * 198)).length with h | h; rw [Nat.min_eq_left h]; rw [Nat.min_eq_right h, List.take_of_length_le (Nat.le_refl _), List.take_of_length_le h]
              rw [htk] at hs3
              have htl : ((b.drop (i * 198)).take 198).length = min 198 (b.drop (i * 198)).length := List.length_take
              refine WP.nil ?_
              refine WP.next ?_
              refine WP.seq ?_
              refine WP.condT rfl ?_
              refine WP.skip ?_
              refine WP.next ?_
              refine WP.seq ?_
              refine WP.block ?_
              refine WP.seq ?_
              refine WP.region [0, 1] rfl ?_
              refine WP.val rfl rfl rfl rfl (Yld.move rfl rfl) ?_
              refine WP.val rfl rfl rfl rfl (Yld.assign rfl rfl) ?_
              refine WP.nil ?_
              refine WP.sub [(0, _), (1, _), (2, _), (3, _), (10, _), (11, _), (12, _), (43, _), (44, _), (45, _)] ?_ ⟨rfl, rfl, rfl, rfl, rfl, rfl, rfl, rfl, rfl, rfl, trivial⟩
              refine WP.next ?_
              refine WP.seq ?_
              refine WP.region [0, 1, 2, 3] rfl ?_
              refine WP.val rfl rfl rfl rfl (Yld.move rfl rfl) ?_
              refine WP.val rfl rfl rfl rfl (Yld.lenR hrd rfl ty_sl_22 rfl) ?_
              refine WP.val rfl rfl rfl rfl (Yld.min2 rfl rfl rfl ((min 198 (b.drop (i * 198)).length : Nat) : Int) (by split <;> omega)) ?_
              refine WP.val rfl rfl rfl rfl (Yld.assign rfl rfl) ?_
              refine WP.nil ?_
              refine WP.sub [(0, _), (1, _), (2, _), (3, _), (10, _), (11, _), (12, _), (13, _), (43, _), (44, _), (45, _)] ?_ ⟨rfl, rfl, rfl, rfl, rfl, rfl, rfl, rfl, rfl, rfl, rfl, trivial⟩
              refine WP.next ?_
              refine WP.seq ?_
              refine WP.region [0, 1, 2, 3, 4, 5, 6, 7, 8, 9, 10, 11, 12, 13, 14, 15, 16] rfl ?_
              refine WP.val rfl rfl rfl rfl (Yld.move rfl rfl) ?_
              refine WP.val rfl rfl rfl rfl (Yld.move rfl rfl) ?_
              refine WP.val rfl rfl rfl rfl (Yld.move rfl rfl) ?_
              refine WP.val rfl rfl rfl rfl (Yld.add64 rfl rfl rfl (by omega)) ?_
              refine WP.val rfl rfl rfl rfl (Yld.move rfl rfl) ?_
              refine WP.val rfl rfl rfl rfl (Yld.move rfl rfl) ?_
              refine WP.val rfl rfl rfl rfl (Yld.move rfl rfl) ?_
              refine WP.val rfl rfl rfl rfl (Yld.move rfl rfl) ?_
              refine WP.val rfl rfl rfl rfl (Yld.move rfl rfl) ?_
              refine WP.val rfl rfl rfl rfl (Yld.move rfl rfl) ?_
              refine WP.val rfl rfl rfl rfl (Yld.move rfl rfl) ?_
              refine WP.val rfl rfl rfl rfl (Yld.slice3 (h := min 198 (b.drop (i * 198)).length) rfl ty_sl_22 rfl rfl rfl (by omega)) ?_
              refine WP.loud rfl rfl ?_
              refine Op.call (slices_Clone (bs := (b.drop (i * 198)).take 198) (by rw [htl]; exact hs3) (by rw [htl]; omega)) rfl Try.func33 rfl rfl rfl rfl (by repeat (first | exact Take.nil | with_reducible apply Take.cons | apply Take.app | exact Rm.chunk | exact Rm.here | exact Rm.nil0 | apply Rm.skip | apply Rm.skipS | (focus (apply Take.all; (repeat (first | exact Rm.chunk | exact Rm.here | exact Rm.nil0 | apply Rm.skip | apply Rm.skipS)); done)) | apply Take.cons)) ?_
              rintro v J Lc hJ ⟨rfl, hcn⟩
              clear hJ; try simp only [List.cons_append, List.nil_append, List.append_assoc]
              rw [htl] at hcn
              obtain ⟨Ad, cd, rfl, _⟩ := hcn.slice
              refine WP.val rfl rfl rfl rfl (Yld.buildS (pl := [(0, 0, 1), (1, 1, 1), (2, 2, 1), (3, 3, 1), (4, 4, 1), (5, 5, 1)]) rfl ty_zr_35 ty_zd_35 (by kernel_rfl) rfl (vs := [_, _, _, _, _, _]) rfl (segs := [(0, [_]), (1, [_]), (2, [_]), (3, [_]), (4, [_]), (5, [_])]) rfl rfl (by repeat (first | exact SetSeg.nil | apply SetSeg.one | exact SetAt.zero | apply SetAt.succ))) ?_
              refine WP.loud rfl rfl ?_
              refine Op.buildSlice rfl ty_sl_23 ty_el2_23 rfl rfl rfl rfl (vs := [_]) rfl (segs := [(0, pf (pcut no place era b (pmanyOf b) i, .slice Ad (min 198 (b.drop (i * 198)).length) cd))]) (cs := pf (pcut no place era b (pmanyOf b) i, .slice Ad (min 198 (b.drop (i * 198)).length) cd)) rfl rfl (.seg (Nat.le_refl _) rfl .nil) (fun bq => ?_)
              refine WP.loud rfl rfl ?_
              refine Op.append (m := 1) rfl ty_sl_23 ty_el_23 rfl rfl rfl rfl rfl how (SlRd.lit (m := 1) (by repeat (first | exact There.h | exact There.i (by assumption) | apply There.t | apply There.s)) rfl (Nat.le_refl _)) (by repeat (first | exact Take.nil | with_reducible apply Take.cons | apply Take.app | exact Rm.chunk | exact Rm.here | exact Rm.nil0 | apply Rm.skip | apply Rm.skipS | (focus (apply Take.all; (repeat (first | exact Rm.chunk | exact Rm.here | exact Rm.nil0 | apply Rm.skip | apply Rm.skipS)); done)) | apply Take.cons)) rfl (by omega) (by omega) (fun vn Ln hn => ?_)
              try simp only [List.cons_append, List.nil_append, List.append_assoc]
              refine WP.val rfl rfl rfl rfl (Yld.assign rfl rfl) ?_
              refine WP.nil ?_
              refine WP.sub [(0, _), (1, _), (2, _), (3, _), (10, _), (11, _), (12, _), (13, _), (43, _), (44, _), (45, _)] ?_ ⟨rfl, rfl, rfl, rfl, rfl, rfl, rfl, rfl, rfl, rfl, rfl, trivial⟩
              refine WP.next ?_
              refine WP.region [0, 1, 2, 3] rfl ?_
              refine WP.val rfl rfl rfl rfl (Yld.move rfl rfl) ?_
              refine WP.val rfl rfl rfl rfl (Yld.move rfl rfl) ?_
              refine WP.val rfl rfl rfl rfl (Yld.sliceR (l := min 198 (b.drop (i * 198)).length) (h := (b.drop (i * 198)).length) hrd rfl ty_sl_22 rfl (Env.limS rfl) Env.lim0 (Nat.min_le_right _ _) (Nat.le_refl _)) ?_
              refine WP.val rfl rfl rfl rfl (Yld.assign rfl rfl) ?_
              refine WP.nil ?_
              refine WP.sub [(0, _), (1, _), (2, _), (3, _), (10, _), (11, _), (12, _), (13, _), (43, _), (44, _), (45, _)] ?_ ⟨rfl, rfl, rfl, rfl, rfl, rfl, rfl, rfl, rfl, rfl, rfl, trivial⟩
              have hown2 : Own 35 6 vn (pcells (l ++ [(pcut no place era b (pmanyOf b) i, .slice Ad (min 198 (b.drop (i * 198)).length) cd)])) (l ++ [(pcut no place era b (pmanyOf b) i, Value.slice Ad (min 198 (b.drop (i * 198)).length) cd)]).length Ln := by rw [pcells_app, List.length_append]; exact hn
              have hod2 := hod.snoc (e := (pcut no place era b (pmanyOf b) i, .slice Ad (min 198 (b.drop (i * 198)).length) cd)) (Le := Lc) (by show Own _ _ _ (bytesV ((b.drop (i * 198)).take 198)) ((b.drop (i * 198)).take 198).length _; rw [htl]; exact hcn)
              have heq2 : (l ++ [(pcut no place era b (pmanyOf b) i, Value.slice Ad (min 198 (b.drop (i * 198)).length) cd)]).map (·.1) = (List.range (i + 1)).map (pcut no place era b (pmanyOf b)) := by rw [List.map_append, heq, List.range_succ, List.map_append]; rfl
              have hrd2 : SlRd (Im J1) (subSl 1 (min 198 (b.drop (i * 198)).length) (b.drop (i * 198)).length (.slice Av (b.drop (i * 198)).length cv)) (b.drop ((i + 1) * 198)).length 1 (bytesV (b.drop ((i + 1) * 198))) := by
                have q := hrd.dropB (l := min 198 (b.drop (i * 198)).length) (Nat.min_le_right _ _)
                have e : (b.drop (i * 198)).drop (min 198 (b.drop (i * 198)).length) = b.drop ((i + 1) * 198) := by
                  rcases Nat.le_total 198 (b.drop (i * 198)).length with h | h
                  · rw [Nat.min_eq_left h, List.drop_drop]; congr 1; omega
                  · rw [Nat.min_eq_right h, List.drop_of_length_le (Nat.le_refl _), List.drop_of_length_le (by omega)]
                rw [e] at q; exact q
              refine WP.leave ?_
              refine WP.next ?_
              refine WP.region [0, 1] rfl ?_
              refine WP.val rfl rfl rfl rfl (Yld.add64 rfl rfl rfl (by omega)) ?_
              refine WP.val rfl rfl rfl rfl (Yld.move rfl rfl) ?_
              refine WP.nil ?_
              refine WP.sub [(0, _), (1, _), (2, _), (3, _), (10, _), (11, _), (12, _), (13, _), (43, _), (44, _), (45, _)] ?_ ⟨rfl, rfl, rfl, rfl, rfl, rfl, rfl, rfl, rfl, rfl, rfl, trivial⟩
              exact WP.again ⟨i + 1, subSl 1 (min 198 (b.drop (i * 198)).length) (b.drop (i * 198)).length (.slice Av (b.drop (i * 198)).length cv), vn, l ++ [(pcut no place era b (pmanyOf b) i, .slice Ad (min 198 (b.drop (i * 198)).length) cd)], Ln, Ld ++ Lc⟩ ⟨(show i + 1 ≤ pmanyOf b by omega), hrd2, hown2, hod2, heq2⟩ (show pmanyOf b - (i + 1) < pmanyOf b - i by omega) ⟨rfl, rfl, rfl, rfl, rfl, rfl, rfl, rfl, trivial⟩ rfl (by (try dsimp only); (try simp only [List.cons_append, List.nil_append, List.append_assoc]); repeat (first | exact Rm.chunk | exact Rm.here | exact Rm.nil0 | apply Rm.skip | apply Rm.skipS | apply PX.cons | (apply PX.done; (repeat (first | exact Leave.done | apply Leave.drop | apply Leave.dropS)); done) | apply PX.app))
            · obtain rfl : i = pmanyOf b := by omega
              refine WP.nil ?_
              refine WP.next ?_
              refine WP.seq ?_
              refine WP.condF rfl ?_
              refine WP.exit ?_
              refine WP.thenE ?_
              refine WP.thenE ?_
              refine WP.hit ?_
              refine WP.next ?_
              refine WP.seq ?_
              refine WP.region [0, 1, 2] rfl ?_
              refine WP.val rfl rfl rfl rfl (Yld.move rfl rfl) ?_
              refine WP.val rfl rfl rfl rfl (Yld.assign rfl rfl) ?_
              refine WP.val rfl rfl rfl rfl (Yld.assign rfl rfl) ?_
              refine WP.nil ?_
              refine WP.sub [(0, _), (1, _), (2, _), (3, _), (8, _), (9, _), (10, _), (11, _), (43, _), (44, _), (45, _)] ?_ ⟨rfl, rfl, rfl, rfl, rfl, rfl, rfl, rfl, rfl, rfl, rfl, trivial⟩
              refine WP.next ?_
              refine WP.ret ?_
              refine WP.fin .ret (.inr rfl) (res2 rfl rfl rfl) (Lo ++ Ld) (by repeat (first | exact Take.nil | with_reducible apply Take.cons | apply Take.app | exact Rm.chunk | exact Rm.here | exact Rm.nil0 | apply Rm.skip | apply Rm.skipS | (focus (apply Take.all; (repeat (first | exact Rm.chunk | exact Rm.here | exact Rm.nil0 | apply Rm.skip | apply Rm.skipS)); done)) | apply Take.cons)) (by repeat (first | exact Leave.done | apply Leave.drop | apply Leave.dropS)) hJ1 ?_
              have e2 : pcutL no place era b = _ := if_pos hE
              rw [hE, e2]; exact ⟨_, _, _, _, rfl, heq, how, hod, rfl⟩
          · have hmay : (decide ((⟨0, no, 0, era, 1, [0]⟩ : Pt).may)) = false := eq_false_of_ne_true hmay
            rw [hmay]
            refine WP.valG rfl rfl rfl rfl rfl rfl rfl (Yld.not rfl rfl) ?_
            refine WP.val rfl rfl rfl rfl (Yld.pickF rfl rfl rfl) ?_
            refine WP.nil ?_
            refine WP.sub [(0, _), (1, _), (2, _), (3, _), (8, _), (9, _), (10, _), (16, _), (42, _)] ?_ ⟨rfl, rfl, rfl, rfl, rfl, rfl, rfl, rfl, rfl, trivial⟩
            refine WP.next ?_
            refine WP.condT rfl ?_
            refine WP.seq ?_
            refine WP.region [0, 1] rfl ?_
            refine WP.val rfl rfl rfl rfl (Yld.assign rfl rfl) ?_
            refine WP.val rfl rfl rfl rfl (Yld.assign rfl rfl) ?_
            refine WP.nil ?_
            refine WP.next ?_
            refine WP.ret ?_
            refine WP.fin .ret (.inr rfl) (res2 rfl rfl rfl) [] (by repeat (first | exact Take.nil | with_reducible apply Take.cons | apply Take.app | exact Rm.chunk | exact Rm.here | exact Rm.nil0 | apply Rm.skip | apply Rm.skipS | (focus (apply Take.all; (repeat (first | exact Rm.chunk | exact Rm.here | exact Rm.nil0 | apply Rm.skip | apply Rm.skipS)); done)) | apply Take.cons)) (by repeat (first | exact Leave.done | apply Leave.drop | apply Leave.dropS)) hJ1 ?_
            have e : pcutE no place era b = 1 := by unfold pcutE; rw [if_neg (by omega), if_pos (.inr (.inr (.inr (of_decide_eq_false hmay))))]
            have e2 : pcutL no place era b = [] := if_neg (by rw [e]; decide)
            rw [e, e2]; exact ⟨_, [], [], [], rfl, rfl, .none0, .nil, rfl⟩


end Go.Hp
