import Derived.Test.YtbgkfndnbngnmaaSegT
set_option linter.unusedVariables false
set_option linter.unusedSimpArgs false
namespace Go.Hp
open Go Go.Proofs

theorem leB_mod4 (m : Nat) : leB (m % 4294967296) 4 = leB m 4 := leN_inj _ _ (by rw [leB_len, leB_len]) (by rw [leN_mod, leN_mod]; omega)
set_option maxHeartbeats 2000000 in
theorem ref_Encode {I : Imm} {p : Pt} {v : Value} (hv : SlRd (Im I) v p.data.length 1 (bytesV p.data)) : Spec Try.prog 17 [.agg (ptV p v).toArray] I [] (fun v J L => (p.may ∧ ∃ vb, v = .tuple #[vb, .int .i64 0] ∧ Own 5 1 vb (bytesV (penc p)) (penc p).length L) ∨ (¬ p.may ∧ v = .tuple #[.slice none 0 0, .int .i64 70] ∧ I = J ∧ L = [])) := by
  obtain ⟨Av, cv, rfl, _, _, _⟩ := id hv
  refine Spec.of Try.func17 rfl Try.ntmps17 (Nat.le_of_ble_eq_true rfl) (fun F => ?_)
  try simp only [List.cons_append, List.nil_append, List.append_assoc]
  dsimp only [argsEnv]
  refine WP.seq ?_
  refine WP.region [0, 1, 2] rfl ?_
  refine WP.loud rfl rfl ?_
  refine Op.box rfl rfl rfl rfl rfl (fun b1 => ?_)
  refine WP.val rfl rfl rfl rfl (Yld.assign rfl rfl) ?_
  refine WP.val rfl rfl rfl rfl (Yld.assign rfl rfl) ?_
  refine WP.nil ?_
  refine WP.next ?_
  refine WP.seq ?_
  refine WP.region [0, 1, 2] rfl ?_
  refine WP.val rfl rfl rfl rfl (Yld.loadAll rfl ty_ag_35 rfl (by repeat (first | exact There.h | exact There.i (by assumption) | apply There.t | apply There.s)) rfl) ?_
  refine WP.loud rfl rfl ?_
  refine Op.call (ref_may hv) rfl Try.func34 rfl rfl rfl rfl (by repeat (first | exact Take.nil | with_reducible apply Take.cons | apply Take.app | exact Rm.chunk | exact Rm.here | exact Rm.nil0 | apply Rm.skip | apply Rm.skipS | (focus (apply Take.all; (repeat (first | exact Rm.chunk | exact Rm.here | exact Rm.nil0 | apply Rm.skip | apply Rm.skipS)); done)) | apply Take.cons)) ?_
  rintro v J L1 hJ ⟨rfl, rfl, rfl⟩
  clear hJ; try simp only [List.cons_append, List.nil_append, List.append_assoc]
  by_cases hbt : (decide p.may) = true
  · rw [hbt]
    refine WP.val rfl rfl rfl rfl (Yld.assign rfl rfl) ?_
    refine WP.nil ?_
    refine WP.sub [(0, _), (1, _), (2, _), (3, _), (4, _)] ?_ ⟨rfl, rfl, rfl, rfl, rfl, trivial⟩
    refine WP.next ?_
    refine WP.seq ?_
    refine WP.seq ?_
    refine WP.region [0, 1] rfl ?_
    refine WP.val rfl rfl rfl rfl (Yld.move rfl rfl) ?_
    refine WP.val rfl rfl rfl rfl (Yld.not rfl rfl) ?_
    refine WP.nil ?_
    refine WP.sub [(0, _), (1, _), (2, _), (3, _), (4, _), (11, _)] ?_ ⟨rfl, rfl, rfl, rfl, rfl, rfl, trivial⟩
    refine WP.next ?_
    refine WP.condF rfl ?_
    refine WP.skip ?_
    refine WP.next ?_
    refine WP.seq ?_
    have hm := of_decide_eq_true hbt
    have hl := hm.len
    have hp1 : p.parts = (p.parts.toNat : Int) := by have := hm.parts; omega
    have hp2 : p.index = (p.index.toNat : Int) := by have := hm.index; omega
    refine WP.region [0, 1, 2, 3, 4, 5, 6, 7] rfl ?_
    refine WP.val rfl rfl rfl rfl (Yld.fieldAddr rfl ty_fd_35_4 rfl) ?_
    refine WP.val rfl rfl rfl rfl (Yld.load (v := .int .i64 (p.parts.toNat : Int)) rfl ty_sc_3 rfl (by repeat (first | exact There.h | exact There.i (by assumption) | apply There.t | apply There.s)) (congrArg (fun z : Int => some (Value.int .i64 z)) hp1)) ?_
    refine WP.val rfl rfl rfl rfl (Yld.convN8 p.parts.toNat rfl ty_un_3 ty_ik_5 rfl) ?_
    refine WP.val rfl rfl rfl rfl (Yld.fieldAddr rfl ty_fd_35_2 rfl) ?_
    refine WP.val rfl rfl rfl rfl (Yld.load (v := .int .i64 (p.index.toNat : Int)) rfl ty_sc_3 rfl (by repeat (first | exact There.h | exact There.i (by assumption) | apply There.t | apply There.s)) (congrArg (fun z : Int => some (Value.int .i64 z)) hp2)) ?_
    refine WP.val rfl rfl rfl rfl (Yld.convN8 p.index.toNat rfl ty_un_3 ty_ik_5 rfl) ?_
    refine WP.loud rfl rfl ?_
    refine Op.buildSlice rfl ty_sl_22 ty_el2_22 rfl rfl rfl rfl (vs := [_, _, _, _]) rfl (segs := [(0, [_]), (1, [_]), (2, [_]), (3, [_])]) (cs := bytesV [80, 66, UInt8.ofNat p.parts.toNat, UInt8.ofNat p.index.toNat]) rfl rfl (by repeat (first | exact SetSeg.nil | apply SetSeg.one | exact SetAt.zero | apply SetAt.succ)) (fun bz => ?_)
    have ho4 : Own 5 1 (.slice (some ⟨bz, 0, none⟩) 4 4) (bytesV ([80, 66, UInt8.ofNat p.parts.toNat, UInt8.ofNat p.index.toNat])) ([80, 66, UInt8.ofNat p.parts.toNat, UInt8.ofNat p.index.toNat]).length [(bz, row 5 (bytesV [80, 66, UInt8.ofNat p.parts.toNat, UInt8.ofNat p.index.toNat]))] := own_lit rfl
    refine WP.val rfl rfl rfl rfl (Yld.assign rfl rfl) ?_
    refine WP.nil ?_
    refine WP.sub [(0, _), (1, _), (2, _), (3, _), (4, _), (5, _), (11, _)] ?_ ⟨rfl, rfl, rfl, rfl, rfl, rfl, rfl, trivial⟩
    refine WP.next ?_
    refine WP.seq ?_
    refine WP.region [0, 1, 2, 3, 4, 5] rfl ?_
    refine WP.val rfl rfl rfl rfl (Yld.move rfl rfl) ?_
    refine WP.val rfl rfl rfl rfl (Yld.fieldAddr rfl ty_fd_35_5 rfl) ?_
    refine WP.val rfl rfl rfl rfl (Yld.load rfl ty_sc_22 rfl (by repeat (first | exact There.h | exact There.i (by assumption) | apply There.t | apply There.s)) rfl) ?_
    refine WP.val rfl rfl rfl rfl (Yld.lenR hv rfl ty_sl_22 rfl) ?_
    refine WP.loud rfl rfl ?_
    refine Op.call (ref_num (m := p.data.length) (k := 2) (.inl ho4) ⟨by decide, by decide⟩ (by omega) (by simp)) rfl Try.func38 rfl rfl rfl rfl (by repeat (first | exact Take.nil | with_reducible apply Take.cons | apply Take.app | exact Rm.chunk | exact Rm.here | exact Rm.nil0 | apply Rm.skip | apply Rm.skipS | (focus (apply Take.all; (repeat (first | exact Rm.chunk | exact Rm.here | exact Rm.nil0 | apply Rm.skip | apply Rm.skipS)); done)) | apply Take.cons)) ?_
    rintro v J Lo5 hJ ⟨rfl, ho5⟩
    clear hJ; try simp only [List.cons_append, List.nil_append, List.append_assoc]
    refine WP.val rfl rfl rfl rfl (Yld.assign rfl rfl) ?_
    refine WP.nil ?_
    refine WP.sub [(0, _), (1, _), (2, _), (3, _), (4, _), (5, _), (11, _)] ?_ ⟨rfl, rfl, rfl, rfl, rfl, rfl, rfl, trivial⟩
    refine WP.next ?_
    refine WP.seq ?_
    refine WP.region [0, 1, 2, 3, 4] rfl ?_
    refine WP.val rfl rfl rfl rfl (Yld.move rfl rfl) ?_
    refine WP.val rfl rfl rfl rfl (Yld.fieldAddr rfl ty_fd_35_1 rfl) ?_
    refine WP.val rfl rfl rfl rfl (Yld.load rfl ty_sc_3 rfl (by repeat (first | exact There.h | exact There.i (by assumption) | apply There.t | apply There.s)) rfl) ?_
    refine WP.loud rfl rfl ?_
    refine Op.call (ref_numI (k := 6) (.inl ho5) ⟨by decide, by decide⟩ ⟨by have := hm.no; omega, by have := hm.no; omega⟩ (by simp [leB_len])) rfl Try.func38 rfl rfl rfl rfl (by repeat (first | exact Take.nil | with_reducible apply Take.cons | apply Take.app | exact Rm.chunk | exact Rm.here | exact Rm.nil0 | apply Rm.skip | apply Rm.skipS | (focus (apply Take.all; (repeat (first | exact Rm.chunk | exact Rm.here | exact Rm.nil0 | apply Rm.skip | apply Rm.skipS)); done)) | apply Take.cons)) ?_
    rintro v J Lo6 hJ ⟨rfl, ho6⟩
    clear hJ; try simp only [List.cons_append, List.nil_append, List.append_assoc]
    refine WP.val rfl rfl rfl rfl (Yld.assign rfl rfl) ?_
    refine WP.nil ?_
    refine WP.sub [(0, _), (1, _), (2, _), (3, _), (4, _), (5, _), (11, _)] ?_ ⟨rfl, rfl, rfl, rfl, rfl, rfl, rfl, trivial⟩
    refine WP.next ?_
    refine WP.seq ?_
    refine WP.region [0, 1, 2, 3, 4] rfl ?_
    refine WP.val rfl rfl rfl rfl (Yld.move rfl rfl) ?_
    refine WP.val rfl rfl rfl rfl (Yld.fieldAddr rfl ty_fd_35_0 rfl) ?_
    refine WP.val rfl rfl rfl rfl (Yld.load rfl ty_sc_3 rfl (by repeat (first | exact There.h | exact There.i (by assumption) | apply There.t | apply There.s)) rfl) ?_
    refine WP.loud rfl rfl ?_
    refine Op.call (ref_numI (k := 6) (.inl ho6) ⟨by decide, by decide⟩ ⟨by have := hm.place; omega, by have := hm.place; omega⟩ (by simp [leB_len])) rfl Try.func38 rfl rfl rfl rfl (by repeat (first | exact Take.nil | with_reducible apply Take.cons | apply Take.app | exact Rm.chunk | exact Rm.here | exact Rm.nil0 | apply Rm.skip | apply Rm.skipS | (focus (apply Take.all; (repeat (first | exact Rm.chunk | exact Rm.here | exact Rm.nil0 | apply Rm.skip | apply Rm.skipS)); done)) | apply Take.cons)) ?_
    rintro v J Lo7 hJ ⟨rfl, ho7⟩
    clear hJ; try simp only [List.cons_append, List.nil_append, List.append_assoc]
    refine WP.val rfl rfl rfl rfl (Yld.assign rfl rfl) ?_
    refine WP.nil ?_
    refine WP.sub [(0, _), (1, _), (2, _), (3, _), (4, _), (5, _), (11, _)] ?_ ⟨rfl, rfl, rfl, rfl, rfl, rfl, rfl, trivial⟩
    refine WP.next ?_
    refine WP.seq ?_
    refine WP.region [0, 1, 2, 3, 4] rfl ?_
    refine WP.val rfl rfl rfl rfl (Yld.move rfl rfl) ?_
    refine WP.val rfl rfl rfl rfl (Yld.fieldAddr rfl ty_fd_35_3 rfl) ?_
    refine WP.val rfl rfl rfl rfl (Yld.load rfl ty_sc_3 rfl (by repeat (first | exact There.h | exact There.i (by assumption) | apply There.t | apply There.s)) rfl) ?_
    refine WP.loud rfl rfl ?_
    refine Op.call (ref_numI (k := 4) (.inl ho7) ⟨by decide, by decide⟩ ⟨by have := hm.era; omega, by have := hm.era; omega⟩ (by simp [leB_len])) rfl Try.func38 rfl rfl rfl rfl (by repeat (first | exact Take.nil | with_reducible apply Take.cons | apply Take.app | exact Rm.chunk | exact Rm.here | exact Rm.nil0 | apply Rm.skip | apply Rm.skipS | (focus (apply Take.all; (repeat (first | exact Rm.chunk | exact Rm.here | exact Rm.nil0 | apply Rm.skip | apply Rm.skipS)); done)) | apply Take.cons)) ?_
    rintro v J Lo8 hJ ⟨rfl, ho8⟩
    clear hJ; try simp only [List.cons_append, List.nil_append, List.append_assoc]
    have ho8' : Own 5 1 v (bytesV (phead p)) (phead p).length Lo8 := by have e : phead p = [80, 66, UInt8.ofNat p.parts.toNat, UInt8.ofNat p.index.toNat] ++ leB p.data.length 2 ++ leB p.no.toNat 6 ++ leB p.place.toNat 6 ++ leB p.era.toNat 4 := (by unfold phead; rw [leB1 (m := p.parts.toNat) (by have := hm.parts; omega), leB1 (m := p.index.toNat) (by have := hm.index; have := hm.parts; omega)]; simp); rw [e]; exact ho8
    have hphl := phead_len p
    refine WP.val rfl rfl rfl rfl (Yld.assign rfl rfl) ?_
    refine WP.nil ?_
    refine WP.sub [(0, _), (1, _), (2, _), (3, _), (4, _), (5, _), (11, _)] ?_ ⟨rfl, rfl, rfl, rfl, rfl, rfl, rfl, trivial⟩
    refine WP.next ?_
    refine WP.seq ?_
    refine WP.region [0, 1, 2, 3, 4] rfl ?_
    refine WP.val rfl rfl rfl rfl (Yld.move rfl rfl) ?_
    refine WP.val rfl rfl rfl rfl (Yld.fieldAddr rfl ty_fd_35_5 rfl) ?_
    refine WP.val rfl rfl rfl rfl (Yld.load rfl ty_sc_22 rfl (by repeat (first | exact There.h | exact There.i (by assumption) | apply There.t | apply There.s)) rfl) ?_
    refine WP.loud rfl rfl ?_
    refine Op.append rfl ty_sl_22 ty_el_22 rfl rfl rfl rfl rfl ho8' (hv.mono (fun b o h => There.i h)) (by repeat (first | exact Take.nil | with_reducible apply Take.cons | apply Take.app | exact Rm.chunk | exact Rm.here | exact Rm.nil0 | apply Rm.skip | apply Rm.skipS | (focus (apply Take.all; (repeat (first | exact Rm.chunk | exact Rm.here | exact Rm.nil0 | apply Rm.skip | apply Rm.skipS)); done)) | apply Take.cons)) (bytesV_one _) (by omega) (by omega) (fun v9 L9 h9 => ?_)
    try simp only [List.cons_append, List.nil_append, List.append_assoc]
    have hb0 : Own 5 1 v9 (bytesV (phead p ++ (p.data ++ List.replicate 0 0))) (phead p ++ (p.data ++ List.replicate 0 0)).length L9 := by have e : phead p ++ (p.data ++ List.replicate 0 (0 : UInt8)) = phead p ++ p.data := (by simp); rw [e, bytesV_app, List.length_append]; exact h9
    refine WP.val rfl rfl rfl rfl (Yld.assign rfl rfl) ?_
    refine WP.nil ?_
    refine WP.sub [(0, _), (1, _), (2, _), (3, _), (4, _), (5, _), (11, _)] ?_ ⟨rfl, rfl, rfl, rfl, rfl, rfl, rfl, trivial⟩
    refine WP.next ?_
    refine WP.seq ?_
    refine WP.block ?_
    refine WP.loop (X := Nat × Value × Chunks) (fun u : Nat × Value × Chunks => [(1, .pointer (some ⟨b1, 0, none⟩)), (5, u.2.1)]) (fun _ => I) (fun u : Nat × Value × Chunks => (b1, row 35 (ptV p (.slice Av p.data.length cv))) :: (u.2.2 ++ F)) (fun u : Nat × Value × Chunks => u.1 ≤ 198 - p.data.length ∧ Own 5 1 u.2.1 (bytesV (phead p ++ (p.data ++ List.replicate u.1 0))) (phead p ++ (p.data ++ List.replicate u.1 0)).length u.2.2) (fun u : Nat × Value × Chunks => 198 - p.data.length - u.1) (0, v9, L9) ⟨Nat.zero_le _, hb0⟩ ⟨rfl, rfl, trivial⟩ rfl (by (try dsimp only); repeat (first | exact Rm.chunk | exact Rm.here | exact Rm.nil0 | apply Rm.skip | apply Rm.skipS | apply PX.cons | (apply PX.done; (repeat (first | exact Leave.done | apply Leave.drop | apply Leave.dropS)); done) | apply PX.app)) ?_
    rintro ⟨i, vi, Li⟩ ⟨hi198, hown⟩; dsimp only at hi198 hown; have hll : (phead p ++ (p.data ++ List.replicate i 0)).length = 22 + (p.data.length + i) := (by rw [List.length_append, List.length_append, hphl, List.length_replicate]); obtain ⟨Ai, ci, rfl, _⟩ := hown.slice; try dsimp only
    try dsimp only
    try simp only [List.cons_append, List.nil_append, List.append_assoc]
    refine WP.seq ?_
    refine WP.seq ?_
    refine WP.region [0, 1, 2] rfl ?_
    refine WP.val rfl rfl rfl rfl (Yld.move rfl rfl) ?_
    refine WP.val rfl rfl rfl rfl (Yld.len rfl ty_sl_22 rfl) ?_
    refine WP.split rfl rfl rfl rfl (Yld.lss rfl rfl rfl) (fun hlt => ?_) (fun hlt => ?_)
    · have hi : i < 198 - p.data.length := by omega
      refine WP.nil ?_
      refine WP.sub [(1, _), (5, _), (42, _)] ?_ ⟨rfl, rfl, rfl, trivial⟩
      refine WP.next ?_
      refine WP.condT rfl ?_
      refine WP.skip ?_
      refine WP.next ?_
      refine WP.block ?_
      refine WP.region [0, 1, 2, 3] rfl ?_
      refine WP.val rfl rfl rfl rfl (Yld.move rfl rfl) ?_
      refine WP.loud rfl rfl ?_
      refine Op.buildSlice rfl ty_sl_22 ty_el2_22 rfl rfl rfl rfl (vs := [_]) rfl (segs := [(0, [_])]) (cs := bytesV [0]) rfl rfl (by repeat (first | exact SetSeg.nil | apply SetSeg.one | exact SetAt.zero | apply SetAt.succ)) (fun bz => ?_)
      refine WP.loud rfl rfl ?_
      refine Op.appendFr (cs := [0]) rfl ty_sl_22 ty_el_22 rfl rfl rfl rfl rfl (.inl hown) (SlRd.lit (by repeat (first | exact There.h | exact There.i (by assumption) | apply There.t | apply There.s)) rfl (Nat.le_refl _)) (by decide) (by repeat (first | exact Take.nil | with_reducible apply Take.cons | apply Take.app | exact Rm.chunk | exact Rm.here | exact Rm.nil0 | apply Rm.skip | apply Rm.skipS | (focus (apply Take.all; (repeat (first | exact Rm.chunk | exact Rm.here | exact Rm.nil0 | apply Rm.skip | apply Rm.skipS)); done)) | apply Take.cons)) (by omega) (by omega) (fun v7 L7 h7 => ?_)
      try simp only [List.cons_append, List.nil_append, List.append_assoc]
      have h7' : Own 5 1 v7 (bytesV (phead p ++ (p.data ++ List.replicate (i + 1) 0))) (phead p ++ (p.data ++ List.replicate (i + 1) 0)).length L7 := by have e : phead p ++ (p.data ++ List.replicate (i + 1) (0 : UInt8)) = phead p ++ (p.data ++ List.replicate i 0) ++ [0] := (by rw [List.replicate_succ', List.append_assoc, List.append_assoc]); rw [e]; exact h7
      refine WP.val rfl rfl rfl rfl (Yld.assign rfl rfl) ?_
      refine WP.nil ?_
      refine WP.sub [(1, _), (5, _), (42, _)] ?_ ⟨rfl, rfl, rfl, trivial⟩
      refine WP.leave ?_
      exact WP.again (i + 1, v7, L7) ⟨(show i + 1 ≤ 198 - p.data.length by omega), h7'⟩ (show 198 - p.data.length - (i + 1) < 198 - p.data.length - i by omega) ⟨rfl, rfl, trivial⟩ rfl (by (try dsimp only); repeat (first | exact Rm.chunk | exact Rm.here | exact Rm.nil0 | apply Rm.skip | apply Rm.skipS | apply PX.cons | (apply PX.done; (repeat (first | exact Leave.done | apply Leave.drop | apply Leave.dropS)); done) | apply PX.app))
    · obtain rfl : i = 198 - p.data.length := by omega
      have hh : Own 5 1 (.slice Ai (phead p ++ (p.data ++ List.replicate (198 - p.data.length) 0)).length ci) (bytesV (pin p)) (pin p).length Li := hown
      have hpl := pin_len hl.2
      refine WP.nil ?_
      refine WP.sub [(1, _), (5, _), (42, _)] ?_ ⟨rfl, rfl, rfl, trivial⟩
      refine WP.next ?_
      refine WP.condF rfl ?_
      refine WP.exit ?_
      refine WP.thenE ?_
      refine WP.thenE ?_
      refine WP.hit ?_
      refine WP.next ?_
      refine WP.seq ?_
      refine WP.region [0, 1, 2, 3, 4, 5] rfl ?_
      refine WP.val rfl rfl rfl rfl (Yld.move rfl rfl) ?_
      refine WP.val rfl rfl rfl rfl (Yld.move rfl rfl) ?_
      refine WP.loud rfl rfl ?_
      refine Op.call (crc_refOfOwn hh (by omega)) rfl Try.func39 rfl rfl rfl rfl (by repeat (first | exact Take.nil | with_reducible apply Take.cons | apply Take.app | exact Rm.chunk | exact Rm.here | exact Rm.nil0 | apply Rm.skip | apply Rm.skipS | (focus (apply Take.all; (repeat (first | exact Rm.chunk | exact Rm.here | exact Rm.nil0 | apply Rm.skip | apply Rm.skipS)); done)) | apply Take.cons)) ?_
      rintro v J Li hJ ⟨rfl, rfl, rfl⟩
      clear hJ; try simp only [List.cons_append, List.nil_append, List.append_assoc]
      refine WP.val rfl rfl rfl rfl (Yld.conv32_64 (crcOf (pin p)) rfl ty_un_60 ty_ik_3 rfl) ?_
      refine WP.loud rfl rfl ?_
      refine Op.call (ref_num (m := (crcOf (pin p)).toNat) (k := 4) (.inl hh) ⟨by decide, by decide⟩ (by have := (crcOf (pin p)).isLt; omega) (by omega)) rfl Try.func38 rfl rfl rfl rfl (by repeat (first | exact Take.nil | with_reducible apply Take.cons | apply Take.app | exact Rm.chunk | exact Rm.here | exact Rm.nil0 | apply Rm.skip | apply Rm.skipS | (focus (apply Take.all; (repeat (first | exact Rm.chunk | exact Rm.here | exact Rm.nil0 | apply Rm.skip | apply Rm.skipS)); done)) | apply Take.cons)) ?_
      rintro v J Lo12 hJ ⟨rfl, ho12⟩
      clear hJ; try simp only [List.cons_append, List.nil_append, List.append_assoc]
      refine WP.val rfl rfl rfl rfl (Yld.assign rfl rfl) ?_
      refine WP.nil ?_
      refine WP.sub [(1, _), (5, _), (42, _)] ?_ ⟨rfl, rfl, rfl, trivial⟩
      skip
      refine WP.shareOwn (xs := bytesV (pfull p)) (m := (pfull p).length) ho12 (by repeat (first | exact Take.nil | with_reducible apply Take.cons | apply Take.app | exact Rm.chunk | exact Rm.here | exact Rm.nil0 | apply Rm.skip | apply Rm.skipS | (focus (apply Take.all; (repeat (first | exact Rm.chunk | exact Rm.here | exact Rm.nil0 | apply Rm.skip | apply Rm.skipS)); done)) | apply Take.cons)) (fun J2 hJ2 hin => ?_)
      have hfl := pfull_len hl.2
      have htl := ptag_len p
      refine WP.next ?_
      refine WP.seq ?_
      refine WP.region [0] rfl ?_
      refine WP.val rfl rfl rfl rfl (Yld.assign rfl rfl) ?_
      refine WP.nil ?_
      refine WP.next ?_
      refine WP.seq ?_
      refine WP.seq ?_
      refine WP.region [0] rfl ?_
      refine WP.val rfl rfl rfl rfl (Yld.assign rfl rfl) ?_
      refine WP.nil ?_
      refine WP.next ?_
      refine WP.block ?_
      refine WP.loop (X := Nat × Value × Chunks) (fun u : Nat × Value × Chunks => [(1, .pointer (some ⟨b1, 0, none⟩)), (5, v), (6, u.2.1), (7, .int .i64 (u.1 : Int))]) (fun _ => J2) (fun u : Nat × Value × Chunks => (b1, row 35 (ptV p (.slice Av p.data.length cv))) :: (u.2.2 ++ F)) (fun u : Nat × Value × Chunks => u.1 ≤ 4 ∧ Own 5 1 u.2.1 (bytesV (psecs (pfull p) (ptag p) u.1)) (psecs (pfull p) (ptag p) u.1).length u.2.2) (fun u : Nat × Value × Chunks => 4 - u.1) (0, .slice none 0 0, []) ⟨Nat.zero_le _, .none0⟩ ⟨rfl, rfl, rfl, rfl, trivial⟩ rfl (by (try dsimp only); repeat (first | exact Rm.chunk | exact Rm.here | exact Rm.nil0 | apply Rm.skip | apply Rm.skipS | apply PX.cons | (apply PX.done; (repeat (first | exact Leave.done | apply Leave.drop | apply Leave.dropS)); done) | apply PX.app)) ?_
      rintro ⟨i, vo, Lo⟩ ⟨hi4, hout⟩; dsimp only at hi4 hout
      try dsimp only
      try simp only [List.cons_append, List.nil_append, List.append_assoc]
      refine WP.seq ?_
      refine WP.seq ?_
      refine WP.region [0, 1] rfl ?_
      refine WP.val rfl rfl rfl rfl (Yld.move rfl rfl) ?_
      refine WP.split rfl rfl rfl rfl (Yld.lss rfl rfl rfl) (fun hlt4 => ?_) (fun hlt4 => ?_)
      · have hi : i < 4 := by omega
        have hcl := cutf_len hfl hi
        have hsl := psecs_len hfl htl i (by omega)
        have hsrc := sub_rd hin (l := i * 56) (k := (i + 1) * 56) (by omega) (by omega)
        refine WP.nil ?_
        refine WP.sub [(1, _), (5, _), (6, _), (7, _), (52, _)] ?_ ⟨rfl, rfl, rfl, rfl, rfl, trivial⟩
        refine WP.next ?_
        refine WP.condT rfl ?_
        refine WP.skip ?_
        refine WP.next ?_
        refine WP.seq ?_
        refine WP.block ?_
        refine WP.seq ?_
        refine WP.region [0, 1, 2, 3, 4, 5, 6, 7, 8, 9] rfl ?_
        refine WP.val rfl rfl rfl rfl (Yld.move rfl rfl) ?_
        refine WP.val rfl rfl rfl rfl (Yld.move rfl rfl) ?_
        refine WP.val rfl rfl rfl rfl (Yld.move rfl rfl) ?_
        refine WP.val rfl rfl rfl rfl (Yld.mul64 rfl rfl rfl (by omega)) ?_
        refine WP.val rfl rfl rfl rfl (Yld.move rfl rfl) ?_
        refine WP.val rfl rfl rfl rfl (Yld.mul64 rfl rfl rfl (by omega)) ?_
        refine WP.val rfl rfl rfl rfl (Yld.add64 rfl rfl rfl (by omega)) ?_
        refine WP.val rfl rfl rfl rfl (Yld.sliceR (l := i * 56) (h := (i + 1) * 56) hin rfl ty_sl_22 rfl (Env.limS (n := i * 56) (congrArg (fun z : Int => some (Value.int .i64 z)) (by omega))) (Env.limS (n := (i + 1) * 56) (congrArg (fun z : Int => some (Value.int .i64 z)) (by omega))) (by omega) (by omega)) ?_
        refine WP.loud rfl rfl ?_
        refine Op.append rfl ty_sl_22 ty_el_22 rfl rfl rfl rfl rfl hout (hsrc.mono (fun b o h => There.i h)) (by repeat (first | exact Take.nil | with_reducible apply Take.cons | apply Take.app | exact Rm.chunk | exact Rm.here | exact Rm.nil0 | apply Rm.skip | apply Rm.skipS | (focus (apply Take.all; (repeat (first | exact Rm.chunk | exact Rm.here | exact Rm.nil0 | apply Rm.skip | apply Rm.skipS)); done)) | apply Take.cons)) (bytesV_one _) (by omega) (by omega) (fun v17 L17 h17 => ?_)
        try simp only [List.cons_append, List.nil_append, List.append_assoc]
        have h17' : Own 5 1 v17 (bytesV (psecs (pfull p) (ptag p) i ++ cut (pfull p) (i * 56) ((i + 1) * 56))) (psecs (pfull p) (ptag p) i ++ cut (pfull p) (i * 56) ((i + 1) * 56)).length L17 := by rw [bytesV_app, List.length_append, hcl]; rw [show (i + 1) * 56 - i * 56 = 56 by omega] at h17; exact h17
        refine WP.val rfl rfl rfl rfl (Yld.assign rfl rfl) ?_
        refine WP.nil ?_
        refine WP.sub [(1, _), (5, _), (6, _), (7, _), (52, _)] ?_ ⟨rfl, rfl, rfl, rfl, rfl, trivial⟩
        refine WP.next ?_
        refine WP.seq ?_
        refine WP.region [0, 1, 2, 3, 4, 5] rfl ?_
        refine WP.val rfl rfl rfl rfl (Yld.move rfl rfl) ?_
        refine WP.val rfl rfl rfl rfl (Yld.fieldAddr rfl ty_fd_35_0 rfl) ?_
        refine WP.val rfl rfl rfl rfl (Yld.load rfl ty_sc_3 rfl (by repeat (first | exact There.h | exact There.i (by assumption) | apply There.t | apply There.s)) rfl) ?_
        refine WP.val rfl rfl rfl rfl (Yld.rem64 rfl rfl rfl ⟨hm.place.1, by decide⟩) ?_
        refine WP.loud rfl rfl ?_
        refine Op.call (ref_numI (k := 4) (.inl h17') ⟨by decide, by decide⟩ ⟨by have := hm.place; omega, by have := hm.place; omega⟩ (by rw [List.length_append]; omega)) rfl Try.func38 rfl rfl rfl rfl (by repeat (first | exact Take.nil | with_reducible apply Take.cons | apply Take.app | exact Rm.chunk | exact Rm.here | exact Rm.nil0 | apply Rm.skip | apply Rm.skipS | (focus (apply Take.all; (repeat (first | exact Rm.chunk | exact Rm.here | exact Rm.nil0 | apply Rm.skip | apply Rm.skipS)); done)) | apply Take.cons)) ?_
        rintro v J L18 hJ ⟨rfl, h18⟩
        clear hJ; try simp only [List.cons_append, List.nil_append, List.append_assoc]
        refine WP.val rfl rfl rfl rfl (Yld.assign rfl rfl) ?_
        refine WP.nil ?_
        refine WP.sub [(1, _), (5, _), (6, _), (7, _), (52, _)] ?_ ⟨rfl, rfl, rfl, rfl, rfl, trivial⟩
        refine WP.next ?_
        refine WP.region [0, 1, 2, 3, 4] rfl ?_
        refine WP.val rfl rfl rfl rfl (Yld.move rfl rfl) ?_
        refine WP.val rfl rfl rfl rfl (Yld.fieldAddr rfl ty_fd_35_3 rfl) ?_
        refine WP.val rfl rfl rfl rfl (Yld.load rfl ty_sc_3 rfl (by repeat (first | exact There.h | exact There.i (by assumption) | apply There.t | apply There.s)) rfl) ?_
        refine WP.loud rfl rfl ?_
        refine Op.call (ref_numI (k := 4) (.inl h18) ⟨by decide, by decide⟩ ⟨by have := hm.era; omega, by have := hm.era; omega⟩ (by rw [List.length_append, List.length_append, leB_len]; omega)) rfl Try.func38 rfl rfl rfl rfl (by repeat (first | exact Take.nil | with_reducible apply Take.cons | apply Take.app | exact Rm.chunk | exact Rm.here | exact Rm.nil0 | apply Rm.skip | apply Rm.skipS | (focus (apply Take.all; (repeat (first | exact Rm.chunk | exact Rm.here | exact Rm.nil0 | apply Rm.skip | apply Rm.skipS)); done)) | apply Take.cons)) ?_
        rintro v J Ln hJ ⟨rfl, h19⟩
        clear hJ; try simp only [List.cons_append, List.nil_append, List.append_assoc]
        have hnew : Own 5 1 v (bytesV (psecs (pfull p) (ptag p) (i + 1))) (psecs (pfull p) (ptag p) (i + 1)).length Ln := by have e1 : (p.place % 4294967296).toNat = p.place.toNat % 4294967296 := (by have := hm.place; omega); have e : psecs (pfull p) (ptag p) (i + 1) = psecs (pfull p) (ptag p) i ++ cut (pfull p) (i * 56) ((i + 1) * 56) ++ leB (p.place % 4294967296).toNat 4 ++ leB p.era.toNat 4 := (by rw [e1, leB_mod4, psecs, ptag]; simp only [List.append_assoc]); rw [e]; exact h19
        refine WP.val rfl rfl rfl rfl (Yld.assign rfl rfl) ?_
        refine WP.nil ?_
        refine WP.sub [(1, _), (5, _), (6, _), (7, _), (52, _)] ?_ ⟨rfl, rfl, rfl, rfl, rfl, trivial⟩
        refine WP.leave ?_
        refine WP.next ?_
        refine WP.region [0, 1, 2] rfl ?_
        refine WP.val rfl rfl rfl rfl (Yld.move rfl rfl) ?_
        refine WP.val rfl rfl rfl rfl (Yld.add64 rfl rfl rfl (by omega)) ?_
        refine WP.val rfl rfl rfl rfl (Yld.assign rfl rfl) ?_
        refine WP.nil ?_
        refine WP.sub [(1, _), (5, _), (6, _), (7, _), (52, _)] ?_ ⟨rfl, rfl, rfl, rfl, rfl, trivial⟩
        exact WP.again (i + 1, v, Ln) ⟨(show i + 1 ≤ 4 by omega), hnew⟩ (show 4 - (i + 1) < 4 - i by omega) ⟨rfl, rfl, rfl, rfl, trivial⟩ rfl (by (try dsimp only); repeat (first | exact Rm.chunk | exact Rm.here | exact Rm.nil0 | apply Rm.skip | apply Rm.skipS | apply PX.cons | (apply PX.done; (repeat (first | exact Leave.done | apply Leave.drop | apply Leave.dropS)); done) | apply PX.app))
      · obtain rfl : i = 4 := by omega
        refine WP.nil ?_
        refine WP.sub [(1, _), (5, _), (6, _), (7, _), (52, _)] ?_ ⟨rfl, rfl, rfl, rfl, rfl, trivial⟩
        refine WP.next ?_
        refine WP.condF rfl ?_
        refine WP.exit ?_
        refine WP.thenE ?_
        refine WP.thenE ?_
        refine WP.hit ?_
        refine WP.next ?_
        refine WP.seq ?_
        refine WP.region [0, 1, 2] rfl ?_
        refine WP.val rfl rfl rfl rfl (Yld.move rfl rfl) ?_
        refine WP.val rfl rfl rfl rfl (Yld.assign rfl rfl) ?_
        refine WP.val rfl rfl rfl rfl (Yld.assign rfl rfl) ?_
        refine WP.nil ?_
        refine WP.sub [(1, _), (2, _), (3, _), (5, _), (6, _), (7, _), (52, _)] ?_ ⟨rfl, rfl, rfl, rfl, rfl, rfl, rfl, trivial⟩
        refine WP.next ?_
        refine WP.ret ?_
        refine WP.fin .ret (.inr rfl) (res2 rfl rfl rfl) Lo (by repeat (first | exact Take.nil | with_reducible apply Take.cons | apply Take.app | exact Rm.chunk | exact Rm.here | exact Rm.nil0 | apply Rm.skip | apply Rm.skipS | (focus (apply Take.all; (repeat (first | exact Rm.chunk | exact Rm.here | exact Rm.nil0 | apply Rm.skip | apply Rm.skipS)); done)) | apply Take.cons)) (by repeat (first | exact Leave.done | apply Leave.drop | apply Leave.dropS)) hJ2 ?_
        exact .inl ⟨hm, _, rfl, hout⟩
  · have hbt : (decide p.may) = false := eq_false_of_ne_true hbt
    rw [hbt]
    refine WP.val rfl rfl rfl rfl (Yld.assign rfl rfl) ?_
    refine WP.nil ?_
    refine WP.sub [(0, _), (1, _), (2, _), (3, _), (4, _)] ?_ ⟨rfl, rfl, rfl, rfl, rfl, trivial⟩
    refine WP.next ?_
    refine WP.seq ?_
    refine WP.seq ?_
    refine WP.region [0, 1] rfl ?_
    refine WP.val rfl rfl rfl rfl (Yld.move rfl rfl) ?_
    refine WP.val rfl rfl rfl rfl (Yld.not rfl rfl) ?_
    refine WP.nil ?_
    refine WP.sub [(0, _), (1, _), (2, _), (3, _), (4, _), (11, _)] ?_ ⟨rfl, rfl, rfl, rfl, rfl, rfl, trivial⟩
    refine WP.next ?_
    refine WP.condT rfl ?_
    refine WP.seq ?_
    refine WP.region [0, 1] rfl ?_
    refine WP.val rfl rfl rfl rfl (Yld.assign rfl rfl) ?_
    refine WP.val rfl rfl rfl rfl (Yld.assign rfl rfl) ?_
    refine WP.nil ?_
    refine WP.next ?_
    refine WP.ret ?_
    refine WP.fin .ret (.inr rfl) (res2 rfl rfl rfl) [] (by repeat (first | exact Take.nil | with_reducible apply Take.cons | apply Take.app | exact Rm.chunk | exact Rm.here | exact Rm.nil0 | apply Rm.skip | apply Rm.skipS | (focus (apply Take.all; (repeat (first | exact Rm.chunk | exact Rm.here | exact Rm.nil0 | apply Rm.skip | apply Rm.skipS)); done)) | apply Take.cons)) (by repeat (first | exact Leave.done | apply Leave.drop | apply Leave.dropS)) (Imm.le_refl _) ?_
    exact .inr ⟨of_decide_eq_false hbt, rfl, rfl, rfl⟩


theorem ref_Encode_ok {I : Imm} {p : Pt} {v : Value} (hv : SlRd (Im I) v p.data.length 1 (bytesV p.data)) (hm : p.may) : Spec Try.prog 17 [.agg (ptV p v).toArray] I [] (fun v J L => ∃ vb, v = .tuple #[vb, .int .i64 0] ∧ Own 5 1 vb (bytesV (penc p)) (penc p).length L) := (ref_Encode hv).mono (fun v J L _ h => (h.resolve_right (fun h => h.1 hm)).2)
theorem ref_Encode_bad {I : Imm} {p : Pt} {v : Value} (hv : SlRd (Im I) v p.data.length 1 (bytesV p.data)) (hm : ¬ p.may) : Spec Try.prog 17 [.agg (ptV p v).toArray] I [] (fun v J L => v = .tuple #[.slice none 0 0, .int .i64 70] ∧ I = J ∧ L = []) := (ref_Encode hv).mono (fun v J L _ h => (h.resolve_left (fun h => hm h.1)).2)

end Go.Hp
