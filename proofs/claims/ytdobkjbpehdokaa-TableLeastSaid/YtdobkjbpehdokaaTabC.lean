import Derived.Test.YtdobkjbpehdokaaTabB
set_option linter.unusedVariables false
set_option linter.unusedSimpArgs false
namespace Go.Hp
open Go Go.Proofs

theorem NodesOk.set {V : Nat → Obj → Prop} {nv : List (Bool × Value)} {l : List (Bool × List UInt8)} (h : NodesOk V nv l) {i : Nat} (hi : i < nv.length) {d : List UInt8} (hd : l[i]? = some (nv[i].1, d)) {v : Value} (hv : SlRd V v d.length 1 (bytesV d)) : NodesOk V (nv.set i (nv[i].1, v)) l := by
  refine ⟨by rw [List.length_set]; exact h.len, fun j x hx => ?_⟩
  by_cases e : j = i
  · subst e
    rw [List.getElem?_set_self hi] at hx
    cases hx; exact ⟨d, hd, hv⟩
  · rw [List.getElem?_set_ne (Ne.symm e)] at hx
    exact h.at_ j x hx
theorem zeros_len (n k : Nat) (z : List Value) (hz : z.length = k) : (List.replicate n z).flatten.length = n * k := by
  induction n with
  | zero => simp
  | succ n ih => rw [List.replicate_succ, List.flatten_cons, List.length_append, ih, hz, Nat.add_mul]; omega
theorem splice_all (old cs : List Value) (h : old.length = cs.length) : splice old 0 cs = cs := by
  unfold splice
  rw [List.take_zero, List.nil_append, Nat.zero_add, List.drop_of_length_le (by omega), List.append_nil]
theorem ndV_one (l : List (Bool × Value)) {V : Nat → Obj → Prop} {m : List (Bool × List UInt8)} (h : NodesOk V l m) : (l.flatMap ndV).all (·.oneCell') = true := by
  rw [List.all_eq_true]
  intro v hv
  obtain ⟨x, hx, hv⟩ := List.mem_flatMap.1 hv
  obtain ⟨i, hi, rfl⟩ := List.getElem_of_mem hx
  obtain ⟨d, _, ⟨A, c, he, _⟩⟩ := h.at_ i _ (List.getElem?_eq_getElem hi)
  simp only [ndV, List.mem_cons, List.not_mem_nil, or_false] at hv
  rcases hv with rfl | rfl
  · rfl
  · rw [he]; rfl
theorem ints_one (l : List Int) : (l.map (Value.int .i64)).all (·.oneCell') = true := by simp [List.all_eq_true, Value.oneCell']
structure CX where
  i : Nat
  J : Imm
  nv : List (Bool × Value)

theorem bytesZ (n : Nat) : (List.replicate n (Value.int .u8 0).cells.toList).flatten = bytesV (List.replicate n (0 : UInt8)) := by
  induction n with
  | zero => rfl
  | succ n ih => rw [List.replicate_succ, List.flatten_cons, ih]; simp [Value.cells, List.replicate_succ, bytesV, byteV]
theorem intsZ (n : Nat) : (List.replicate n (Value.int .i64 0).cells.toList).flatten = (List.replicate n (0 : Int)).map (Value.int .i64) := by
  induction n with
  | zero => rfl
  | succ n ih => rw [List.replicate_succ, List.flatten_cons, ih]; simp [Value.cells, List.replicate_succ]

theorem SlRd.slice' {V : Nat → Obj → Prop} {v : Value} {m sz : Nat} {cs : List Value} (h : SlRd V v m sz cs) : ∃ A c, v = .slice A m c ∧ m ≤ c := by
  obtain ⟨A, c, h1, h2, _⟩ := h; exact ⟨A, c, h1, h2⟩
theorem tab_copied {I : Imm} {e : Ent} {cs : List Value} (he : REnt I e cs) (hsz : e.sized) : Spec Try.prog 47 [.agg cs.toArray] I [] (fun v J L => ∃ cs', v = .agg cs'.toArray ∧ REnt J e cs' ∧ L = []) := by
  obtain ⟨vn, vw, nv, rfl, hn, hno, hw⟩ := he.ex
  obtain ⟨An, cn, rfl, hcn⟩ := hn.slice'
  obtain ⟨Aw, cw, rfl, hcw⟩ := hw.slice'
  refine Spec.of Try.func47 rfl Try.ntmps47 (Nat.le_of_ble_eq_true rfl) (fun F => ?_)
  try simp only [List.cons_append, List.nil_append, List.append_assoc]
  dsimp only [argsEnv]
  refine WP.seq ?_
  refine WP.region [0, 1] rfl ?_
  refine WP.loud rfl rfl ?_
  refine Op.box rfl rfl rfl rfl rfl (fun bt1 => ?_)
  refine WP.loud rfl rfl ?_
  refine Op.alloc rfl rfl rfl ty_zr_63 (fun bt2 => ?_)
  refine WP.nil ?_
  refine WP.next ?_
  refine WP.seq ?_
  refine WP.region [0, 1, 2, 3, 4] rfl ?_
  refine WP.val rfl rfl rfl rfl (Yld.fieldAddr rfl ty_fd_63_1 rfl) ?_
  refine WP.val rfl rfl rfl rfl (Yld.load rfl ty_sc_61 rfl (by repeat (first | exact There.h | exact There.i (by assumption) | apply There.t | apply There.s)) rfl) ?_
  refine WP.val rfl rfl rfl rfl (Yld.lenR hn rfl ty_sl_61 rfl) ?_
  refine WP.loud rfl rfl ?_
  refine Op.make (l := e.nodes.length) (c := e.nodes.length) rfl ty_sl_61 ty_el_61 rfl rfl rfl rfl rfl (Nat.le_refl _) (by have := hsz.nodes; omega) (by have := hsz.nodes; omega) (fun bn => ?_)
  have hzl := zeros_len e.nodes.length 2 (Value.agg #[.bool false, .slice none 0 0]).cells.toList rfl
  generalize (List.replicate e.nodes.length (Value.agg #[.bool false, .slice none 0 0]).cells.toList).flatten = zs at hzl ⊢
  have hnl := hno.len
  refine WP.val rfl rfl rfl rfl (Yld.assign rfl rfl) ?_
  refine WP.nil ?_
  refine WP.sub [(0, _), (1, _), (2, _), (3, _)] ?_ ⟨rfl, rfl, rfl, rfl, trivial⟩
  refine WP.next ?_
  refine WP.seq ?_
  refine WP.region [0, 1, 2, 3] rfl ?_
  refine WP.val rfl rfl rfl rfl (Yld.move rfl rfl) ?_
  refine WP.val rfl rfl rfl rfl (Yld.fieldAddr rfl ty_fd_63_1 rfl) ?_
  refine WP.val rfl rfl rfl rfl (Yld.load rfl ty_sc_61 rfl (by repeat (first | exact There.h | exact There.i (by assumption) | apply There.t | apply There.s)) rfl) ?_
  refine WP.loud rfl rfl ?_
  refine Op.copy (k := 0) (m := e.nodes.length) (m2 := e.nodes.length) (q := e.nodes.length) (cs := nv.flatMap ndV) (old := zs) (new := nv.flatMap ndV ++ []) rfl ty_sl_61 rfl rfl rfl rfl (SlAt.blk (Nat.le_refl _)) (hn.mono (fun b o h => .inr h)) (ndV_one nv hno) (Nat.min_self _) (by omega) (by rw [List.append_nil, List.take_of_length_le (by rw [flat_len ndV_len]; omega), splice_all _ _ (by rw [flat_len ndV_len, hzl, hnl])]) (by repeat (first | exact Upd.head | apply Upd.tail | apply Upd.tailS)) ?_
  refine WP.nil ?_
  refine WP.sub [(0, _), (1, _), (2, _), (3, _)] ?_ ⟨rfl, rfl, rfl, rfl, trivial⟩
  refine WP.next ?_
  refine WP.seq ?_
  refine WP.seq ?_
  refine WP.region [0, 1, 2] rfl ?_
  refine WP.val rfl rfl rfl rfl (Yld.move rfl rfl) ?_
  refine WP.val rfl rfl rfl rfl (Yld.len rfl ty_sl_61 rfl) ?_
  refine WP.val rfl rfl rfl rfl (Yld.move rfl rfl) ?_
  refine WP.nil ?_
  refine WP.next ?_
  refine WP.block ?_
  refine WP.loop (X := CX) (fun t : CX => [(1, .pointer (some ⟨bt1, 0, none⟩)), (2, .pointer (some ⟨bt2, 0, none⟩)), (3, .slice (some ⟨bn, 0, none⟩) e.nodes.length e.nodes.length), (15, .slice (some ⟨bn, 0, none⟩) e.nodes.length e.nodes.length), (16, .int .i64 (e.nodes.length : Int)), (17, .int .i64 (t.i : Int))]) (fun t => t.J) (fun t : CX => (bn, row 69 (t.nv.flatMap ndV ++ [])) :: (bt1, row 63 (entV e (.slice An e.nodes.length cn) (.slice Aw e.with_.length cw))) :: (bt2, row 63 (entV zeroEnt (.slice none 0 0) (.slice none 0 0))) :: F) (fun t => t.i ≤ e.nodes.length ∧ I.le t.J ∧ NodesOk (Imv t.J) t.nv e.nodes) (fun t => e.nodes.length - t.i) ⟨0, I, nv⟩ ⟨Nat.zero_le _, Imm.le_refl _, hno⟩ ⟨rfl, rfl, rfl, rfl, rfl, rfl, trivial⟩ rfl (by (try dsimp only); repeat (first | exact Rm.chunk | exact Rm.here | exact Rm.nil0 | apply Rm.skip | apply Rm.skipS | apply PX.cons | (apply PX.done; (repeat (first | exact Leave.done | apply Leave.drop | apply Leave.dropS)); done) | apply PX.app)) ?_
  rintro ⟨i, J, nv2⟩ ⟨hle, hJ, hno2⟩
  try dsimp only
  try simp only [List.cons_append, List.nil_append, List.append_assoc]
  refine WP.seq ?_
  refine WP.region [0] rfl ?_
  refine WP.split rfl rfl rfl rfl (Yld.lss rfl rfl rfl) (fun hlt => ?_) (fun hlt => ?_)
  · simp only at hle hJ hno2
    have hnl0 := hsz.nodes
    have hi : i < e.nodes.length := by first | omega | (simp only at hlt; omega)
    have hin : i < nv2.length := by rw [hno2.len]; exact hi
    obtain ⟨d, hd1, hd2⟩ := hno2.at_ i _ (List.getElem?_eq_getElem hin)
    obtain ⟨Ad, cd, hvd, hcd, _⟩ := id hd2
    have hdl := hsz.data _ (List.mem_of_getElem? hd1)
    simp only at hdl
    refine WP.nil ?_
    refine WP.next ?_
    refine WP.seq ?_
    refine WP.condT rfl ?_
    refine WP.skip ?_
    refine WP.next ?_
    refine WP.seq ?_
    refine WP.block ?_
    refine WP.seq ?_
    refine WP.region [0, 1, 2, 3, 4, 5] rfl ?_
    refine WP.val rfl rfl rfl rfl (Yld.move rfl rfl) ?_
    refine WP.val rfl rfl rfl rfl (Yld.indexAddr (i := i) rfl ty_sl_61 rfl rfl hi) ?_
    refine WP.val rfl rfl rfl rfl (Yld.loadAggC rfl ty_ag_69 rfl (show There _ _ bn (row 69 (nv2.flatMap ndV ++ [])) from (by repeat (first | exact There.h | exact There.i (by assumption) | apply There.t | apply There.s))) (flat_seg ndV_len hin []) rfl) ?_
    refine WP.loud rfl rfl ?_
    refine Op.alloc rfl rfl rfl ty_zr_69 (fun b5 => ?_)
    refine WP.val rfl rfl rfl rfl (Yld.assign rfl rfl) ?_
    refine WP.loud rfl rfl ?_
    refine Op.storeAll rfl rfl ty_sz_69 rfl rfl rfl (by simp only [ndV, hvd]; rfl) (by repeat (first | exact Upd.head | apply Upd.tail | apply Upd.tailS)) rfl ?_
    refine WP.nil ?_
    refine WP.sub [(1, _), (2, _), (3, _), (4, _), (5, _), (15, _), (16, _), (17, _), (18, _)] ?_ ⟨rfl, rfl, rfl, rfl, rfl, rfl, rfl, rfl, rfl, trivial⟩
    refine WP.next ?_
    refine WP.seq ?_
    refine WP.region [0, 1, 2, 3, 4, 5, 6, 7, 8] rfl ?_
    refine WP.val rfl rfl rfl rfl (Yld.move rfl rfl) ?_
    refine WP.val rfl rfl rfl rfl (Yld.move rfl rfl) ?_
    refine WP.val rfl rfl rfl rfl (Yld.fieldAddr rfl ty_fd_69_1 rfl) ?_
    refine WP.val rfl rfl rfl rfl (Yld.load rfl ty_sc_67 rfl (by repeat (first | exact There.h | exact There.i (by assumption) | apply There.t | apply There.s)) rfl) ?_
    refine WP.val rfl rfl rfl rfl (Yld.lenR hd2 rfl ty_sl_67 rfl) ?_
    refine WP.loud rfl rfl ?_
    refine Op.make (l := d.length) (c := d.length) rfl ty_sl_67 ty_el_67 rfl rfl rfl rfl rfl (Nat.le_refl _) (by omega) (by omega) (fun bd => ?_)
    rw [bytesZ]
    refine WP.val rfl rfl rfl rfl (Yld.indexAddr (i := i) rfl ty_sl_61 rfl rfl hi) ?_
    refine WP.val rfl rfl rfl rfl (Yld.fieldAddr rfl ty_fd_69_1 rfl) ?_
    refine WP.loud rfl rfl ?_
    refine Op.store1 rfl rfl ty_sz_67 rfl rfl rfl (by repeat (first | exact Upd.head | apply Upd.tail | apply Upd.tailS)) (flat_set ndV_len hin (by decide) [] (nv2[i].1, .slice (some ⟨bd, 0, none⟩) d.length d.length) rfl) ?_
    refine WP.nil ?_
    refine WP.sub [(1, _), (2, _), (3, _), (4, _), (5, _), (15, _), (16, _), (17, _), (18, _)] ?_ ⟨rfl, rfl, rfl, rfl, rfl, rfl, rfl, rfl, rfl, trivial⟩
    refine WP.next ?_
    refine WQ.start Trymixed 7 (by kernel_rfl) _ rfl [7] rfl ?_
    refine WQ.val rfl rfl rfl (Yld.move rfl rfl) ?_
    refine WQ.val rfl rfl rfl (Yld.move rfl rfl) ?_
    refine WQ.val rfl rfl rfl (Yld.indexAddr (i := i) rfl ty_sl_61 rfl rfl hi) ?_
    refine WQ.val rfl rfl rfl (Yld.fieldAddr rfl ty_fd_69_1 rfl) ?_
    refine WQ.val rfl rfl rfl (Yld.load rfl ty_sc_67 rfl (by repeat (first | exact There.h | exact There.i (by assumption) | apply There.t | apply There.s)) (flat_at ndV_len (l := nv2.set i (nv2[i].1, .slice (some ⟨bd, 0, none⟩) d.length d.length)) (j := 1) (by simpa using hin) (by decide) [] (by simp only [List.getElem_set_self]; rfl))) ?_
    refine WQ.val rfl rfl rfl (Yld.fieldAddr rfl ty_fd_69_1 rfl) ?_
    refine WQ.val rfl rfl rfl (Yld.load rfl ty_sc_67 rfl (by repeat (first | exact There.h | exact There.i (by assumption) | apply There.t | apply There.s)) rfl) ?_
    refine WQ.nil ?_
    refine WP.loud rfl rfl ?_
    refine Op.copyB (k := 0) (m := d.length) (m2 := d.length) (q := d.length) (old := List.replicate d.length 0) (new := d) (s := d) rfl ty_sl_67 rfl rfl rfl rfl (SlAt.blk (Nat.le_refl _)) (hd2.mono (fun b o h => .inr h)) (Nat.min_self _) (by simp) (by simp) (by repeat (first | exact Upd.head | apply Upd.tail | apply Upd.tailS)) ?_
    refine WP.nil ?_
    refine WP.sub [(1, _), (2, _), (3, _), (4, _), (5, _), (15, _), (16, _), (17, _), (18, _)] ?_ ⟨rfl, rfl, rfl, rfl, rfl, rfl, rfl, rfl, rfl, trivial⟩
    have hob := Own.blk (T := 5) (sz := 1) (b := bd) (cap := d.length) (n := d.length) (xs := bytesV d) (sp := []) (by rw [bytesV_len, Nat.mul_one]) (by rw [bytesV_len]; simp) (Nat.le_refl _)
    rw [List.append_nil] at hob
    refine WP.shareOwn hob (by repeat (first | exact Take.nil | with_reducible apply Take.cons | apply Take.app | exact Rm.chunk | exact Rm.here | exact Rm.nil0 | apply Rm.skip | apply Rm.skipS | (focus (apply Take.all; (repeat (first | exact Rm.chunk | exact Rm.here | exact Rm.nil0 | apply Rm.skip | apply Rm.skipS)); done)) | apply Take.cons)) (fun J2 hJ2 hd9 => ?_)
    refine WP.leave ?_
    refine WP.next ?_
    refine WP.region [0, 1] rfl ?_
    refine WP.val rfl rfl rfl rfl (Yld.add64 rfl rfl rfl (by omega)) ?_
    refine WP.val rfl rfl rfl rfl (Yld.move rfl rfl) ?_
    refine WP.nil ?_
    refine WP.sub [(1, _), (2, _), (3, _), (4, _), (5, _), (15, _), (16, _), (17, _), (18, _)] ?_ ⟨rfl, rfl, rfl, rfl, rfl, rfl, rfl, rfl, rfl, trivial⟩
    exact WP.again ⟨i + 1, J2, nv2.set i (nv2[i].1, .slice (some ⟨bd, 0, none⟩) d.length d.length)⟩ ⟨hi, Imm.le_trans hJ hJ2, (hno2.mono (Imv.le hJ2)).set hin hd1 hd9⟩ (by simp only; omega) ⟨rfl, rfl, rfl, rfl, rfl, rfl, trivial⟩ rfl (by (try dsimp only); repeat (first | exact Rm.chunk | exact Rm.here | exact Rm.nil0 | apply Rm.skip | apply Rm.skipS | apply PX.cons | (apply PX.done; (repeat (first | exact Leave.done | apply Leave.drop | apply Leave.dropS)); done) | apply PX.app))
  · simp only at hle hJ hno2
    have hnl2 := hno2.len
    refine WP.shareOwn (Own.blk (T := 69) (sz := 2) (b := bn) (cap := e.nodes.length) (n := e.nodes.length) (xs := nv2.flatMap ndV) (sp := []) (by rw [flat_len ndV_len, hnl2]) (by rw [flat_len ndV_len, hnl2]; rfl) (Nat.le_refl _)) (by repeat (first | exact Take.nil | with_reducible apply Take.cons | apply Take.app | exact Rm.chunk | exact Rm.here | exact Rm.nil0 | apply Rm.skip | apply Rm.skipS | (focus (apply Take.all; (repeat (first | exact Rm.chunk | exact Rm.here | exact Rm.nil0 | apply Rm.skip | apply Rm.skipS)); done)) | apply Take.cons)) (fun J3 hJ3 hn3 => ?_)
    have hno3 := hno2.mono (Imv.le hJ3)
    have hw3 := hw.mono (Imv.le (Imm.le_trans hJ hJ3))
    refine WP.nil ?_
    refine WP.next ?_
    refine WP.seq ?_
    refine WP.condF rfl ?_
    refine WP.exit ?_
    refine WP.thenE ?_
    refine WP.thenE ?_
    refine WP.hit ?_
    refine WP.next ?_
    refine WP.seq ?_
    refine WP.region [0, 1, 2] rfl ?_
    refine WP.val rfl rfl rfl rfl (Yld.move rfl rfl) ?_
    refine WP.val rfl rfl rfl rfl (Yld.fieldAddr rfl ty_fd_63_1 rfl) ?_
    refine WP.loud rfl rfl ?_
    refine Op.store1 rfl rfl ty_sz_61 rfl rfl rfl (by repeat (first | exact Upd.head | apply Upd.tail | apply Upd.tailS)) (by repeat (first | exact SetAt.zero | apply SetAt.succ)) ?_
    refine WP.nil ?_
    refine WP.sub [(1, _), (2, _), (3, _), (15, _), (16, _), (17, _), (18, _)] ?_ ⟨rfl, rfl, rfl, rfl, rfl, rfl, rfl, trivial⟩
    refine WP.next ?_
    refine WP.seq ?_
    refine WP.region [0, 1, 2, 3, 4] rfl ?_
    refine WP.val rfl rfl rfl rfl (Yld.fieldAddr rfl ty_fd_63_8 rfl) ?_
    refine WP.val rfl rfl rfl rfl (Yld.load rfl ty_sc_23 rfl (by repeat (first | exact There.h | exact There.i (by assumption) | apply There.t | apply There.s)) rfl) ?_
    refine WP.val rfl rfl rfl rfl (Yld.lenR hw3 rfl ty_sl_23 rfl) ?_
    refine WP.loud rfl rfl ?_
    refine Op.make (l := e.with_.length) (c := e.with_.length) rfl ty_sl_23 ty_el_23 rfl rfl rfl rfl rfl (Nat.le_refl _) (by have := hsz.with_; omega) (by have := hsz.with_; omega) (fun bw => ?_)
    rw [intsZ]
    refine WP.val rfl rfl rfl rfl (Yld.assign rfl rfl) ?_
    refine WP.nil ?_
    refine WP.sub [(1, _), (2, _), (3, _), (6, _), (15, _), (16, _), (17, _), (18, _)] ?_ ⟨rfl, rfl, rfl, rfl, rfl, rfl, rfl, rfl, trivial⟩
    refine WP.next ?_
    refine WP.seq ?_
    refine WP.region [0, 1, 2, 3] rfl ?_
    refine WP.val rfl rfl rfl rfl (Yld.move rfl rfl) ?_
    refine WP.val rfl rfl rfl rfl (Yld.fieldAddr rfl ty_fd_63_8 rfl) ?_
    refine WP.val rfl rfl rfl rfl (Yld.load rfl ty_sc_23 rfl (by repeat (first | exact There.h | exact There.i (by assumption) | apply There.t | apply There.s)) rfl) ?_
    refine WP.loud rfl rfl ?_
    refine Op.copy (k := 0) (m := e.with_.length) (m2 := e.with_.length) (q := e.with_.length) (cs := e.with_.map (Value.int .i64)) (old := (List.replicate e.with_.length (0 : Int)).map (Value.int .i64)) (new := e.with_.map (Value.int .i64) ++ []) rfl ty_sl_23 rfl rfl rfl rfl (SlAt.blk (Nat.le_refl _)) (hw3.mono (fun b o h => .inr h)) (ints_one _) (Nat.min_self _) (by simp) (by rw [List.append_nil, List.take_of_length_le (by simp), splice_all _ _ (by simp)]) (by repeat (first | exact Upd.head | apply Upd.tail | apply Upd.tailS)) ?_
    refine WP.nil ?_
    refine WP.sub [(1, _), (2, _), (3, _), (6, _), (15, _), (16, _), (17, _), (18, _)] ?_ ⟨rfl, rfl, rfl, rfl, rfl, rfl, rfl, rfl, trivial⟩
    refine WP.shareOwn (Own.blk (T := 3) (sz := 1) (b := bw) (cap := e.with_.length) (n := e.with_.length) (xs := e.with_.map (Value.int .i64)) (sp := []) (by simp) (by simp) (Nat.le_refl _)) (by repeat (first | exact Take.nil | with_reducible apply Take.cons | apply Take.app | exact Rm.chunk | exact Rm.here | exact Rm.nil0 | apply Rm.skip | apply Rm.skipS | (focus (apply Take.all; (repeat (first | exact Rm.chunk | exact Rm.here | exact Rm.nil0 | apply Rm.skip | apply Rm.skipS)); done)) | apply Take.cons)) (fun J4 hJ4 hw4 => ?_)
    have hn4 := hn3.mono (fun b o h => hJ4.2 b o h)
    have hno4 := hno3.mono (Imv.le hJ4)
    refine WP.next ?_
    refine WP.seq ?_
    refine WP.region [0, 1, 2] rfl ?_
    refine WP.val rfl rfl rfl rfl (Yld.move rfl rfl) ?_
    refine WP.val rfl rfl rfl rfl (Yld.fieldAddr rfl ty_fd_63_8 rfl) ?_
    refine WP.loud rfl rfl ?_
    refine Op.store1 rfl rfl ty_sz_23 rfl rfl rfl (by repeat (first | exact Upd.head | apply Upd.tail | apply Upd.tailS)) (by repeat (first | exact SetAt.zero | apply SetAt.succ)) ?_
    refine WP.nil ?_
    refine WP.sub [(1, _), (2, _), (3, _), (6, _), (15, _), (16, _), (17, _), (18, _)] ?_ ⟨rfl, rfl, rfl, rfl, rfl, rfl, rfl, rfl, trivial⟩
    refine WP.next ?_
    refine WP.seq ?_
    refine WP.region [0, 1] rfl ?_
    refine WP.val rfl rfl rfl rfl (Yld.loadAll rfl ty_ag_63 rfl (by repeat (first | exact There.h | exact There.i (by assumption) | apply There.t | apply There.s)) rfl) ?_
    refine WP.loud rfl rfl ?_
    refine Op.storeAll rfl rfl ty_sz_63 rfl rfl rfl rfl (by repeat (first | exact Upd.head | apply Upd.tail | apply Upd.tailS)) rfl ?_
    refine WP.nil ?_
    refine WP.sub [(1, _), (2, _), (3, _), (6, _), (15, _), (16, _), (17, _), (18, _)] ?_ ⟨rfl, rfl, rfl, rfl, rfl, rfl, rfl, rfl, trivial⟩
    refine WP.next ?_
    refine WP.ret ?_
    refine WP.fin .ret (.inr rfl) (resC rfl ty_ag_63 rfl (by repeat (first | exact There.h | exact There.i (by assumption) | apply There.t | apply There.s)) rfl) [] (by repeat (first | exact Take.nil | with_reducible apply Take.cons | apply Take.app | exact Rm.chunk | exact Rm.here | exact Rm.nil0 | apply Rm.skip | apply Rm.skipS | (focus (apply Take.all; (repeat (first | exact Rm.chunk | exact Rm.here | exact Rm.nil0 | apply Rm.skip | apply Rm.skipS)); done)) | apply Take.cons)) (by repeat (first | exact Leave.done | apply Leave.drop | apply Leave.dropS)) (Imm.le_trans hJ (Imm.le_trans hJ3 hJ4)) ?_
    exact ⟨_, rfl, ⟨_, _, nv2, rfl, hn4, hno4, hw4⟩, rfl⟩


end Go.Hp
