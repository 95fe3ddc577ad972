import Derived.Test.YtoplcafnmghifaaCellD
import Derived.Test.YtoplcafnmghifaaCellB
set_option linter.unusedVariables false
set_option linter.unusedSimpArgs false
namespace Go.Hp
open Go Go.Proofs

structure D4.ok (ex : List XC) (py : List Value) (x : D4) : Prop where
  le : x.j ≤ ex.length
  ly : x.ey.length = ex.length
  py : x.ey.map yp = py
  vy : x.ey.map (·.s.v) = ex.map (·.v)
theorem D4.vyj {ex : List XC} {py : List Value} {x : D4} (h : x.ok ex py) {j : Nat} (hj : j < ex.length) (hjy : j < x.ey.length) : (x.ey[j]).s.v = (ex[j]).v := by
  have h1 : (x.ey.map (·.s.v))[j]? = (ex.map (·.v))[j]? := by rw [h.vy]
  rw [List.getElem?_map, List.getElem?_map, List.getElem?_eq_getElem hjy, List.getElem?_eq_getElem hj] at h1
  simpa using h1
theorem D4.gety {ex : List XC} {py : List Value} {x : D4} (h : x.ok ex py) {j : Nat} (hj : j < x.ey.length) (sp : List Value) : (py ++ sp)[0 + j * 1]? = some (yp x.ey[j]) := by
  rw [← h.py, Nat.zero_add, Nat.mul_one, List.getElem?_append_left (by simpa using hj)]; simp [yp, hj]
theorem D4.next {ex : List XC} {py : List Value} {x : D4} (h : x.ok ex py) (hj : x.j < ex.length) (hjy : x.j < x.ey.length) {l : Int} {t : CS} : (⟨x.j + 1, t, x.ey.set x.j ⟨(x.ey[x.j]).b, (x.ey[x.j]).cb, { (x.ey[x.j]).s with l := l }⟩⟩ : D4).ok ex py where
  le := hj
  ly := by simp [h.ly]
  py := by
    refine Eq.trans ?_ h.py
    simp only [List.map_set]
    apply List.ext_getElem?
    intro j
    by_cases hj : j = x.j
    · subst hj; simp [hjy, yp]
    · rw [List.getElem?_set_ne (Ne.symm hj)]
  vy := by
    refine Eq.trans ?_ h.vy
    simp only [List.map_set]
    apply List.ext_getElem?
    intro j
    by_cases hj : j = x.j
    · subst hj; simp [hjy]
    · rw [List.getElem?_set_ne (Ne.symm hj)]
set_option maxHeartbeats 1000000 in
theorem cell_CellDoes {I : Imm} {first : List Int} {ops : List COp} {v1 v2 : Value} (hf : Slc I 1 (fun (a : Int) cs => cs = [.int .i64 a] ∧ (Lit.int .i64 a).wf = true) v1 first) (hl : Slc I 4 ROp v2 ops) (hfb : first.length * 8 ≤ 140737488351232) (hn : ops.length ≤ 2 ^ 62) : Spec Try.prog 4 [v1, v2] I [] (fun v' J L => v' = .bool true ∧ I = J ∧ L = []) := by
  have hf' := hf
  obtain ⟨A, cap, rfl, hcap, hfirst⟩ := hf
  obtain ⟨A2, cap2, rfl, hcap2, hops⟩ := hl
  refine Spec.of Try.func4 rfl Try.ntmps4 (Nat.le_of_ble_eq_true rfl) (fun F => ?_)
  try simp only [List.cons_append, List.nil_append, List.append_assoc]
  dsimp only [argsEnv]
  refine WP.seq ?_
  refine WP.region [0] rfl ?_
  refine WP.val rfl rfl rfl rfl (Yld.assign rfl rfl) ?_
  refine WP.nil ?_
  refine WP.next ?_
  refine WP.seq ?_
  refine WP.region [0, 1] rfl ?_
  refine WP.loud rfl rfl ?_
  refine Op.call (cell_awake _) rfl Try.func11 rfl rfl rfl rfl (by repeat (first | exact Take.nil | apply Take.cons | apply Take.app | exact Rm.chunk | exact Rm.here | apply Rm.skip | apply Rm.skipS | apply Take.all)) ?_
  rintro v J L1 hJ ⟨rfl, rfl, rfl⟩
  clear hJ; try simp only [List.cons_append, List.nil_append, List.append_assoc]
  refine WP.val rfl rfl rfl rfl (Yld.assign rfl rfl) ?_
  refine WP.nil ?_
  refine WP.sub [(0, _), (1, _), (4, _), (5, _)] ?_ ⟨rfl, rfl, rfl, rfl, trivial⟩
  refine WP.next ?_
  refine WP.seq ?_
  refine WP.region [0, 1] rfl ?_
  refine WP.loud rfl rfl ?_
  refine Op.call (cell_NewCount _) rfl Try.func12 rfl rfl rfl rfl (by repeat (first | exact Take.nil | apply Take.cons | apply Take.app | exact Rm.chunk | exact Rm.here | apply Rm.skip | apply Rm.skipS | apply Take.all)) ?_
  rintro v J L1 hJ ⟨c, rfl, rfl, rfl⟩
  clear hJ; try simp only [List.cons_append, List.nil_append, List.append_assoc]
  refine WP.val rfl rfl rfl rfl (Yld.assign rfl rfl) ?_
  refine WP.nil ?_
  refine WP.sub [(0, _), (1, _), (4, _), (5, _), (6, _)] ?_ ⟨rfl, rfl, rfl, rfl, rfl, trivial⟩
  refine WP.next ?_
  refine WP.seq ?_
  refine WP.seq ?_
  refine WP.region [0, 1, 2, 3, 4, 5] rfl ?_
  refine WP.val rfl rfl rfl rfl (Yld.move rfl rfl) ?_
  refine WP.val rfl rfl rfl rfl (Yld.not rfl rfl) ?_
  refine WP.val rfl rfl rfl rfl (Yld.move rfl rfl) ?_
  refine WP.valG rfl rfl rfl rfl rfl rfl rfl (Yld.move rfl rfl) ?_
  refine WP.valG rfl rfl rfl rfl rfl rfl rfl (Yld.eqlNil rfl ty_pt_24 rfl rfl) ?_
  refine WP.val rfl rfl rfl rfl (Yld.pickF rfl rfl rfl) ?_
  refine WP.nil ?_
  refine WP.sub [(0, _), (1, _), (4, _), (5, _), (6, _), (28, _)] ?_ ⟨rfl, rfl, rfl, rfl, rfl, rfl, trivial⟩
  refine WP.next ?_
  refine WP.condF rfl ?_
  refine WP.skip ?_
  refine WP.next ?_
  refine WP.seq ?_
  refine WP.region [0] rfl ?_
  refine WP.val rfl rfl rfl rfl (Yld.assign rfl rfl) ?_
  refine WP.nil ?_
  refine WP.next ?_
  refine WP.seq ?_
  refine WP.region [0] rfl ?_
  refine WP.val rfl rfl rfl rfl (Yld.assign rfl rfl) ?_
  refine WP.nil ?_
  refine WP.next ?_
  refine WP.seq ?_
  refine WP.seq ?_
  refine WP.region [0] rfl ?_
  refine WP.val rfl rfl rfl rfl (Yld.assign rfl rfl) ?_
  refine WP.nil ?_
  refine WP.next ?_
  refine WP.block ?_
  refine WP.loop (X := D0) (fun x : D0 => [(0, .slice A first.length cap), (1, .slice A2 ops.length cap2), (4, .bool false), (6, .pointer (some ⟨c, 0, none⟩)), (7, x.v7), (8, x.v8), (9, .int .i64 (x.ex.length : Int))]) (fun _ => I) (fun x : D0 => (c, row 81 [.int .i64 0, .int .i64 0, .int .i64 0, .int .i64 0, .int .i64 0]) :: (x.L7 ++ (x.L8 ++ (x.ex.flatMap (fX c) ++ (x.ey.flatMap fY ++ F))))) (fun x => x.ok first) (fun x => first.length - x.ex.length) ⟨.slice none 0 0, [], .slice none 0 0, [], [], []⟩ ⟨by simp, rfl, rfl, rfl, .none0, .none0⟩ ⟨rfl, rfl, rfl, rfl, rfl, rfl, rfl, trivial⟩ rfl (by simp only [List.flatMap_nil, List.nil_append]; exact .done .done) ?_
  intro x hx
  try dsimp only
  try simp only [List.cons_append, List.nil_append, List.append_assoc]
  refine WP.seq ?_
  refine WP.seq ?_
  refine WP.region [0, 1, 2, 3] rfl ?_
  refine WP.val rfl rfl rfl rfl (Yld.move rfl rfl) ?_
  refine WP.val rfl rfl rfl rfl (Yld.move rfl rfl) ?_
  refine WP.val rfl rfl rfl rfl (Yld.len rfl ty_sl_22 rfl) ?_
  refine WP.split rfl rfl rfl rfl (Yld.lss rfl rfl rfl) (fun hc => ?_) (fun hc => ?_)
  · have hi : x.ex.length < first.length := by omega
    obtain ⟨b, kk, arr, T, fr, rfl, hb, hel⟩ := hfirst.resolve_left (by rintro rfl; simp at hi)
    obtain ⟨hl1, hR, _⟩ := hel x.ex.length _ (List.getElem?_eq_getElem hi)
    have e0 := take_cells hR 0 _ rfl (by decide)
    rw [Array.getElem?_toList] at e0
    refine WP.nil ?_
    refine WP.sub [(0, _), (1, _), (4, _), (6, _), (7, _), (8, _), (9, _), (32, _)] ?_ ⟨rfl, rfl, rfl, rfl, rfl, rfl, rfl, rfl, trivial⟩
    refine WP.next ?_
    refine WP.condT rfl ?_
    refine WP.skip ?_
    refine WP.next ?_
    refine WP.seq ?_
    refine WP.block ?_
    refine WP.seq ?_
    refine WP.region [0, 1, 2, 3, 4, 5, 6] rfl ?_
    refine WP.val rfl rfl rfl rfl (Yld.move rfl rfl) ?_
    refine WP.val rfl rfl rfl rfl (Yld.move rfl rfl) ?_
    refine WP.val rfl rfl rfl rfl (Yld.move rfl rfl) ?_
    refine WP.val rfl rfl rfl rfl (Yld.indexAddr rfl ty_sl_22 rfl rfl (by omega)) ?_
    refine WP.val rfl rfl rfl rfl (Yld.loadC rfl ty_sc_3 rfl (There.i hb) e0) ?_
    refine WP.loud rfl rfl ?_
    refine Op.call (cell_NewInt (o := default)) rfl Try.func13 rfl rfl rfl rfl (by repeat (first | exact Take.nil | apply Take.cons | apply Take.app | exact Rm.chunk | exact Rm.here | apply Rm.skip | apply Rm.skipS | apply Take.all)) ?_
    rintro v J L1 hJ ⟨xb, rfl, rfl, rfl⟩
    clear hJ; try simp only [List.cons_append, List.nil_append, List.append_assoc]
    refine WP.val rfl rfl rfl rfl (Yld.assign rfl rfl) ?_
    refine WP.nil ?_
    refine WP.sub [(0, _), (1, _), (4, _), (6, _), (7, _), (8, _), (9, _), (10, _), (32, _)] ?_ ⟨rfl, rfl, rfl, rfl, rfl, rfl, rfl, rfl, rfl, trivial⟩
    refine WP.next ?_
    refine WP.seq ?_
    refine WP.region [0, 1, 2, 3, 4, 5] rfl ?_
    refine WP.val rfl rfl rfl rfl (Yld.move rfl rfl) ?_
    refine WP.val rfl rfl rfl rfl (Yld.move rfl rfl) ?_
    refine WP.val rfl rfl rfl rfl (Yld.indexAddr rfl ty_sl_22 rfl rfl (by omega)) ?_
    refine WP.val rfl rfl rfl rfl (Yld.loadC rfl ty_sc_3 rfl (There.i hb) e0) ?_
    refine WP.loud rfl rfl ?_
    refine Op.call cell_NewInt_nil rfl Try.func13 rfl rfl rfl rfl (by repeat (first | exact Take.nil | apply Take.cons | apply Take.app | exact Rm.chunk | exact Rm.here | apply Rm.skip | apply Rm.skipS | apply Take.all)) ?_
    rintro v J L1 hJ ⟨yb, cb, rfl, rfl, rfl⟩
    clear hJ; try simp only [List.cons_append, List.nil_append, List.append_assoc]
    refine WP.val rfl rfl rfl rfl (Yld.assign rfl rfl) ?_
    refine WP.nil ?_
    refine WP.sub [(0, _), (1, _), (4, _), (6, _), (7, _), (8, _), (9, _), (10, _), (11, _), (32, _)] ?_ ⟨rfl, rfl, rfl, rfl, rfl, rfl, rfl, rfl, rfl, rfl, trivial⟩
    refine WP.next ?_
    refine WP.seq ?_
    refine WP.seq ?_
    refine WP.region [0, 1, 2, 3, 4, 5] rfl ?_
    refine WP.val rfl rfl rfl rfl (Yld.move rfl rfl) ?_
    refine WP.val rfl rfl rfl rfl (Yld.eqlNil rfl ty_pt_26 rfl rfl) ?_
    refine WP.val rfl rfl rfl rfl (Yld.move rfl rfl) ?_
    refine WP.valG rfl rfl rfl rfl rfl rfl rfl (Yld.move rfl rfl) ?_
    refine WP.valG rfl rfl rfl rfl rfl rfl rfl (Yld.eqlNil rfl ty_pt_26 rfl rfl) ?_
    refine WP.val rfl rfl rfl rfl (Yld.pickF rfl rfl rfl) ?_
    refine WP.nil ?_
    refine WP.sub [(0, _), (1, _), (4, _), (6, _), (7, _), (8, _), (9, _), (10, _), (11, _), (32, _), (51, _)] ?_ ⟨rfl, rfl, rfl, rfl, rfl, rfl, rfl, rfl, rfl, rfl, rfl, trivial⟩
    refine WP.next ?_
    refine WP.condF rfl ?_
    refine WP.skip ?_
    refine WP.next ?_
    refine WP.seq ?_
    refine WP.region [0, 1, 2, 3, 4] rfl ?_
    refine WP.val rfl rfl rfl rfl (Yld.move rfl rfl) ?_
    refine WP.val rfl rfl rfl rfl (Yld.move rfl rfl) ?_
    refine WP.loud rfl rfl ?_
    refine Op.buildSlice rfl ty_sl_35 ty_el2_35 rfl rfl rfl rfl (vs := [_]) rfl (segs := [(0, [_])]) (cs := [_]) rfl rfl (by repeat (first | exact SetSeg.nil | apply SetSeg.one | exact SetAt.zero | apply SetAt.succ)) (fun bs7 => ?_)
    refine WP.loud rfl rfl ?_
    refine Op.append rfl ty_sl_35 ty_el_35 rfl rfl rfl rfl rfl hx.o7 (SlRd.lit (by repeat (first | exact There.h | exact There.i (by assumption) | apply There.t | apply There.s)) rfl (by omega)) (by repeat (first | exact Take.nil | apply Take.cons | apply Take.app | exact Rm.chunk | exact Rm.here | apply Rm.skip | apply Rm.skipS | apply Take.all)) rfl (by omega) (by omega) (fun v7' L7' h7 => ?_)
    try simp only [List.cons_append, List.nil_append, List.append_assoc]
    refine WP.val rfl rfl rfl rfl (Yld.assign rfl rfl) ?_
    refine WP.nil ?_
    refine WP.sub [(0, _), (1, _), (4, _), (6, _), (7, _), (8, _), (9, _), (10, _), (11, _), (32, _), (51, _)] ?_ ⟨rfl, rfl, rfl, rfl, rfl, rfl, rfl, rfl, rfl, rfl, rfl, trivial⟩
    refine WP.next ?_
    refine WP.region [0, 1, 2, 3, 4] rfl ?_
    refine WP.val rfl rfl rfl rfl (Yld.move rfl rfl) ?_
    refine WP.val rfl rfl rfl rfl (Yld.move rfl rfl) ?_
    refine WP.loud rfl rfl ?_
    refine Op.buildSlice rfl ty_sl_35 ty_el2_35 rfl rfl rfl rfl (vs := [_]) rfl (segs := [(0, [_])]) (cs := [_]) rfl rfl (by repeat (first | exact SetSeg.nil | apply SetSeg.one | exact SetAt.zero | apply SetAt.succ)) (fun bs8 => ?_)
    refine WP.loud rfl rfl ?_
    refine Op.append rfl ty_sl_35 ty_el_35 rfl rfl rfl rfl rfl hx.o8 (SlRd.lit (by repeat (first | exact There.h | exact There.i (by assumption) | apply There.t | apply There.s)) rfl (by omega)) (by repeat (first | exact Take.nil | apply Take.cons | apply Take.app | exact Rm.chunk | exact Rm.here | apply Rm.skip | apply Rm.skipS | apply Take.all)) rfl (by omega) (by omega) (fun v8' L8' h8 => ?_)
    try simp only [List.cons_append, List.nil_append, List.append_assoc]
    refine WP.val rfl rfl rfl rfl (Yld.assign rfl rfl) ?_
    refine WP.nil ?_
    refine WP.sub [(0, _), (1, _), (4, _), (6, _), (7, _), (8, _), (9, _), (10, _), (11, _), (32, _), (51, _)] ?_ ⟨rfl, rfl, rfl, rfl, rfl, rfl, rfl, rfl, rfl, rfl, rfl, trivial⟩
    refine WP.leave ?_
    refine WP.next ?_
    refine WP.region [0, 1, 2] rfl ?_
    refine WP.val rfl rfl rfl rfl (Yld.move rfl rfl) ?_
    refine WP.val rfl rfl rfl rfl (Yld.add64 rfl rfl rfl (by omega)) ?_
    refine WP.val rfl rfl rfl rfl (Yld.assign rfl rfl) ?_
    refine WP.nil ?_
    refine WP.sub [(0, _), (1, _), (4, _), (6, _), (7, _), (8, _), (9, _), (10, _), (11, _), (32, _), (51, _)] ?_ ⟨rfl, rfl, rfl, rfl, rfl, rfl, rfl, rfl, rfl, rfl, rfl, trivial⟩
    refine WP.pushL (f := fX c) (l := x.ex) ⟨xb, first[x.ex.length]⟩ (by repeat (first | exact Take.nil | apply Take.cons | apply Take.app | exact Rm.chunk | exact Rm.here | apply Rm.skip | apply Rm.skipS | apply Take.all)) (by repeat (first | exact Rm.chunk | exact Rm.here | apply Rm.skip | apply Rm.skipS)) ?_
    refine WP.pushL (f := fY) (l := x.ey) ⟨yb, cb, ⟨first[x.ex.length], 0, 0, 0, 0, 0⟩⟩ (by repeat (first | exact Take.nil | apply Take.cons | apply Take.app | exact Rm.chunk | exact Rm.here | apply Rm.skip | apply Rm.skipS | apply Take.all)) (by repeat (first | exact Rm.chunk | exact Rm.here | apply Rm.skip | apply Rm.skipS)) ?_
    exact WP.again ⟨v7', L7', v8', L8', x.ex ++ [⟨xb, first[x.ex.length]⟩], x.ey ++ [⟨yb, cb, ⟨first[x.ex.length], 0, 0, 0, 0, 0⟩⟩]⟩ (D0.next hx hi h7 h8) (by simp only [List.length_append, List.length_cons, List.length_nil]; omega) ⟨rfl, rfl, rfl, rfl, rfl, rfl, (congrArg (fun z => some (Value.int .i64 z)) (by simp)), trivial⟩ rfl (by (try dsimp only); repeat (first | exact Rm.chunk | exact Rm.here | apply Rm.skip | apply Rm.skipS | apply PX.cons | (apply PX.done; (repeat (first | exact Leave.done | apply Leave.drop | apply Leave.dropS)); done) | apply PX.app))
  · have hex : x.ex.length = first.length := by have := hx.le; omega
    obtain ⟨v7, L7, v8, L8, ex0, ey0⟩ := x
    obtain ⟨_, hly, hvx, hvy, o7, o8⟩ := hx
    simp only at hex hly hvx hvy o7 o8 ⊢
    rw [hex, List.take_length] at hvx hvy
    obtain ⟨A7, c7, rfl, hc7⟩ := o7.slice
    obtain ⟨A8, c8, rfl, hc8⟩ := o8.slice
    refine WP.nil ?_
    refine WP.sub [(0, _), (1, _), (4, _), (6, _), (7, _), (8, _), (9, _), (32, _)] ?_ ⟨rfl, rfl, rfl, rfl, rfl, rfl, rfl, rfl, trivial⟩
    refine WP.next ?_
    refine WP.condF rfl ?_
    refine WP.exit ?_
    refine WP.thenE ?_
    refine WP.thenE ?_
    refine WP.hit ?_
    refine WP.next ?_
    refine WP.seq ?_
    refine WP.region [0, 1, 2] rfl ?_
    refine WP.val rfl rfl rfl rfl (Yld.move rfl rfl) ?_
    refine WP.loud rfl rfl ?_
    refine Op.append rfl ty_sl_22 ty_el_22 rfl rfl rfl rfl rfl .none0 hf'.rd Take.nil (by simp [List.all_eq_true, Value.oneCell']) (by omega) (by omega) (fun v12 L12 o12 => ?_)
    simp only [List.nil_append, Nat.zero_add] at o12
    refine WP.val rfl rfl rfl rfl (Yld.assign rfl rfl) ?_
    refine WP.nil ?_
    refine WP.sub [(0, _), (1, _), (4, _), (6, _), (7, _), (8, _), (9, _), (12, _), (32, _)] ?_ ⟨rfl, rfl, rfl, rfl, rfl, rfl, rfl, rfl, rfl, trivial⟩
    refine WP.next ?_
    refine WP.seq ?_
    refine WP.region [0, 1, 2] rfl ?_
    refine WP.val rfl rfl rfl rfl (Yld.buildS (pl := []) rfl ty_zr_31 ty_zd_31 (by kernel_rfl) rfl (vs := []) rfl (segs := []) rfl rfl (by repeat (first | exact SetSeg.nil | apply SetSeg.one | exact SetAt.zero | apply SetAt.succ))) ?_
    refine WP.loud rfl rfl ?_
    refine Op.alloc rfl rfl rfl ty_zr_31 (fun b13 => ?_)
    refine WP.loud rfl rfl ?_
    refine Op.storeAll rfl rfl ty_sz_31 rfl rfl rfl rfl (by repeat (first | exact Upd.head | apply Upd.tail | apply Upd.tailS)) rfl ?_
    refine WP.nil ?_
    refine WP.sub [(0, _), (1, _), (4, _), (6, _), (7, _), (8, _), (9, _), (12, _), (13, _), (32, _)] ?_ ⟨rfl, rfl, rfl, rfl, rfl, rfl, rfl, rfl, rfl, rfl, trivial⟩
    refine WP.next ?_
    refine WP.seq ?_
    refine WP.seq ?_
    refine WP.region [0] rfl ?_
    refine WP.val rfl rfl rfl rfl (Yld.assign rfl rfl) ?_
    refine WP.nil ?_
    refine WP.next ?_
    refine WP.block ?_
    refine WP.loop (X := D2) (fun x : D2 => [(0, .slice A first.length cap), (1, .slice A2 ops.length cap2), (4, .bool false), (6, .pointer (some ⟨c, 0, none⟩)), (7, .slice A7 ex0.length c7), (8, .slice A8 ex0.length c8), (12, x.v12), (13, .pointer (some ⟨b13, 0, none⟩)), (14, .int .i64 (x.i : Int))]) (fun _ => I) (fun x : D2 => (c, row 81 [.int .i64 x.t.l, .int .i64 x.t.s, .int .i64 x.t.sw, .int .i64 x.t.m, .int .i64 x.t.a]) :: (b13, row 31 [.int .i64 x.t.l, .int .i64 x.t.s, .int .i64 x.t.sw, .int .i64 x.t.m, .int .i64 x.t.a]) :: (L7 ++ (L8 ++ (x.L12 ++ (x.ex.flatMap (fX c) ++ (x.ey.flatMap fY ++ F)))))) (fun x => x.ok ops.length (ex0.map xp) (ey0.map yp)) (fun x => ops.length - x.i) ⟨0, v12, L12, ⟨0, 0, 0, 0, 0, 0⟩, ex0, ey0⟩ ⟨by simp, rfl, rfl, hly, by rw [hvx, hvy], by simp only [hvx, hex]; exact o12⟩ ⟨rfl, rfl, rfl, rfl, rfl, rfl, rfl, rfl, rfl, trivial⟩ rfl (by (try dsimp only); repeat (first | exact Rm.chunk | exact Rm.here | apply Rm.skip | apply Rm.skipS | apply PX.cons | (apply PX.done; (repeat (first | exact Leave.done | apply Leave.drop | apply Leave.dropS)); done) | apply PX.app)) ?_
    intro x hx
    try dsimp only
    try simp only [List.cons_append, List.nil_append, List.append_assoc]
    refine WP.seq ?_
    refine WP.seq ?_
    refine WP.region [0, 1, 2, 3] rfl ?_
    refine WP.val rfl rfl rfl rfl (Yld.move rfl rfl) ?_
    refine WP.val rfl rfl rfl rfl (Yld.move rfl rfl) ?_
    refine WP.val rfl rfl rfl rfl (Yld.len rfl ty_sl_34 rfl) ?_
    refine WP.split rfl rfl rfl rfl (Yld.lss rfl rfl rfl) (fun hc => ?_) (fun hc => ?_)
    · have hi : x.i < ops.length := by omega
      obtain ⟨b, kk, arr, T, fr, rfl, hb, hel⟩ := hops.resolve_left (by rintro rfl; simp at hi)
      obtain ⟨hl4, hR⟩ := hel x.i _ (List.getElem?_eq_getElem hi)
      have e0 := take_cells hR 0 _ rfl (by decide)
      have e1 := take_cells hR 1 _ rfl (by decide)
      rw [Array.getElem?_toList] at e0 e1
      have hxl : x.ex.length = ex0.length := by have := congrArg List.length hx.px; simpa using this
      refine WP.nil ?_
      refine WP.sub [(0, _), (1, _), (4, _), (6, _), (7, _), (8, _), (12, _), (13, _), (14, _), (66, _)] ?_ ⟨rfl, rfl, rfl, rfl, rfl, rfl, rfl, rfl, rfl, rfl, trivial⟩
      refine WP.next ?_
      refine WP.condT rfl ?_
      refine WP.skip ?_
      refine WP.next ?_
      refine WP.seq ?_
      refine WP.block ?_
      refine WP.seq ?_
      refine WP.seq ?_
      refine WP.region [0, 1, 2, 3, 4, 5, 6, 7, 8, 9, 10, 11, 12, 13, 14, 15, 16, 17, 18, 19, 20, 21, 22, 23, 24, 25, 26, 27, 28, 29, 30, 31] rfl ?_
      refine WP.val rfl rfl rfl rfl (Yld.move rfl rfl) ?_
      refine WP.val rfl rfl rfl rfl (Yld.move rfl rfl) ?_
      refine WP.val rfl rfl rfl rfl (Yld.indexAddr rfl ty_sl_34 rfl rfl (by omega)) ?_
      refine WP.val rfl rfl rfl rfl (Yld.fieldAddr rfl ty_fd_37_1 rfl) ?_
      refine WP.val rfl rfl rfl rfl (Yld.loadC rfl ty_sc_3 rfl (There.i hb) e1) ?_
      refine WP.split rfl rfl rfl rfl (Yld.lss rfl rfl rfl) (fun hce0' => ?_) (fun hce0' => ?_)
      · refine WP.val rfl rfl rfl rfl (Yld.move rfl rfl) ?_
        refine WP.passG rfl rfl rfl rfl rfl rfl rfl rfl ?_
        refine WP.passG rfl rfl rfl rfl rfl rfl rfl rfl ?_
        refine WP.passG rfl rfl rfl rfl rfl rfl rfl rfl ?_
        refine WP.passG rfl rfl rfl rfl rfl rfl rfl rfl ?_
        refine WP.passG rfl rfl rfl rfl rfl rfl rfl rfl ?_
        refine WP.passG rfl rfl rfl rfl rfl rfl rfl rfl ?_
        refine WP.passG rfl rfl rfl rfl rfl rfl rfl rfl ?_
        refine WP.passG rfl rfl rfl rfl rfl rfl rfl rfl ?_
        refine WP.val rfl rfl rfl rfl (Yld.pickT rfl rfl rfl) ?_
        refine WP.val rfl rfl rfl rfl (Yld.move rfl rfl) ?_
        refine WP.passG rfl rfl rfl rfl rfl rfl rfl rfl ?_
        refine WP.passG rfl rfl rfl rfl rfl rfl rfl rfl ?_
        refine WP.passG rfl rfl rfl rfl rfl rfl rfl rfl ?_
        refine WP.passG rfl rfl rfl rfl rfl rfl rfl rfl ?_
        refine WP.passG rfl rfl rfl rfl rfl rfl rfl rfl ?_
        refine WP.passG rfl rfl rfl rfl rfl rfl rfl rfl ?_
        refine WP.val rfl rfl rfl rfl (Yld.pickT rfl rfl rfl) ?_
        refine WP.val rfl rfl rfl rfl (Yld.move rfl rfl) ?_
        refine WP.passG rfl rfl rfl rfl rfl rfl rfl rfl ?_
        refine WP.passG rfl rfl rfl rfl rfl rfl rfl rfl ?_
        refine WP.passG rfl rfl rfl rfl rfl rfl rfl rfl ?_
        refine WP.passG rfl rfl rfl rfl rfl rfl rfl rfl ?_
        refine WP.passG rfl rfl rfl rfl rfl rfl rfl rfl ?_
        refine WP.passG rfl rfl rfl rfl rfl rfl rfl rfl ?_
        refine WP.val rfl rfl rfl rfl (Yld.pickT rfl rfl rfl) ?_
        refine WP.nil ?_
        refine WP.sub [(0, _), (1, _), (4, _), (6, _), (7, _), (8, _), (12, _), (13, _), (14, _), (66, _), (100, _)] ?_ ⟨rfl, rfl, rfl, rfl, rfl, rfl, rfl, rfl, rfl, rfl, rfl, trivial⟩
        refine WP.next ?_
        refine WP.condT rfl ?_
        refine WP.exit ?_
        refine WP.thenE ?_
        refine WP.hit ?_
        refine WP.next ?_
        refine WP.region [0, 1, 2] rfl ?_
        refine WP.val rfl rfl rfl rfl (Yld.move rfl rfl) ?_
        refine WP.val rfl rfl rfl rfl (Yld.add64 rfl rfl rfl (by omega)) ?_
        refine WP.val rfl rfl rfl rfl (Yld.assign rfl rfl) ?_
        refine WP.nil ?_
        refine WP.sub [(0, _), (1, _), (4, _), (6, _), (7, _), (8, _), (12, _), (13, _), (14, _), (66, _), (100, _)] ?_ ⟨rfl, rfl, rfl, rfl, rfl, rfl, rfl, rfl, rfl, rfl, rfl, trivial⟩
        exact WP.again { x with i := x.i + 1 } ⟨by simp only; omega, hx.px, hx.py, hx.ly, hx.vy, hx.o12⟩ (by simp only; omega) ⟨rfl, rfl, rfl, rfl, rfl, rfl, rfl, rfl, rfl, trivial⟩ rfl (by (try dsimp only); repeat (first | exact Rm.chunk | exact Rm.here | apply Rm.skip | apply Rm.skipS | apply PX.cons | (apply PX.done; (repeat (first | exact Leave.done | apply Leave.drop | apply Leave.dropS)); done) | apply PX.app))
      · refine WP.val rfl rfl rfl rfl (Yld.move rfl rfl) ?_
        refine WP.valG rfl rfl rfl rfl rfl rfl rfl (Yld.move rfl rfl) ?_
        refine WP.valG rfl rfl rfl rfl rfl rfl rfl (Yld.move rfl rfl) ?_
        refine WP.valG rfl rfl rfl rfl rfl rfl rfl (Yld.indexAddr rfl ty_sl_34 rfl rfl (by omega)) ?_
        refine WP.valG rfl rfl rfl rfl rfl rfl rfl (Yld.fieldAddr rfl ty_fd_37_1 rfl) ?_
        refine WP.valG rfl rfl rfl rfl rfl rfl rfl (Yld.loadC rfl ty_sc_3 rfl (There.i hb) e1) ?_
        refine WP.valG rfl rfl rfl rfl rfl rfl rfl (Yld.move rfl rfl) ?_
        refine WP.valG rfl rfl rfl rfl rfl rfl rfl (Yld.len rfl ty_sl_35 rfl) ?_
        refine WP.splitG rfl rfl rfl rfl rfl rfl rfl (Yld.geq rfl rfl rfl) (fun hce1' => ?_) (fun hce1' => ?_)
        · refine WP.val rfl rfl rfl rfl (Yld.pickF rfl rfl rfl) ?_
          refine WP.val rfl rfl rfl rfl (Yld.move rfl rfl) ?_
          refine WP.passG rfl rfl rfl rfl rfl rfl rfl rfl ?_
          refine WP.passG rfl rfl rfl rfl rfl rfl rfl rfl ?_
          refine WP.passG rfl rfl rfl rfl rfl rfl rfl rfl ?_
          refine WP.passG rfl rfl rfl rfl rfl rfl rfl rfl ?_
          refine WP.passG rfl rfl rfl rfl rfl rfl rfl rfl ?_
          refine WP.passG rfl rfl rfl rfl rfl rfl rfl rfl ?_
          refine WP.val rfl rfl rfl rfl (Yld.pickT rfl rfl rfl) ?_
          refine WP.val rfl rfl rfl rfl (Yld.move rfl rfl) ?_
          refine WP.passG rfl rfl rfl rfl rfl rfl rfl rfl ?_
          refine WP.passG rfl rfl rfl rfl rfl rfl rfl rfl ?_
          refine WP.passG rfl rfl rfl rfl rfl rfl rfl rfl ?_
          refine WP.passG rfl rfl rfl rfl rfl rfl rfl rfl ?_
          refine WP.passG rfl rfl rfl rfl rfl rfl rfl rfl ?_
          refine WP.passG rfl rfl rfl rfl rfl rfl rfl rfl ?_
          refine WP.val rfl rfl rfl rfl (Yld.pickT rfl rfl rfl) ?_
          refine WP.nil ?_
          refine WP.sub [(0, _), (1, _), (4, _), (6, _), (7, _), (8, _), (12, _), (13, _), (14, _), (66, _), (100, _)] ?_ ⟨rfl, rfl, rfl, rfl, rfl, rfl, rfl, rfl, rfl, rfl, rfl, trivial⟩
          refine WP.next ?_
          refine WP.condT rfl ?_
          refine WP.exit ?_
          refine WP.thenE ?_
          refine WP.hit ?_
          refine WP.next ?_
          refine WP.region [0, 1, 2] rfl ?_
          refine WP.val rfl rfl rfl rfl (Yld.move rfl rfl) ?_
          refine WP.val rfl rfl rfl rfl (Yld.add64 rfl rfl rfl (by omega)) ?_
          refine WP.val rfl rfl rfl rfl (Yld.assign rfl rfl) ?_
          refine WP.nil ?_
          refine WP.sub [(0, _), (1, _), (4, _), (6, _), (7, _), (8, _), (12, _), (13, _), (14, _), (66, _), (100, _)] ?_ ⟨rfl, rfl, rfl, rfl, rfl, rfl, rfl, rfl, rfl, rfl, rfl, trivial⟩
          exact WP.again { x with i := x.i + 1 } ⟨by simp only; omega, hx.px, hx.py, hx.ly, hx.vy, hx.o12⟩ (by simp only; omega) ⟨rfl, rfl, rfl, rfl, rfl, rfl, rfl, rfl, rfl, trivial⟩ rfl (by (try dsimp only); repeat (first | exact Rm.chunk | exact Rm.here | apply Rm.skip | apply Rm.skipS | apply PX.cons | (apply PX.done; (repeat (first | exact Leave.done | apply Leave.drop | apply Leave.dropS)); done) | apply PX.app))
        · refine WP.val rfl rfl rfl rfl (Yld.pickF rfl rfl rfl) ?_
          refine WP.val rfl rfl rfl rfl (Yld.move rfl rfl) ?_
          refine WP.valG rfl rfl rfl rfl rfl rfl rfl (Yld.move rfl rfl) ?_
          refine WP.valG rfl rfl rfl rfl rfl rfl rfl (Yld.move rfl rfl) ?_
          refine WP.valG rfl rfl rfl rfl rfl rfl rfl (Yld.indexAddr rfl ty_sl_34 rfl rfl (by omega)) ?_
          refine WP.valG rfl rfl rfl rfl rfl rfl rfl (Yld.fieldAddr rfl ty_fd_37_0 rfl) ?_
          refine WP.valG rfl rfl rfl rfl rfl rfl rfl (Yld.loadC rfl ty_sc_3 rfl (There.i hb) e0) ?_
          refine WP.splitG rfl rfl rfl rfl rfl rfl rfl (Yld.lss rfl rfl rfl) (fun hk0 => ?_) (fun hk0 => ?_)
          · refine WP.val rfl rfl rfl rfl (Yld.pickF rfl rfl rfl) ?_
            refine WP.val rfl rfl rfl rfl (Yld.move rfl rfl) ?_
            refine WP.passG rfl rfl rfl rfl rfl rfl rfl rfl ?_
            refine WP.passG rfl rfl rfl rfl rfl rfl rfl rfl ?_
            refine WP.passG rfl rfl rfl rfl rfl rfl rfl rfl ?_
            refine WP.passG rfl rfl rfl rfl rfl rfl rfl rfl ?_
            refine WP.passG rfl rfl rfl rfl rfl rfl rfl rfl ?_
            refine WP.passG rfl rfl rfl rfl rfl rfl rfl rfl ?_
            refine WP.val rfl rfl rfl rfl (Yld.pickT rfl rfl rfl) ?_
            refine WP.nil ?_
            refine WP.sub [(0, _), (1, _), (4, _), (6, _), (7, _), (8, _), (12, _), (13, _), (14, _), (66, _), (100, _)] ?_ ⟨rfl, rfl, rfl, rfl, rfl, rfl, rfl, rfl, rfl, rfl, rfl, trivial⟩
            refine WP.next ?_
            refine WP.condT rfl ?_
            refine WP.exit ?_
            refine WP.thenE ?_
            refine WP.hit ?_
            refine WP.next ?_
            refine WP.region [0, 1, 2] rfl ?_
            refine WP.val rfl rfl rfl rfl (Yld.move rfl rfl) ?_
            refine WP.val rfl rfl rfl rfl (Yld.add64 rfl rfl rfl (by omega)) ?_
            refine WP.val rfl rfl rfl rfl (Yld.assign rfl rfl) ?_
            refine WP.nil ?_
            refine WP.sub [(0, _), (1, _), (4, _), (6, _), (7, _), (8, _), (12, _), (13, _), (14, _), (66, _), (100, _)] ?_ ⟨rfl, rfl, rfl, rfl, rfl, rfl, rfl, rfl, rfl, rfl, rfl, trivial⟩
            exact WP.again { x with i := x.i + 1 } ⟨by simp only; omega, hx.px, hx.py, hx.ly, hx.vy, hx.o12⟩ (by simp only; omega) ⟨rfl, rfl, rfl, rfl, rfl, rfl, rfl, rfl, rfl, trivial⟩ rfl (by (try dsimp only); repeat (first | exact Rm.chunk | exact Rm.here | apply Rm.skip | apply Rm.skipS | apply PX.cons | (apply PX.done; (repeat (first | exact Leave.done | apply Leave.drop | apply Leave.dropS)); done) | apply PX.app))
          · refine WP.val rfl rfl rfl rfl (Yld.pickF rfl rfl rfl) ?_
            refine WP.val rfl rfl rfl rfl (Yld.move rfl rfl) ?_
            refine WP.valG rfl rfl rfl rfl rfl rfl rfl (Yld.move rfl rfl) ?_
            refine WP.valG rfl rfl rfl rfl rfl rfl rfl (Yld.move rfl rfl) ?_
            refine WP.valG rfl rfl rfl rfl rfl rfl rfl (Yld.indexAddr rfl ty_sl_34 rfl rfl (by omega)) ?_
            refine WP.valG rfl rfl rfl rfl rfl rfl rfl (Yld.fieldAddr rfl ty_fd_37_0 rfl) ?_
            refine WP.valG rfl rfl rfl rfl rfl rfl rfl (Yld.loadC rfl ty_sc_3 rfl (There.i hb) e0) ?_
            refine WP.splitG rfl rfl rfl rfl rfl rfl rfl (Yld.gtr rfl rfl rfl) (fun hk3 => ?_) (fun hk3 => ?_)
            · refine WP.val rfl rfl rfl rfl (Yld.pickF rfl rfl rfl) ?_
              refine WP.nil ?_
              refine WP.sub [(0, _), (1, _), (4, _), (6, _), (7, _), (8, _), (12, _), (13, _), (14, _), (66, _), (100, _)] ?_ ⟨rfl, rfl, rfl, rfl, rfl, rfl, rfl, rfl, rfl, rfl, rfl, trivial⟩
              refine WP.next ?_
              refine WP.condT rfl ?_
              refine WP.exit ?_
              refine WP.thenE ?_
              refine WP.hit ?_
              refine WP.next ?_
              refine WP.region [0, 1, 2] rfl ?_
              refine WP.val rfl rfl rfl rfl (Yld.move rfl rfl) ?_
              refine WP.val rfl rfl rfl rfl (Yld.add64 rfl rfl rfl (by omega)) ?_
              refine WP.val rfl rfl rfl rfl (Yld.assign rfl rfl) ?_
              refine WP.nil ?_
              refine WP.sub [(0, _), (1, _), (4, _), (6, _), (7, _), (8, _), (12, _), (13, _), (14, _), (66, _), (100, _)] ?_ ⟨rfl, rfl, rfl, rfl, rfl, rfl, rfl, rfl, rfl, rfl, rfl, trivial⟩
              exact WP.again { x with i := x.i + 1 } ⟨by simp only; omega, hx.px, hx.py, hx.ly, hx.vy, hx.o12⟩ (by simp only; omega) ⟨rfl, rfl, rfl, rfl, rfl, rfl, rfl, rfl, rfl, trivial⟩ rfl (by (try dsimp only); repeat (first | exact Rm.chunk | exact Rm.here | apply Rm.skip | apply Rm.skipS | apply PX.cons | (apply PX.done; (repeat (first | exact Leave.done | apply Leave.drop | apply Leave.dropS)); done) | apply PX.app))
            · have hce0 : 0 ≤ (ops[x.i]'hi).cell := by omega
              have hce : (ops[x.i]'hi).cell.toNat < x.ex.length := by omega
              obtain ⟨b7, cp7, sp7, hv7, rfl, hq7, hr7⟩ := o7.get (by omega)
              injection hv7 with hA7 _ hc7'
              subst hA7 hc7'
              obtain ⟨b8, cp8, sp8, hv8, rfl, hq8, hr8⟩ := o8.get (by omega)
              injection hv8 with hA8 _ hc8'
              subst hA8 hc8'
              have hp7 := D2.getx hx hce sp7
              have hp8 := D2.gety hx (by rw [hx.ly]; exact hce) sp8
              have hcey : (ops[x.i]'hi).cell.toNat < x.ey.length := by rw [hx.ly]; exact hce
              have hans := (actSt_v (ops[x.i]'hi).kind (ops[x.i]'hi).a (ops[x.i]'hi).b (x.ey[(ops[x.i]'hi).cell.toNat]'(by rw [hx.ly]; exact hce)).s ⟨(x.ex[(ops[x.i]'hi).cell.toNat]'hce).v, x.t.l, x.t.s, x.t.sw, x.t.m, x.t.a⟩ (D2.vy' hx _ hce)).2
              refine WP.val rfl rfl rfl rfl (Yld.pickF rfl rfl rfl) ?_
              refine WP.nil ?_
              refine WP.sub [(0, _), (1, _), (4, _), (6, _), (7, _), (8, _), (12, _), (13, _), (14, _), (66, _), (100, _)] ?_ ⟨rfl, rfl, rfl, rfl, rfl, rfl, rfl, rfl, rfl, rfl, rfl, trivial⟩
              refine WP.next ?_
              refine WP.condF rfl ?_
              refine WP.skip ?_
              refine WP.next ?_
              refine WP.cut (X := (Value × Chunks × Nat)) (fun t : Value × Chunks × Nat => [(0, .slice A first.length cap), (1, .slice (some ⟨b, kk, none⟩) ops.length cap2), (4, .bool false), (6, .pointer (some ⟨c, 0, none⟩)), (7, .slice (some ⟨b7, 0, none⟩) ex0.length c7), (8, .slice (some ⟨b8, 0, none⟩) ex0.length c8), (12, x.v12), (13, .pointer (some ⟨b13, 0, none⟩)), (14, .int .i64 (x.i : Int)), (15, t.1), (16, .pointer (some ⟨t.2.2, 0, none⟩)), (17, .int .i64 (actSt (ops[x.i]'hi).kind (ops[x.i]'hi).a (ops[x.i]'hi).b ⟨(x.ex[(ops[x.i]'hi).cell.toNat]'hce).v, x.t.l, x.t.s, x.t.sw, x.t.m, x.t.a⟩).2)]) (fun _ => I) (fun t : Value × Chunks × Nat => (c, row 81 [.int .i64 x.t.l, .int .i64 x.t.s, .int .i64 x.t.sw, .int .i64 x.t.m, .int .i64 x.t.a]) :: (b13, row 31 [.int .i64 x.t.l, .int .i64 x.t.s, .int .i64 x.t.sw, .int .i64 x.t.m, .int .i64 x.t.a]) :: (t.2.2, row 31 [.int .i64 (actSt (ops[x.i]'hi).kind (ops[x.i]'hi).a (ops[x.i]'hi).b ⟨(x.ex[(ops[x.i]'hi).cell.toNat]'hce).v, x.t.l, x.t.s, x.t.sw, x.t.m, x.t.a⟩).1.l, .int .i64 (actSt (ops[x.i]'hi).kind (ops[x.i]'hi).a (ops[x.i]'hi).b ⟨(x.ex[(ops[x.i]'hi).cell.toNat]'hce).v, x.t.l, x.t.s, x.t.sw, x.t.m, x.t.a⟩).1.s, .int .i64 (actSt (ops[x.i]'hi).kind (ops[x.i]'hi).a (ops[x.i]'hi).b ⟨(x.ex[(ops[x.i]'hi).cell.toNat]'hce).v, x.t.l, x.t.s, x.t.sw, x.t.m, x.t.a⟩).1.sw, .int .i64 (actSt (ops[x.i]'hi).kind (ops[x.i]'hi).a (ops[x.i]'hi).b ⟨(x.ex[(ops[x.i]'hi).cell.toNat]'hce).v, x.t.l, x.t.s, x.t.sw, x.t.m, x.t.a⟩).1.m, .int .i64 (actSt (ops[x.i]'hi).kind (ops[x.i]'hi).a (ops[x.i]'hi).b ⟨(x.ex[(ops[x.i]'hi).cell.toNat]'hce).v, x.t.l, x.t.s, x.t.sw, x.t.m, x.t.a⟩).1.a]) :: ([(b7, row 26 (List.map xp ex0 ++ sp7))] ++ ([(b8, row 26 (List.map yp ey0 ++ sp8))] ++ (x.L12 ++ (t.2.1 ++ (x.ex.flatMap (fX c) ++ (x.ey.flatMap fY ++ F))))))) (fun t => Own 3 1 t.1 (((x.ex.map (·.v)).set (ops[x.i]'hi).cell.toNat (actSt (ops[x.i]'hi).kind (ops[x.i]'hi).a (ops[x.i]'hi).b ⟨(x.ex[(ops[x.i]'hi).cell.toNat]'hce).v, x.t.l, x.t.s, x.t.sw, x.t.m, x.t.a⟩).1.v).map (Value.int .i64)) x.ex.length t.2.1) ?_ ?_
              · skip
                refine WD.start Trymixed 13 (There I [(b13, row 31 [.int .i64 x.t.l, .int .i64 x.t.s, .int .i64 x.t.sw, .int .i64 x.t.m, .int .i64 x.t.a])]) (fun _ _ => False) (.cons (by repeat (first | exact There.h | exact There.i (by assumption) | apply There.t | apply There.s)) .nil) (fun _ _ h => h.elim) 15 [false, false, false, false, false, false, false, false, false, false, false, false, false, false, false] rfl rfl ?_
                refine WD.val (i := 0) rfl rfl rfl rfl (by kernel_rfl) rfl (Yld.move rfl rfl) ?_
                refine WD.val1 (i := 1) rfl rfl rfl rfl (by kernel_rfl) rfl (by kernel_rfl) (Yld.loadAll rfl ty_ag_31 rfl (.inl (by repeat (first | exact There.h | exact There.i (by assumption) | apply There.t | apply There.s))) rfl) ?_
                refine WD.val (i := 2) rfl rfl rfl rfl (by kernel_rfl) rfl (Yld.move rfl rfl) ?_
                refine WD.val (i := 3) rfl rfl rfl rfl (by kernel_rfl) rfl (Yld.move rfl rfl) ?_
                refine WD.val (i := 4) rfl rfl rfl rfl (by kernel_rfl) rfl (Yld.indexAddr rfl ty_sl_34 rfl rfl (by omega)) ?_
                refine WD.val1 (i := 5) rfl rfl rfl rfl (by kernel_rfl) rfl (by kernel_rfl) (Yld.loadAggC rfl ty_ag_37 rfl (.inl (There.i hb)) hR rfl) ?_
                refine WD.both (i := 6) (j := 11) (by kernel_rfl) rfl rfl ?_ ?_
                · refine WP.oper rfl rfl ?_
                  refine Op.call (cell_Does (now := x.ex.map (·.v)) (by simpa using hx.o12) (by simp; omega) hce0 (by simp; omega) (by omega) (by omega) (nv := (x.ex[(ops[x.i]'hi).cell.toNat]'hce).v) (by simp [hce])) rfl Try.func17 rfl rfl rfl rfl (by repeat (first | exact Take.nil | apply Take.cons | apply Take.app | exact Rm.chunk | exact Rm.here | apply Rm.skip | apply Rm.skipS | apply Take.all)) ?_
                  rintro v J L1 hJ ⟨rfl, v', Lo', hown, rfl, rfl⟩
                  clear hJ; try simp only [List.cons_append, List.nil_append, List.append_assoc]
                  rw [List.length_map] at hown
                  refine WD.go (.inr (.cons (by repeat (first | exact There.h | exact There.i (by assumption) | apply There.t | apply There.s)) .nil)) (fun _ _ h => h.elim) ?_
                  refine WD.val (i := 7) rfl rfl rfl rfl (by kernel_rfl) rfl (Yld.move rfl rfl) ?_
                  refine WD.val (i := 8) rfl rfl rfl rfl (by kernel_rfl) rfl (Yld.extract rfl rfl rfl) ?_
                  refine WD.val (i := 9) rfl rfl rfl rfl (by kernel_rfl) rfl (Yld.extract rfl rfl rfl) ?_
                  refine WD.val (i := 10) rfl rfl rfl rfl (by kernel_rfl) rfl (Yld.extract rfl rfl rfl) ?_
                  refine WD.loud (i := 11) (by kernel_rfl) rfl rfl rfl ?_
                  refine Op.alloc rfl rfl rfl ty_zr_31 (fun b16 => ?_)
                  refine WD.go (.inr (.cons (by repeat (first | exact There.h | exact There.i (by assumption) | apply There.t | apply There.s)) .nil)) (fun _ _ h => h.elim) ?_
                  refine WD.val (i := 12) rfl rfl rfl rfl (by kernel_rfl) rfl (Yld.assign rfl rfl) ?_
                  refine WD.loud (i := 13) (by kernel_rfl) rfl rfl rfl ?_
                  refine Op.storeAll rfl rfl ty_sz_31 rfl rfl rfl rfl (by repeat (first | exact Upd.head | apply Upd.tail | apply Upd.tailS)) rfl ?_
                  refine WD.go (.inl rfl) (fun _ _ h => h.elim) ?_
                  refine WD.val (i := 14) rfl rfl rfl rfl (by kernel_rfl) rfl (Yld.assign rfl rfl) ?_
                  refine WD.done (by kernel_rfl) ?_
                  refine WP.sub [(0, _), (1, _), (4, _), (6, _), (7, _), (8, _), (12, _), (13, _), (14, _), (15, _), (16, _), (17, _), (66, _), (100, _)] ?_ ⟨rfl, rfl, rfl, rfl, rfl, rfl, rfl, rfl, rfl, rfl, rfl, rfl, rfl, rfl, trivial⟩
                  exact WP.meet (v', Lo', b16) hown ⟨rfl, rfl, rfl, rfl, rfl, rfl, rfl, rfl, rfl, rfl, rfl, rfl, trivial⟩ rfl (by (try dsimp only); repeat (first | exact Rm.chunk | exact Rm.here | apply Rm.skip | apply Rm.skipS | apply PX.cons | (apply PX.done; (repeat (first | exact Leave.done | apply Leave.drop | apply Leave.dropS)); done) | apply PX.app))
                · refine WP.oper rfl rfl ?_
                  refine Op.alloc rfl rfl rfl ty_zr_31 (fun b16 => ?_)
                  refine WD.go (.inr (.cons (by repeat (first | exact There.h | exact There.i (by assumption) | apply There.t | apply There.s)) .nil)) (fun _ _ h => h.elim) ?_
                  refine WD.loud (i := 6) (by kernel_rfl) rfl rfl rfl ?_
                  refine Op.call (cell_Does (now := x.ex.map (·.v)) (by simpa using hx.o12) (by simp; omega) hce0 (by simp; omega) (by omega) (by omega) (nv := (x.ex[(ops[x.i]'hi).cell.toNat]'hce).v) (by simp [hce])) rfl Try.func17 rfl rfl rfl rfl (by repeat (first | exact Take.nil | apply Take.cons | apply Take.app | exact Rm.chunk | exact Rm.here | apply Rm.skip | apply Rm.skipS | apply Take.all)) ?_
                  rintro v J L1 hJ ⟨rfl, v', Lo', hown, rfl, rfl⟩
                  clear hJ; try simp only [List.cons_append, List.nil_append, List.append_assoc]
                  rw [List.length_map] at hown
                  refine WD.go (.inr (.cons (by repeat (first | exact There.h | exact There.i (by assumption) | apply There.t | apply There.s)) .nil)) (fun _ _ h => h.elim) ?_
                  refine WD.val (i := 7) rfl rfl rfl rfl (by kernel_rfl) rfl (Yld.move rfl rfl) ?_
                  refine WD.val (i := 8) rfl rfl rfl rfl (by kernel_rfl) rfl (Yld.extract rfl rfl rfl) ?_
                  refine WD.val (i := 9) rfl rfl rfl rfl (by kernel_rfl) rfl (Yld.extract rfl rfl rfl) ?_
                  refine WD.val (i := 10) rfl rfl rfl rfl (by kernel_rfl) rfl (Yld.extract rfl rfl rfl) ?_
                  refine WD.val (i := 12) rfl rfl rfl rfl (by kernel_rfl) rfl (Yld.assign rfl rfl) ?_
                  refine WD.loud (i := 13) (by kernel_rfl) rfl rfl rfl ?_
                  refine Op.storeAll rfl rfl ty_sz_31 rfl rfl rfl rfl (by repeat (first | exact Upd.head | apply Upd.tail | apply Upd.tailS)) rfl ?_
                  refine WD.go (.inl rfl) (fun _ _ h => h.elim) ?_
                  refine WD.val (i := 14) rfl rfl rfl rfl (by kernel_rfl) rfl (Yld.assign rfl rfl) ?_
                  refine WD.done (by kernel_rfl) ?_
                  refine WP.sub [(0, _), (1, _), (4, _), (6, _), (7, _), (8, _), (12, _), (13, _), (14, _), (15, _), (16, _), (17, _), (66, _), (100, _)] ?_ ⟨rfl, rfl, rfl, rfl, rfl, rfl, rfl, rfl, rfl, rfl, rfl, rfl, rfl, rfl, trivial⟩
                  exact WP.meet (v', Lo', b16) hown ⟨rfl, rfl, rfl, rfl, rfl, rfl, rfl, rfl, rfl, rfl, rfl, rfl, trivial⟩ rfl (by (try dsimp only); repeat (first | exact Rm.chunk | exact Rm.here | apply Rm.skip | apply Rm.skipS | apply PX.cons | (apply PX.done; (repeat (first | exact Leave.done | apply Leave.drop | apply Leave.dropS)); done) | apply PX.app))
              · rintro ⟨v', Lo', b16⟩ hown
                refine WP.seq ?_
                refine WP.outL (f := fX c) (l := x.ex) (ops[x.i]'hi).cell.toNat hce (by repeat (first | exact Rm.chunk | exact Rm.here | apply Rm.skip | apply Rm.skipS)) ?_
                simp only [fX, List.cons_append, List.nil_append, List.append_assoc]
                refine WQ.start Trymixed 12 (by kernel_rfl) _ rfl [12, 13] rfl ?_
                refine WQ.val rfl rfl rfl (Yld.move rfl rfl) ?_
                refine WQ.val rfl rfl rfl (Yld.move rfl rfl) ?_
                refine WQ.val rfl rfl rfl (Yld.move rfl rfl) ?_
                refine WQ.val rfl rfl rfl (Yld.indexAddr rfl ty_sl_34 rfl rfl (by omega)) ?_
                refine WQ.val rfl rfl rfl (Yld.fieldAddr rfl ty_fd_37_1 rfl) ?_
                refine WQ.val rfl rfl rfl (Yld.loadC rfl ty_sc_3 rfl (There.i hb) e1) ?_
                refine WQ.val rfl rfl rfl (Yld.indexAddrI rfl ty_sl_35 rfl rfl hce0 (by omega)) ?_
                refine WQ.val rfl rfl rfl (Yld.load rfl ty_sc_26 rfl (by repeat (first | exact There.h | exact There.i (by assumption) | apply There.t | apply There.s)) hp7) ?_
                refine WQ.val rfl rfl rfl (Yld.move rfl rfl) ?_
                refine WQ.val rfl rfl rfl (Yld.move rfl rfl) ?_
                refine WQ.val rfl rfl rfl (Yld.indexAddr rfl ty_sl_34 rfl rfl (by omega)) ?_
                refine WQ.val rfl rfl rfl (Yld.loadAggC rfl ty_ag_37 rfl (There.i hb) hR rfl) ?_
                refine WQ.nil ?_
                refine WP.loud rfl rfl ?_
                refine Op.call (cell_acts (s := ⟨(x.ex[(ops[x.i]'hi).cell.toNat]'hce).v, x.t.l, x.t.s, x.t.sw, x.t.m, x.t.a⟩)) rfl Try.func18 rfl rfl rfl rfl (by repeat (first | exact Take.nil | apply Take.cons | apply Take.app | exact Rm.chunk | exact Rm.here | apply Rm.skip | apply Rm.skipS | apply Take.all)) ?_
                rintro v J L1 hJ ⟨rfl, rfl, rfl⟩
                clear hJ; try simp only [List.cons_append, List.nil_append, List.append_assoc]
                refine WP.val rfl rfl rfl rfl (Yld.assign rfl rfl) ?_
                refine WP.nil ?_
                refine WP.sub [(0, _), (1, _), (4, _), (6, _), (7, _), (8, _), (12, _), (13, _), (14, _), (15, _), (16, _), (17, _), (18, _)] ?_ ⟨rfl, rfl, rfl, rfl, rfl, rfl, rfl, rfl, rfl, rfl, rfl, rfl, rfl, trivial⟩
                refine WP.backL (f := fX c) (l := x.ex) (ops[x.i]'hi).cell.toNat hce ⟨(x.ex[(ops[x.i]'hi).cell.toNat]'hce).b, (actSt (ops[x.i]'hi).kind (ops[x.i]'hi).a (ops[x.i]'hi).b ⟨(x.ex[(ops[x.i]'hi).cell.toNat]'hce).v, x.t.l, x.t.s, x.t.sw, x.t.m, x.t.a⟩).1.v⟩ (by repeat (first | exact Take.nil | apply Take.cons | apply Take.app | exact Rm.chunk | exact Rm.here | apply Rm.skip | apply Rm.skipS | apply Take.all)) (by repeat (first | exact Rm.chunk | exact Rm.here | apply Rm.skip | apply Rm.skipS)) ?_
                refine WP.next ?_
                refine WP.seq ?_
                refine WP.outL (f := fY) (l := x.ey) (ops[x.i]'hi).cell.toNat hcey (by repeat (first | exact Rm.chunk | exact Rm.here | apply Rm.skip | apply Rm.skipS)) ?_
                simp only [fY, List.cons_append, List.nil_append, List.append_assoc]
                refine WQ.start Trymixed 12 (by kernel_rfl) _ rfl [12, 13] rfl ?_
                refine WQ.val rfl rfl rfl (Yld.move rfl rfl) ?_
                refine WQ.val rfl rfl rfl (Yld.move rfl rfl) ?_
                refine WQ.val rfl rfl rfl (Yld.move rfl rfl) ?_
                refine WQ.val rfl rfl rfl (Yld.indexAddr rfl ty_sl_34 rfl rfl (by omega)) ?_
                refine WQ.val rfl rfl rfl (Yld.fieldAddr rfl ty_fd_37_1 rfl) ?_
                refine WQ.val rfl rfl rfl (Yld.loadC rfl ty_sc_3 rfl (There.i hb) e1) ?_
                refine WQ.val rfl rfl rfl (Yld.indexAddrI rfl ty_sl_35 rfl rfl hce0 (by omega)) ?_
                refine WQ.val rfl rfl rfl (Yld.load rfl ty_sc_26 rfl (by repeat (first | exact There.h | exact There.i (by assumption) | apply There.t | apply There.s)) hp8) ?_
                refine WQ.val rfl rfl rfl (Yld.move rfl rfl) ?_
                refine WQ.val rfl rfl rfl (Yld.move rfl rfl) ?_
                refine WQ.val rfl rfl rfl (Yld.indexAddr rfl ty_sl_34 rfl rfl (by omega)) ?_
                refine WQ.val rfl rfl rfl (Yld.loadAggC rfl ty_ag_37 rfl (There.i hb) hR rfl) ?_
                refine WQ.nil ?_
                refine WP.loud rfl rfl ?_
                refine Op.call (cell_acts (s := (x.ey[(ops[x.i]'hi).cell.toNat]'(by rw [hx.ly]; exact hce)).s)) rfl Try.func18 rfl rfl rfl rfl (by repeat (first | exact Take.nil | apply Take.cons | apply Take.app | exact Rm.chunk | exact Rm.here | apply Rm.skip | apply Rm.skipS | apply Take.all)) ?_
                rintro v J L1 hJ ⟨rfl, rfl, rfl⟩
                clear hJ; try simp only [List.cons_append, List.nil_append, List.append_assoc]
                refine WP.val rfl rfl rfl rfl (Yld.assign rfl rfl) ?_
                refine WP.nil ?_
                refine WP.sub [(0, _), (1, _), (4, _), (6, _), (7, _), (8, _), (12, _), (13, _), (14, _), (15, _), (16, _), (17, _), (18, _), (19, _)] ?_ ⟨rfl, rfl, rfl, rfl, rfl, rfl, rfl, rfl, rfl, rfl, rfl, rfl, rfl, rfl, trivial⟩
                refine WP.backL (f := fY) (l := x.ey) (ops[x.i]'hi).cell.toNat hcey ⟨(x.ey[(ops[x.i]'hi).cell.toNat]'(by rw [hx.ly]; exact hce)).b, (x.ey[(ops[x.i]'hi).cell.toNat]'(by rw [hx.ly]; exact hce)).cb, (actSt (ops[x.i]'hi).kind (ops[x.i]'hi).a (ops[x.i]'hi).b (x.ey[(ops[x.i]'hi).cell.toNat]'(by rw [hx.ly]; exact hce)).s).1⟩ (by repeat (first | exact Take.nil | apply Take.cons | apply Take.app | exact Rm.chunk | exact Rm.here | apply Rm.skip | apply Rm.skipS | apply Take.all)) (by repeat (first | exact Rm.chunk | exact Rm.here | apply Rm.skip | apply Rm.skipS)) ?_
                refine WP.next ?_
                refine WP.seq ?_
                refine WP.seq ?_
                refine WQ.startAll Trymixed (by kernel_rfl) _ rfl ?_
                refine WQ.val rfl rfl rfl (Yld.move rfl rfl) ?_
                refine WQ.val rfl rfl rfl (Yld.move rfl rfl) ?_
                refine WQ.val rfl rfl rfl (Yld.neq rfl rfl rfl false (decide_eq_false (by simp))) ?_
                refine WQ.val rfl rfl rfl (Yld.move rfl rfl) ?_
                refine WQ.valG rfl rfl rfl rfl rfl rfl (Yld.move rfl rfl) ?_
                refine WQ.valG rfl rfl rfl rfl rfl rfl (Yld.move rfl rfl) ?_
                refine WQ.valG rfl rfl rfl rfl rfl rfl (Yld.neq rfl rfl rfl false (decide_eq_false (by simp [hans]))) ?_
                refine WQ.val rfl rfl rfl (Yld.pickF rfl rfl rfl) ?_
                refine WQ.val rfl rfl rfl (Yld.move rfl rfl) ?_
                refine WQ.valG rfl rfl rfl rfl rfl rfl (Yld.move rfl rfl) ?_
                refine WQ.callG cell_Tally (by rintro v' J L1 ⟨rfl, rfl, rfl⟩; exact ⟨rfl, rfl, rfl⟩) rfl Try.func16 rfl rfl rfl rfl rfl rfl rfl rfl (by repeat (first | exact Take.nil | apply Take.cons | apply Take.app | exact Rm.chunk | exact Rm.here | apply Rm.skip | apply Rm.skipS | apply Take.all)) ?_
                refine WQ.valG rfl rfl rfl rfl rfl rfl (Yld.loadAll rfl ty_ag_31 rfl (by repeat (first | exact There.h | exact There.i (by assumption) | apply There.t | apply There.s)) rfl) ?_
                refine WQ.valG rfl rfl rfl rfl rfl rfl (Yld.neqInts (us := [_, _, _, _, _]) (vs := [_, _, _, _, _]) rfl (by kernel_rfl) rfl rfl rfl rfl false (by simp)) ?_
                refine WQ.val rfl rfl rfl (Yld.pickF rfl rfl rfl) ?_
                refine WQ.nil ?_
                refine WP.sub [(0, _), (1, _), (4, _), (6, _), (7, _), (8, _), (12, _), (13, _), (14, _), (15, _), (16, _), (17, _), (18, _), (19, _), (151, _)] ?_ ⟨rfl, rfl, rfl, rfl, rfl, rfl, rfl, rfl, rfl, rfl, rfl, rfl, rfl, rfl, rfl, trivial⟩
                refine WP.next ?_
                refine WP.condF rfl ?_
                refine WP.skip ?_
                refine WP.next ?_
                refine WP.seq ?_
                refine WP.region [0, 1] rfl ?_
                refine WP.val rfl rfl rfl rfl (Yld.move rfl rfl) ?_
                refine WP.val rfl rfl rfl rfl (Yld.assign rfl rfl) ?_
                refine WP.nil ?_
                refine WP.sub [(0, _), (1, _), (4, _), (6, _), (7, _), (8, _), (12, _), (13, _), (14, _), (15, _), (16, _), (17, _), (18, _), (19, _), (151, _)] ?_ ⟨rfl, rfl, rfl, rfl, rfl, rfl, rfl, rfl, rfl, rfl, rfl, rfl, rfl, rfl, rfl, trivial⟩
                refine WP.next ?_
                refine WP.region [0, 1] rfl ?_
                refine WP.val rfl rfl rfl rfl (Yld.loadAll rfl ty_ag_31 rfl (by repeat (first | exact There.h | exact There.i (by assumption) | apply There.t | apply There.s)) rfl) ?_
                refine WP.loud rfl rfl ?_
                refine Op.storeAll rfl rfl ty_sz_31 rfl rfl rfl rfl (by repeat (first | exact Upd.head | apply Upd.tail | apply Upd.tailS)) rfl ?_
                refine WP.nil ?_
                refine WP.sub [(0, _), (1, _), (4, _), (6, _), (7, _), (8, _), (12, _), (13, _), (14, _), (15, _), (16, _), (17, _), (18, _), (19, _), (151, _)] ?_ ⟨rfl, rfl, rfl, rfl, rfl, rfl, rfl, rfl, rfl, rfl, rfl, rfl, rfl, rfl, rfl, trivial⟩
                refine WP.leave ?_
                refine WP.next ?_
                refine WP.region [0, 1, 2] rfl ?_
                refine WP.val rfl rfl rfl rfl (Yld.move rfl rfl) ?_
                refine WP.val rfl rfl rfl rfl (Yld.add64 rfl rfl rfl (by omega)) ?_
                refine WP.val rfl rfl rfl rfl (Yld.assign rfl rfl) ?_
                refine WP.nil ?_
                refine WP.sub [(0, _), (1, _), (4, _), (6, _), (7, _), (8, _), (12, _), (13, _), (14, _), (15, _), (16, _), (17, _), (18, _), (19, _), (151, _)] ?_ ⟨rfl, rfl, rfl, rfl, rfl, rfl, rfl, rfl, rfl, rfl, rfl, rfl, rfl, rfl, rfl, trivial⟩
                exact WP.again _ (D2.next hx hi hce0 (by omega) (r := (actSt (ops[x.i]'hi).kind (ops[x.i]'hi).a (ops[x.i]'hi).b ⟨(x.ex[(ops[x.i]'hi).cell.toNat]'hce).v, x.t.l, x.t.s, x.t.sw, x.t.m, x.t.a⟩).1) (s' := (actSt (ops[x.i]'hi).kind (ops[x.i]'hi).a (ops[x.i]'hi).b (x.ey[(ops[x.i]'hi).cell.toNat]'(by rw [hx.ly]; exact hce)).s).1) (actSt_v _ _ _ _ _ (D2.vy' hx _ hce)).1 hown hce) (by simp only; omega) ⟨rfl, rfl, rfl, rfl, rfl, rfl, rfl, rfl, rfl, trivial⟩ rfl (by (try dsimp only); repeat (first | exact Rm.chunk | exact Rm.here | apply Rm.skip | apply Rm.skipS | apply PX.cons | (apply PX.done; (repeat (first | exact Leave.done | apply Leave.drop | apply Leave.dropS)); done) | apply PX.app))
    · obtain ⟨i', v12', L12', t', ex, ey⟩ := x
      obtain ⟨_, hpx, hpy, hly', hvy', o12'⟩ := hx
      simp only at hpx hpy hly' hvy' o12' ⊢
      have hxl : ex.length = ex0.length := by have := congrArg List.length hpx; simpa using this
      obtain ⟨A12, c12, rfl, hc12⟩ := o12'.slice
      refine WP.nil ?_
      refine WP.sub [(0, _), (1, _), (4, _), (6, _), (7, _), (8, _), (12, _), (13, _), (14, _), (66, _)] ?_ ⟨rfl, rfl, rfl, rfl, rfl, rfl, rfl, rfl, rfl, rfl, trivial⟩
      refine WP.next ?_
      refine WP.condF rfl ?_
      refine WP.exit ?_
      refine WP.thenE ?_
      refine WP.thenE ?_
      refine WP.hit ?_
      refine WP.next ?_
      refine WP.seq ?_
      refine WP.seq ?_
      refine WP.region [0] rfl ?_
      refine WP.val rfl rfl rfl rfl (Yld.assign rfl rfl) ?_
      refine WP.nil ?_
      refine WP.next ?_
      refine WP.block ?_
      refine WP.loop (X := D4) (fun x : D4 => [(4, .bool false), (7, .slice A7 ex0.length c7), (8, .slice A8 ex0.length c8), (12, .slice A12 ex.length c12), (20, .int .i64 (x.j : Int))]) (fun _ => I) (fun x : D4 => (c, row 81 [.int .i64 x.t.l, .int .i64 x.t.s, .int .i64 x.t.sw, .int .i64 x.t.m, .int .i64 x.t.a]) :: (L7 ++ (L8 ++ (L12' ++ (ex.flatMap (fX c) ++ (x.ey.flatMap fY ++ F)))))) (fun x => x.ok ex (ey0.map yp)) (fun x => ex.length - x.j) ⟨0, t', ey⟩ ⟨by simp, hly', hpy, hvy'⟩ ⟨rfl, rfl, rfl, rfl, rfl, trivial⟩ rfl (by (try dsimp only); repeat (first | exact Rm.chunk | exact Rm.here | apply Rm.skip | apply Rm.skipS | apply PX.cons | (apply PX.done; (repeat (first | exact Leave.done | apply Leave.drop | apply Leave.dropS)); done) | apply PX.app)) ?_
      intro x hx
      try dsimp only
      try simp only [List.cons_append, List.nil_append, List.append_assoc]
      refine WP.seq ?_
      refine WP.seq ?_
      refine WP.region [0, 1, 2, 3] rfl ?_
      refine WP.val rfl rfl rfl rfl (Yld.move rfl rfl) ?_
      refine WP.val rfl rfl rfl rfl (Yld.move rfl rfl) ?_
      refine WP.val rfl rfl rfl rfl (Yld.len rfl ty_sl_35 rfl) ?_
      refine WP.split rfl rfl rfl rfl (Yld.lss rfl rfl rfl) (fun hc => ?_) (fun hc => ?_)
      · have hjx : x.j < ex.length := by omega
        have hjy : x.j < x.ey.length := by rw [hx.ly]; exact hjx
        obtain ⟨b7, cp7, sp7, hv7, rfl, hq7, hr7⟩ := o7.get (by omega)
        injection hv7 with hA7 _ hc7'
        subst hA7 hc7'
        obtain ⟨b8, cp8, sp8, hv8, rfl, hq8, hr8⟩ := o8.get (by omega)
        injection hv8 with hA8 _ hc8'
        subst hA8 hc8'
        obtain ⟨b12, cp12, sp12, hv12, rfl, hq12, hr12⟩ := o12'.get (by omega)
        injection hv12 with hA12 _ hc12'
        subst hA12 hc12'
        have hp7 : (List.map xp ex0 ++ sp7)[0 + x.j * 1]? = some (.pointer (some ⟨(ex[x.j]).b, 0, none⟩)) := by rw [← hpx, Nat.zero_add, Nat.mul_one, List.getElem?_append_left (by simpa using hjx)]; simp [hjx, xp]
        have hp8 := D4.gety hx hjy sp8
        have hp12 : (List.map (Value.int .i64) (List.map (·.v) ex) ++ sp12)[0 + x.j * 1]? = some (.int .i64 (ex[x.j]).v) := by rw [Nat.zero_add, Nat.mul_one, List.getElem?_append_left (by simpa using hjx)]; simp [hjx]
        have hvyj := D4.vyj hx hjx hjy
        refine WP.nil ?_
        refine WP.sub [(4, _), (7, _), (8, _), (12, _), (20, _), (157, _)] ?_ ⟨rfl, rfl, rfl, rfl, rfl, rfl, trivial⟩
        refine WP.next ?_
        refine WP.condT rfl ?_
        refine WP.skip ?_
        refine WP.next ?_
        refine WP.seq ?_
        refine WP.block ?_
        refine WP.seq ?_
        refine WP.outL (f := fX c) (l := ex) x.j hjx (by repeat (first | exact Rm.chunk | exact Rm.here | apply Rm.skip | apply Rm.skipS)) ?_
        refine WP.outL (f := fY) (l := x.ey) x.j hjy (by repeat (first | exact Rm.chunk | exact Rm.here | apply Rm.skip | apply Rm.skipS)) ?_
        simp only [fX, fY, List.cons_append, List.nil_append, List.append_assoc]
        refine WD.start Trymixed 15 (fun _ _ => False) (There I [(b7, row 26 (List.map xp ex0 ++ sp7)), (b8, row 26 (List.map yp ey0 ++ sp8)), (b12, row 3 (List.map (Value.int .i64) (List.map (·.v) ex) ++ sp12))]) (fun _ _ h => h.elim) (.cons (by repeat (first | exact There.h | exact There.i (by assumption) | apply There.t | apply There.s)) (.cons (by repeat (first | exact There.h | exact There.i (by assumption) | apply There.t | apply There.s)) (.cons (by repeat (first | exact There.h | exact There.i (by assumption) | apply There.t | apply There.s)) .nil))) 22 [false, false, false, false, false, false, false, false, false, false, false, false, false, false, false, false, false, false, false, false, false, false] rfl rfl ?_
        refine WD.val (i := 0) rfl rfl rfl rfl (by kernel_rfl) rfl (Yld.move rfl rfl) ?_
        refine WD.val (i := 1) rfl rfl rfl rfl (by kernel_rfl) rfl (Yld.move rfl rfl) ?_
        refine WD.val (i := 2) rfl rfl rfl rfl (by kernel_rfl) rfl (Yld.indexAddr rfl ty_sl_35 rfl rfl (by omega)) ?_
        refine WD.val (i := 3) rfl rfl rfl rfl (by kernel_rfl) rfl (Yld.load rfl ty_sc_26 rfl (by repeat (first | exact There.h | exact There.i (by assumption) | apply There.t | apply There.s)) hp7) ?_
        refine WD.val (i := 5) rfl rfl rfl rfl (by kernel_rfl) rfl (Yld.move rfl rfl) ?_
        refine WD.val (i := 6) rfl rfl rfl rfl (by kernel_rfl) rfl (Yld.move rfl rfl) ?_
        refine WD.val (i := 7) rfl rfl rfl rfl (by kernel_rfl) rfl (Yld.indexAddr rfl ty_sl_22 rfl rfl (by omega)) ?_
        refine WD.val (i := 8) rfl rfl rfl rfl (by kernel_rfl) rfl (Yld.load rfl ty_sc_3 rfl (by repeat (first | exact There.h | exact There.i (by assumption) | apply There.t | apply There.s)) hp12) ?_
        refine WD.loud (i := 4) (by kernel_rfl) rfl rfl rfl ?_
        refine Op.call cell_Load rfl Try.func14 rfl rfl rfl rfl (by repeat (first | exact Take.nil | apply Take.cons | apply Take.app | exact Rm.chunk | exact Rm.here | apply Rm.skip | apply Rm.skipS | apply Take.all)) ?_
        rintro v J L1 hJ ⟨rfl, rfl, rfl⟩
        clear hJ; try simp only [List.cons_append, List.nil_append, List.append_assoc]
        refine WD.go (.inr (fun _ _ h => h.elim)) (.cons (by repeat (first | exact There.h | exact There.i (by assumption) | apply There.t | apply There.s)) (.cons (by repeat (first | exact There.h | exact There.i (by assumption) | apply There.t | apply There.s)) (.cons (by repeat (first | exact There.h | exact There.i (by assumption) | apply There.t | apply There.s)) .nil))) ?_
        refine WD.val (i := 9) rfl rfl rfl rfl (by kernel_rfl) rfl (Yld.neq rfl rfl rfl false (decide_eq_false (by simp))) ?_
        refine WD.val (i := 10) rfl rfl rfl rfl (by kernel_rfl) rfl (Yld.move rfl rfl) ?_
        refine WD.valG (i := 11) rfl rfl rfl rfl rfl rfl rfl (by kernel_rfl) rfl (Yld.move rfl rfl) ?_
        refine WD.valG (i := 12) rfl rfl rfl rfl rfl rfl rfl (by kernel_rfl) rfl (Yld.move rfl rfl) ?_
        refine WD.valG (i := 13) rfl rfl rfl rfl rfl rfl rfl (by kernel_rfl) rfl (Yld.indexAddr rfl ty_sl_35 rfl rfl (by omega)) ?_
        refine WD.valG (i := 14) rfl rfl rfl rfl rfl rfl rfl (by kernel_rfl) rfl (Yld.load rfl ty_sc_26 rfl (by repeat (first | exact There.h | exact There.i (by assumption) | apply There.t | apply There.s)) hp8) ?_
        refine WD.valG (i := 16) rfl rfl rfl rfl rfl rfl rfl (by kernel_rfl) rfl (Yld.move rfl rfl) ?_
        refine WD.valG (i := 17) rfl rfl rfl rfl rfl rfl rfl (by kernel_rfl) rfl (Yld.move rfl rfl) ?_
        refine WD.valG (i := 18) rfl rfl rfl rfl rfl rfl rfl (by kernel_rfl) rfl (Yld.indexAddr rfl ty_sl_22 rfl rfl (by omega)) ?_
        refine WD.valG (i := 19) rfl rfl rfl rfl rfl rfl rfl (by kernel_rfl) rfl (Yld.load rfl ty_sc_3 rfl (by repeat (first | exact There.h | exact There.i (by assumption) | apply There.t | apply There.s)) hp12) ?_
        refine WD.loudG (i := 15) (by kernel_rfl) rfl rfl rfl rfl rfl rfl ?_
        refine Op.call cell_Load rfl Try.func14 rfl rfl rfl rfl (by repeat (first | exact Take.nil | apply Take.cons | apply Take.app | exact Rm.chunk | exact Rm.here | apply Rm.skip | apply Rm.skipS | apply Take.all)) ?_
        rintro v J L1 hJ ⟨rfl, rfl, rfl⟩
        clear hJ; try simp only [List.cons_append, List.nil_append, List.append_assoc]
        refine WD.go (.inl rfl) (.cons (by repeat (first | exact There.h | exact There.i (by assumption) | apply There.t | apply There.s)) (.cons (by repeat (first | exact There.h | exact There.i (by assumption) | apply There.t | apply There.s)) (.cons (by repeat (first | exact There.h | exact There.i (by assumption) | apply There.t | apply There.s)) .nil))) ?_
        refine WD.valG (i := 20) rfl rfl rfl rfl rfl rfl rfl (by kernel_rfl) rfl (Yld.neq rfl rfl rfl false (decide_eq_false (by simp [hvyj]))) ?_
        refine WD.val (i := 21) rfl rfl rfl rfl (by kernel_rfl) rfl (Yld.pickF rfl rfl rfl) ?_
        refine WD.done (by kernel_rfl) ?_
        refine WP.sub [(4, _), (7, _), (8, _), (12, _), (20, _), (157, _), (181, _)] ?_ ⟨rfl, rfl, rfl, rfl, rfl, rfl, rfl, trivial⟩
        refine WP.backL (f := fY) (l := x.ey) x.j hjy ⟨(x.ey[x.j]'hjy).b, (x.ey[x.j]'hjy).cb, { (x.ey[x.j]'hjy).s with l := IntKind.i64.wrap ((x.ey[x.j]'hjy).s.l + 1) }⟩ (by repeat (first | exact Take.nil | apply Take.cons | apply Take.app | exact Rm.chunk | exact Rm.here | apply Rm.skip | apply Rm.skipS | apply Take.all)) (by repeat (first | exact Rm.chunk | exact Rm.here | apply Rm.skip | apply Rm.skipS)) ?_
        refine WP.inL (f := fX c) (l := ex) x.j hjx (by repeat (first | exact Take.nil | apply Take.cons | apply Take.app | exact Rm.chunk | exact Rm.here | apply Rm.skip | apply Rm.skipS | apply Take.all)) (by repeat (first | exact Rm.chunk | exact Rm.here | apply Rm.skip | apply Rm.skipS)) ?_
        refine WP.next ?_
        refine WP.condF rfl ?_
        refine WP.skip ?_
        refine WP.leave ?_
        refine WP.next ?_
        refine WP.region [0, 1, 2] rfl ?_
        refine WP.val rfl rfl rfl rfl (Yld.move rfl rfl) ?_
        refine WP.val rfl rfl rfl rfl (Yld.add64 rfl rfl rfl (by omega)) ?_
        refine WP.val rfl rfl rfl rfl (Yld.assign rfl rfl) ?_
        refine WP.nil ?_
        refine WP.sub [(4, _), (7, _), (8, _), (12, _), (20, _), (157, _), (181, _)] ?_ ⟨rfl, rfl, rfl, rfl, rfl, rfl, rfl, trivial⟩
        exact WP.again ⟨x.j + 1, { x.t with l := IntKind.i64.wrap (x.t.l + 1) }, x.ey.set x.j ⟨(x.ey[x.j]'hjy).b, (x.ey[x.j]'hjy).cb, { (x.ey[x.j]'hjy).s with l := IntKind.i64.wrap ((x.ey[x.j]'hjy).s.l + 1) }⟩⟩ (D4.next hx hjx hjy) (by simp only; omega) ⟨rfl, rfl, rfl, rfl, rfl, trivial⟩ rfl (by (try dsimp only); repeat (first | exact Rm.chunk | exact Rm.here | apply Rm.skip | apply Rm.skipS | apply PX.cons | (apply PX.done; (repeat (first | exact Leave.done | apply Leave.drop | apply Leave.dropS)); done) | apply PX.app))
      · refine WP.nil ?_
        refine WP.sub [(4, _), (7, _), (8, _), (12, _), (20, _), (157, _)] ?_ ⟨rfl, rfl, rfl, rfl, rfl, rfl, trivial⟩
        refine WP.next ?_
        refine WP.condF rfl ?_
        refine WP.exit ?_
        refine WP.thenE ?_
        refine WP.thenE ?_
        refine WP.hit ?_
        refine WP.next ?_
        refine WP.seq ?_
        refine WP.region [0] rfl ?_
        refine WP.val rfl rfl rfl rfl (Yld.assign rfl rfl) ?_
        refine WP.nil ?_
        refine WP.next ?_
        refine WP.ret ?_
        refine WP.fin .ret (.inr rfl) (res1 rfl rfl) [] (by repeat (first | exact Take.nil | apply Take.cons | apply Take.app | exact Rm.chunk | exact Rm.here | apply Rm.skip | apply Rm.skipS | apply Take.all)) (by repeat (first | exact Leave.done | apply Leave.drop | apply Leave.dropS)) (Imm.le_refl _) ?_
        exact ⟨rfl, rfl, rfl⟩


end Go.Hp
