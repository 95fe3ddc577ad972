import Derived.Test.YtdobkjbpehdokaaLoomB
import Derived.Test.YtdobkjbpehdokaaHpList
set_option linter.unusedVariables false
set_option linter.unusedSimpArgs false
namespace Go.Hp
open Go Go.Proofs

theorem loom_tStepO {I : Imm} {q c : Nat} {m : Mb × Ad} {s : CS} (hl : m.2.left ≤ 9223372036854775807) : Spec Try.prog 42 [.pointer (some ⟨m.1.t, 0, none⟩)] I (mach q m ++ csCh q c s) (fun v J L => v = .tuple #[] ∧ I = J ∧ L = mach q (m.1, (tStep m.2 s).1) ++ csCh q c (tStep m.2 s).2) := loom_tStep hl
def tps (ms : List (Mb × Ad)) : List Value := ms.map fun m => .pointer (some ⟨m.1.t, 0, none⟩)
def lefts (xs : List Ad) : Prop := ∀ a ∈ xs, a.left ≤ 9223372036854775807
inductive IsLoom (l q : Nat) (xs : List Ad) : Chunks → Prop
  | mk {vs : Value} {Lv : Chunks} {ms : List (Mb × Ad)} (e : ms.map (·.2) = xs) (ow : Own 90 1 vs (tps ms) ms.length Lv) (hl : lefts xs) : IsLoom l q xs ((l, row 89 [vs]) :: (Lv ++ ms.flatMap (mach q)))
theorem tps_len (ms : List (Mb × Ad)) : (tps ms).length = ms.length := List.length_map _
theorem tps_at {ms : List (Mb × Ad)} {i : Nat} (h : i < ms.length) (sp : List Value) : (tps ms ++ sp)[0 + i * 1]? = some (.pointer (some ⟨ms[i].1.t, 0, none⟩)) := by
  rw [Nat.zero_add, Nat.mul_one, List.getElem?_append_left (by rw [tps_len]; exact h)]; simp [tps, h]
def stepAt (xs : List Ad) (s : CS) (i : Nat) : List Ad × CS := match xs[i]? with
  | some a => (xs.set i (tStep a s).1, (tStep a s).2)
  | none => (xs, s)
theorem stepAt_lt {xs : List Ad} {s : CS} {i : Nat} (h : i < xs.length) : stepAt xs s i = (xs.set i (tStep xs[i] s).1, (tStep xs[i] s).2) := by
  simp [stepAt, h]
theorem stepAt_len (xs : List Ad) (s : CS) (i : Nat) : (stepAt xs s i).1.length = xs.length := by unfold stepAt; split <;> simp
theorem tStep_left {a : Ad} {s : CS} (h : a.left ≤ 9223372036854775807) : (tStep a s).1.left ≤ 9223372036854775807 := by
  show (aStep a s).1.left ≤ _
  unfold aStep
  split
  · exact h
  split
  · exact h
  · rename_i h1 h2
    show (if _ then _ else _) ≤ _
    split
    · rw [wrap64_id (by omega)]; omega
    · exact h
theorem lefts_step {xs : List Ad} (h : lefts xs) (s : CS) (i : Nat) : lefts (stepAt xs s i).1 := by
  unfold stepAt
  split
  · rename_i a ha
    intro b hb
    rcases List.mem_or_eq_of_mem_set hb with hb | rfl
    · exact h b hb
    · exact tStep_left (h a (List.mem_of_getElem? ha))
  · exact h
def adAt (xs : List Ad) (k : Int) : Option Ad := if k < 0 then none else xs[k.toNat]?
def doneAt (xs : List Ad) (k : Int) : Bool := match adAt xs k with | some a => a.done | none => false
def stepsAt (xs : List Ad) (k : Int) : Int := match adAt xs k with | some a => a.steps | none => 0
def pick (xs : List Ad) (s : CS) (k : Int) : List Ad × CS × Int := match adAt xs k with
  | none => (xs, s, 1)
  | some a => if a.done then (xs, s, 5) else ((stepAt xs s k.toNat).1, (stepAt xs s k.toNat).2, 0)
theorem adAt_no {xs : List Ad} {k : Int} (h : k < 0 ∨ (xs.length : Int) ≤ k) : adAt xs k = none := by
  unfold adAt
  split
  · rfl
  · exact List.getElem?_eq_none (by omega)
theorem adAt_lt {xs : List Ad} {i : Nat} (h : i < xs.length) : adAt xs (i : Int) = some xs[i] := by
  unfold adAt
  rw [if_neg (by omega)]; simp [h]
/-- Those that have not ended. -/
def liveU (xs : List Ad) (i : Nat) : List Nat := (List.range i).filter fun j => match xs[j]? with | some a => !a.done | none => false
def live (xs : List Ad) : List Nat := liveU xs xs.length
theorem liveU_succ {xs : List Ad} {i : Nat} (h : i < xs.length) : liveU xs (i + 1) = liveU xs i ++ (if xs[i].done = true then [] else [i]) := by
  unfold liveU
  rw [List.range_succ, List.filter_append]
  congr 1
  cases hb : xs[i].done <;> simp [List.filter, h, hb]
def ints (l : List Nat) : List Value := l.map fun (i : Nat) => .int .i64 (i : Int)
def sweep (most : Int) : List Nat → List Ad × CS × Int → List Ad × CS × Int
  | [], st => st
  | i :: is, (xs, s, k) => if k = most then (xs, s, k) else sweep most is ((stepAt xs s i).1, (stepAt xs s i).2, k + 1)
def runL (most : Int) : Nat → List Ad × CS × Int → List Ad × CS × Int
  | 0, st => st
  | f + 1, st => if st.2.2 < most then (if live st.1 = [] then st else runL most f (sweep most (live st.1) st)) else st
def run (xs : List Ad) (s : CS) (most : Int) : List Ad × CS × Int := runL most most.toNat (xs, s, 0)
theorem sweep_len (most : Int) : ∀ (l : List Nat) (st : List Ad × CS × Int), (sweep most l st).1.length = st.1.length
  | [], _ => rfl
  | i :: l, (xs, s, k) => by
    rw [sweep]
    split
    · rfl
    · rw [sweep_len most l]; exact stepAt_len _ _ _
theorem sweep_n (most : Int) : ∀ (l : List Nat) (st : List Ad × CS × Int), st.2.2 ≤ most → st.2.2 ≤ (sweep most l st).2.2 ∧ (sweep most l st).2.2 ≤ most ∧ (l ≠ [] → st.2.2 < most → st.2.2 < (sweep most l st).2.2)
  | [], st, h => ⟨Int.le_refl _, h, fun h => absurd rfl h⟩
  | i :: l, (xs, s, k), h => by
    simp only at h
    rw [sweep]
    split
    · rename_i hk
      exact ⟨Int.le_refl _, h, fun _ h2 => by simp only at h2; omega⟩
    · rename_i hk
      have := sweep_n most l ((stepAt xs s i).1, (stepAt xs s i).2, k + 1) (by simp only; omega)
      simp only at this
      exact ⟨by simp only; omega, this.2.1, fun _ _ => by simp only; omega⟩
theorem live_lt {xs : List Ad} {i : Nat} (h : i ∈ live xs) : i < xs.length := by
  unfold live liveU at h
  exact List.mem_range.1 (List.mem_filter.1 h).1
theorem loom_New (I : Imm) (q : Nat) : Spec Try.prog 14 [] I [] (fun v J L => ∃ l, v = .pointer (some ⟨l, 0, none⟩) ∧ I = J ∧ IsLoom l q [] L) := by
  refine Spec.of Try.func14 rfl Try.ntmps14 (Nat.le_of_ble_eq_true rfl) (fun F => ?_)
  try simp only [List.cons_append, List.nil_append, List.append_assoc]
  dsimp only [argsEnv]
  refine WP.seq ?_
  refine WP.region [0] rfl ?_
  refine WP.val rfl rfl rfl rfl (Yld.assign rfl rfl) ?_
  refine WP.nil ?_
  refine WP.next ?_
  refine WP.seq ?_
  refine WP.region [0, 1, 2] rfl ?_
  refine WP.val rfl rfl rfl rfl (Yld.buildS (pl := []) rfl ty_zr_89 ty_zd_89 (by kernel_rfl) rfl (vs := []) rfl (segs := []) rfl rfl (by repeat (first | exact SetSeg.nil | apply SetSeg.one | exact SetAt.zero | apply SetAt.succ))) ?_
  refine WP.loud rfl rfl ?_
  refine Op.box rfl rfl rfl rfl rfl (fun l => ?_)
  refine WP.val rfl rfl rfl rfl (Yld.assign rfl rfl) ?_
  refine WP.nil ?_
  refine WP.sub [(0, _)] ?_ ⟨rfl, trivial⟩
  refine WP.next ?_
  refine WP.ret ?_
  refine WP.fin .ret (.inr rfl) (res1 rfl rfl) [(l, row 89 [.slice none 0 0])] (by repeat (first | exact Take.nil | with_reducible apply Take.cons | apply Take.app | exact Rm.chunk | exact Rm.here | exact Rm.nil0 | apply Rm.skip | apply Rm.skipS | (focus (apply Take.all; (repeat (first | exact Rm.chunk | exact Rm.here | exact Rm.nil0 | apply Rm.skip | apply Rm.skipS)); done)) | apply Take.cons)) (by repeat (first | exact Leave.done | apply Leave.drop | apply Leave.dropS)) (Imm.le_refl _) ?_
  exact ⟨l, rfl, rfl, .mk (ms := []) (Lv := []) rfl .none0 (by intro a ha; cases ha)⟩

theorem loom_NewAdder {I : Imm} {q : Nat} {times by_ : Int} {safe : Bool} : Spec Try.prog 16 [.pointer (some ⟨q, 0, none⟩), .int .i64 times, .int .i64 by_, .bool safe] I [] (fun v J L => ∃ m : Mb, v = .iface 93 (.pointer (some ⟨m.a, 0, none⟩)) ∧ I = J ∧ L = adCh q (m, ⟨times, by_, 0, false, safe, false, 0⟩)) := by
  refine Spec.of Try.func16 rfl Try.ntmps16 (Nat.le_of_ble_eq_true rfl) (fun F => ?_)
  try simp only [List.cons_append, List.nil_append, List.append_assoc]
  dsimp only [argsEnv]
  refine WP.seq ?_
  refine WP.region [0, 1, 2, 3] rfl ?_
  refine WP.loud rfl rfl ?_
  refine Op.box rfl rfl rfl rfl rfl (fun bx => ?_)
  refine WP.loud rfl rfl ?_
  refine Op.box rfl rfl rfl rfl rfl (fun bb => ?_)
  refine WP.loud rfl rfl ?_
  refine Op.box rfl rfl rfl rfl rfl (fun bs => ?_)
  refine WP.val rfl rfl rfl rfl (Yld.assign rfl rfl) ?_
  refine WP.nil ?_
  refine WP.next ?_
  refine WP.seq ?_
  refine WP.region [0, 1, 2, 3, 4, 5] rfl ?_
  refine WP.val rfl rfl rfl rfl (Yld.load rfl ty_sc_27 rfl (by repeat (first | exact There.h | exact There.i (by assumption) | apply There.t | apply There.s)) rfl) ?_
  refine WP.val rfl rfl rfl rfl (Yld.move rfl rfl) ?_
  refine WP.val rfl rfl rfl rfl (Yld.load rfl ty_sc_3 rfl (by repeat (first | exact There.h | exact There.i (by assumption) | apply There.t | apply There.s)) rfl) ?_
  refine WP.val rfl rfl rfl rfl (Yld.buildS (pl := [(0, 0, 1), (1, 1, 1), (2, 2, 1)]) rfl ty_zr_95 ty_zd_95 (by kernel_rfl) rfl (vs := [_, _, _]) rfl (segs := [(0, [_]), (1, [_]), (2, [_])]) rfl rfl (by repeat (first | exact SetSeg.nil | apply SetSeg.one | exact SetAt.zero | apply SetAt.succ))) ?_
  refine WP.loud rfl rfl ?_
  refine Op.box rfl rfl rfl rfl rfl (fun ba => ?_)
  refine WP.val rfl rfl rfl rfl (Yld.assign rfl rfl) ?_
  refine WP.nil ?_
  refine WP.sub [(0, _), (1, _), (2, _), (3, _), (4, _), (6, _), (7, _), (8, _), (9, _)] ?_ ⟨rfl, rfl, rfl, rfl, rfl, rfl, rfl, rfl, rfl, trivial⟩
  refine WP.next ?_
  refine WP.seq ?_
  refine WP.region [0, 1, 2, 3, 4] rfl ?_
  refine WP.val rfl rfl rfl rfl (Yld.move rfl rfl) ?_
  refine WP.val rfl rfl rfl rfl (Yld.makeFunc rfl (vs := []) (us := [_, _, _]) rfl rfl) ?_
  refine WP.val rfl rfl rfl rfl (Yld.nilCheck rfl rfl) ?_
  refine WP.val rfl rfl rfl rfl (Yld.fieldAddr rfl ty_fd_95_5 rfl) ?_
  refine WP.loud rfl rfl ?_
  refine Op.store1 rfl rfl ty_sz_53 rfl rfl rfl (by repeat (first | exact Upd.head | apply Upd.tail | apply Upd.tailS)) (by repeat (first | exact SetAt.zero | apply SetAt.succ)) ?_
  refine WP.nil ?_
  refine WP.sub [(0, _), (1, _), (2, _), (3, _), (4, _), (6, _), (7, _), (8, _), (9, _)] ?_ ⟨rfl, rfl, rfl, rfl, rfl, rfl, rfl, rfl, rfl, trivial⟩
  refine WP.next ?_
  refine WP.seq ?_
  refine WP.region [0, 1, 2] rfl ?_
  refine WP.val rfl rfl rfl rfl (Yld.move rfl rfl) ?_
  refine WP.val rfl rfl rfl rfl (Yld.makeInterface rfl ty_cc_93 rfl) ?_
  refine WP.val rfl rfl rfl rfl (Yld.assign rfl rfl) ?_
  refine WP.nil ?_
  refine WP.sub [(0, _), (1, _), (2, _), (3, _), (4, _), (6, _), (7, _), (8, _), (9, _)] ?_ ⟨rfl, rfl, rfl, rfl, rfl, rfl, rfl, rfl, rfl, trivial⟩
  refine WP.next ?_
  refine WP.ret ?_
  refine WP.fin .ret (.inr rfl) (res1 rfl rfl) [(ba, row 95 _), (bs, row 4 _), (bx, row 27 _), (bb, row 3 _)] (by repeat (first | exact Take.nil | with_reducible apply Take.cons | apply Take.app | exact Rm.chunk | exact Rm.here | exact Rm.nil0 | apply Rm.skip | apply Rm.skipS | (focus (apply Take.all; (repeat (first | exact Rm.chunk | exact Rm.here | exact Rm.nil0 | apply Rm.skip | apply Rm.skipS)); done)) | apply Take.cons)) (by repeat (first | exact Leave.done | apply Leave.drop | apply Leave.dropS)) (Imm.le_refl _) ?_
  exact ⟨⟨0, ba, bs, bx, bb⟩, rfl, rfl, rfl⟩

theorem loom_Add {I : Imm} {l q : Nat} {xs : List Ad} {L : Chunks} {mb : Mb} {a : Ad} (hd : IsLoom l q xs L) (hn : xs.length ≤ 1048576) (ha : a.left ≤ 9223372036854775807) : Spec Try.prog 15 [.pointer (some ⟨l, 0, none⟩), .iface 93 (.pointer (some ⟨mb.a, 0, none⟩))] I (L ++ adCh q (mb, a)) (fun v J L' => v = .int .i64 (xs.length : Int) ∧ I = J ∧ IsLoom l q (xs ++ [{ a with done := false, steps := 0 }]) L') := by
  cases hd with
  | @mk vs Lv ms e ow hl =>
  subst e
  obtain ⟨As, cs_, rfl, hcs⟩ := ow.slice
  have hn' : ms.length ≤ 1048576 := by simpa using hn
  refine Spec.of Try.func15 rfl Try.ntmps15 (Nat.le_of_ble_eq_true rfl) (fun F => ?_)
  try simp only [List.cons_append, List.nil_append, List.append_assoc]
  dsimp only [argsEnv]
  refine WP.seq ?_
  refine WP.region [0] rfl ?_
  refine WP.val rfl rfl rfl rfl (Yld.assign rfl rfl) ?_
  refine WP.nil ?_
  refine WP.next ?_
  refine WP.seq ?_
  refine WP.region [0, 1, 2, 3, 4, 5, 6, 7, 8, 9, 10, 11, 12] rfl ?_
  refine WP.val rfl rfl rfl rfl (Yld.move rfl rfl) ?_
  refine WP.val rfl rfl rfl rfl (Yld.move rfl rfl) ?_
  refine WP.val rfl rfl rfl rfl (Yld.nilCheck rfl rfl) ?_
  refine WP.val rfl rfl rfl rfl (Yld.fieldAddr rfl ty_fd_89_0 rfl) ?_
  refine WP.val rfl rfl rfl rfl (Yld.load rfl ty_sc_87 rfl (by repeat (first | exact There.h | exact There.i (by assumption) | apply There.t | apply There.s)) rfl) ?_
  refine WP.val rfl rfl rfl rfl (Yld.move rfl rfl) ?_
  refine WP.val rfl rfl rfl rfl (Yld.buildS (pl := [(0, 0, 1)]) rfl ty_zr_92 ty_zd_92 (by kernel_rfl) rfl (vs := [_]) rfl (segs := [(0, [_])]) rfl rfl (by repeat (first | exact SetSeg.nil | apply SetSeg.one | exact SetAt.zero | apply SetAt.succ))) ?_
  refine WP.loud rfl rfl ?_
  refine Op.box rfl rfl rfl rfl rfl (fun bt => ?_)
  refine WP.loud rfl rfl ?_
  refine Op.buildSlice rfl ty_sl_87 ty_el2_87 rfl rfl rfl rfl (vs := [_]) rfl (segs := [(0, [_])]) (cs := [.pointer (some ⟨bt, 0, none⟩)]) rfl rfl (by repeat (first | exact SetSeg.nil | apply SetSeg.one | exact SetAt.zero | apply SetAt.succ)) (fun bz => ?_)
  refine WP.loud rfl rfl ?_
  refine Op.append rfl ty_sl_87 ty_el_87 rfl rfl rfl rfl rfl ow (SlRd.lit (by repeat (first | exact There.h | exact There.i (by assumption) | apply There.t | apply There.s)) rfl (Nat.le_refl _)) (by repeat (first | exact Take.nil | with_reducible apply Take.cons | apply Take.app | exact Rm.chunk | exact Rm.here | exact Rm.nil0 | apply Rm.skip | apply Rm.skipS | (focus (apply Take.all; (repeat (first | exact Rm.chunk | exact Rm.here | exact Rm.nil0 | apply Rm.skip | apply Rm.skipS)); done)) | apply Take.cons)) rfl (by omega) (by omega) (fun vq Lq hq => ?_)
  obtain ⟨Aq, cq, rfl, hcq⟩ := hq.slice
  try simp only [List.cons_append, List.nil_append, List.append_assoc]
  refine WP.val rfl rfl rfl rfl (Yld.nilCheck rfl rfl) ?_
  refine WP.val rfl rfl rfl rfl (Yld.fieldAddr rfl ty_fd_89_0 rfl) ?_
  refine WP.loud rfl rfl ?_
  refine Op.store1 rfl rfl ty_sz_87 rfl rfl rfl (by repeat (first | exact Upd.head | apply Upd.tail | apply Upd.tailS)) (by repeat (first | exact SetAt.zero | apply SetAt.succ)) ?_
  refine WP.nil ?_
  refine WP.sub [(0, _), (1, _), (4, _)] ?_ ⟨rfl, rfl, rfl, trivial⟩
  refine WP.next ?_
  refine WP.seq ?_
  refine WP.region [0, 1, 2, 3, 4, 5, 6] rfl ?_
  refine WP.val rfl rfl rfl rfl (Yld.move rfl rfl) ?_
  refine WP.val rfl rfl rfl rfl (Yld.nilCheck rfl rfl) ?_
  refine WP.val rfl rfl rfl rfl (Yld.fieldAddr rfl ty_fd_89_0 rfl) ?_
  refine WP.val rfl rfl rfl rfl (Yld.load rfl ty_sc_87 rfl (by repeat (first | exact There.h | exact There.i (by assumption) | apply There.t | apply There.s)) rfl) ?_
  refine WP.val rfl rfl rfl rfl (Yld.len rfl ty_sl_87 rfl) ?_
  refine WP.val rfl rfl rfl rfl (Yld.sub64 rfl rfl rfl (by omega)) ?_
  refine WP.val rfl rfl rfl rfl (Yld.assign rfl rfl) ?_
  refine WP.nil ?_
  refine WP.sub [(0, _), (1, _), (4, _)] ?_ ⟨rfl, rfl, rfl, trivial⟩
  refine WP.next ?_
  refine WP.ret ?_
  refine WP.fin .ret (.inr rfl) (res1 rfl rfl) ((l, row 89 _) :: (Lq ++ (ms.flatMap (mach q) ++ ((bt, row 92 _) :: adCh q (mb, a))))) (by repeat (first | exact Take.nil | with_reducible apply Take.cons | apply Take.app | exact Rm.chunk | exact Rm.here | exact Rm.nil0 | apply Rm.skip | apply Rm.skipS | (focus (apply Take.all; (repeat (first | exact Rm.chunk | exact Rm.here | exact Rm.nil0 | apply Rm.skip | apply Rm.skipS)); done)) | apply Take.cons)) (by repeat (first | exact Leave.done | apply Leave.drop | apply Leave.dropS)) (Imm.le_refl _) ?_
  refine ⟨congrArg (Value.int .i64) (by simp), rfl, ?_⟩
  have hms : (ms ++ [(({ mb with t := bt } : Mb), ({ a with done := false, steps := 0 } : Ad))]).flatMap (mach q) = ms.flatMap (mach q) ++ ((bt, row 92 [.iface 93 (.pointer (some ⟨mb.a, 0, none⟩)), .bool false, .int .i64 0]) :: adCh q (mb, a)) := by rw [List.flatMap_append]; rfl
  rw [← hms]
  have hle : lefts ((ms ++ [(({ mb with t := bt } : Mb), ({ a with done := false, steps := 0 } : Ad))]).map (·.2)) := by
    intro b hb
    rw [List.map_append] at hb
    rcases List.mem_append.1 hb with hb | hb
    · exact hl b hb
    · rw [List.mem_singleton.1 hb]; exact ha
  have hh := IsLoom.mk (l := l) (q := q) (ms := ms ++ [({ mb with t := bt }, { a with done := false, steps := 0 })]) rfl (by simpa [tps] using hq) hle
  rw [List.map_append (l₁ := ms)] at hh
  simpa using hh


end Go.Hp
