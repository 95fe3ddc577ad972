import Derived.Test.YtdobkjbpehdokaaLoomI
import Derived.Test.YtdobkjbpehdokaaHpFlat
set_option linter.unusedVariables false
set_option linter.unusedSimpArgs false
namespace Go.Hp
open Go Go.Proofs

def rad (a : Ad) : List Value := [.int .i64 a.left, .int .i64 a.by_, .bool a.safe, .bool a.loaded, .int .i64 a.seen, .bool a.done, .int .i64 a.steps]
theorem rad_len (a : Ad) : (rad a).length = 7 := rfl
theorem rad_one (a : Ad) : (rad a).all (·.oneCell') = true := rfl
def wc (l : List Ad) : List Value := l.flatMap rad
theorem wc_at {l : List Ad} {i : Nat} (hi : i < l.length) {a : Ad} (j : Nat) (hj : j < 7) (sp : List Value) {v : Value} (hv : (rad a)[j]? = some v) : (wc (l.set i a) ++ sp)[0 + i * 7 + j]? = some v :=
  flat_at rad_len (by simpa using hi) hj sp (by simpa using hv)
theorem wc_set {l : List Ad} {i : Nat} (hi : i < l.length) {a : Ad} (a' : Ad) (j : Nat) (hj : j < 7) (sp : List Value) {v : Value} (h : rad a' = (rad a).set j v) : SetAt (wc (l.set i a) ++ sp) (0 + i * 7 + j) v (wc (l.set i a') ++ sp) := by
  have := flat_set rad_len (l := l.set i a) (i := i) (by simpa using hi) hj sp a' (by simpa using h)
  rwa [List.set_set] at this
def refStep (a : Ad) (v : Int) : Ad × Int :=
  if a.done then (a, v)
  else if a.left < 1 then ({ a with steps := inc a.steps, done := true }, v)
  else if a.loaded = false then ({ a with steps := inc a.steps, loaded := true, seen := v }, v)
  else if a.safe = true ∧ a.seen ≠ v then ({ a with steps := inc a.steps, loaded := false }, v)
  else ({ a with steps := inc a.steps, loaded := false, left := a.left - 1, done := decide (a.left - 1 < 1) }, IntKind.i64.wrap (a.seen + a.by_))
theorem ref_tStep {a : Ad} {s : CS} (hd : a.done = false) (hl : a.left ≤ 9223372036854775807) : (tStep a s).1 = (refStep a s.v).1 ∧ (tStep a s).2.v = (refStep a s.v).2 := by
  unfold tStep aStep refStep
  rw [hd]
  simp only [Bool.false_eq_true, if_false]
  by_cases h1 : a.left < 1
  · simp [h1]
  rw [if_neg h1, if_neg h1]
  cases h2 : a.loaded with
  | false => simp [h1]
  | true =>
    simp only [Bool.true_eq_false, if_false]
    unfold putSt
    cases h3 : a.safe with
    | false => simp [wrap64_id (a := a.left - 1) (by omega)]
    | true =>
      by_cases h4 : s.v = a.seen
      · simp [h4, wrap64_id (a := a.left - 1) (by omega)]
      · simp [h4, h1, Ne.symm h4]
theorem loom_refStep {I : Imm} {b i : Nat} {xs : List Ad} {a : Ad} {sp : List Value} {cl : Int} (hi : i < xs.length) (hl : a.left ≤ 9223372036854775807) : Spec Try.prog 20 [.pointer (some ⟨b, 0 + i * 7, none⟩), .int .i64 cl] I [(b, row 46 (wc (xs.set i (a)) ++ sp))] (fun v J L => v = .int .i64 (refStep a cl).2 ∧ I = J ∧ L = [(b, row 46 (wc (xs.set i ((refStep a cl).1)) ++ sp))]) := by
  refine Spec.of Try.func20 rfl Try.ntmps20 (Nat.le_of_ble_eq_true rfl) (fun F => ?_)
  try simp only [List.cons_append, List.nil_append, List.append_assoc]
  dsimp only [argsEnv]
  refine WP.seq ?_
  refine WP.region [0] rfl ?_
  refine WP.val rfl rfl rfl rfl (Yld.assign rfl rfl) ?_
  refine WP.nil ?_
  refine WP.next ?_
  refine WP.seq ?_
  refine WP.seq ?_
  refine WP.region [0, 1, 2, 3] rfl ?_
  refine WP.val rfl rfl rfl rfl (Yld.move rfl rfl) ?_
  refine WP.val rfl rfl rfl rfl (Yld.nilCheck rfl rfl) ?_
  refine WP.val rfl rfl rfl rfl (Yld.fieldAddr rfl ty_fd_46_5 rfl) ?_
  refine WP.splitB rfl rfl rfl rfl (Yld.load rfl ty_sc_4 rfl (by repeat (first | exact There.h | exact There.i (by assumption) | apply There.t | apply There.s)) (wc_at hi 5 (by decide) sp rfl)) (fun hd => ?_) (fun hd => ?_)
  · refine WP.nil ?_
    refine WP.sub [(0, _), (1, _), (4, _), (8, _)] ?_ ⟨rfl, rfl, rfl, rfl, trivial⟩
    refine WP.next ?_
    refine WP.condT rfl ?_
    refine WP.seq ?_
    refine WP.region [0, 1] rfl ?_
    refine WP.val rfl rfl rfl rfl (Yld.move rfl rfl) ?_
    refine WP.val rfl rfl rfl rfl (Yld.assign rfl rfl) ?_
    refine WP.nil ?_
    refine WP.sub [(0, _), (1, _), (4, _), (8, _)] ?_ ⟨rfl, rfl, rfl, rfl, trivial⟩
    refine WP.next ?_
    refine WP.ret ?_
    refine WP.fin .ret (.inr rfl) (res1 rfl rfl) [(b, row 46 _)] (by repeat (first | exact Take.nil | with_reducible apply Take.cons | apply Take.app | exact Rm.chunk | exact Rm.here | exact Rm.nil0 | apply Rm.skip | apply Rm.skipS | (focus (apply Take.all; (repeat (first | exact Rm.chunk | exact Rm.here | exact Rm.nil0 | apply Rm.skip | apply Rm.skipS)); done)) | apply Take.cons)) (by repeat (first | exact Leave.done | apply Leave.drop | apply Leave.dropS)) (Imm.le_refl _) ?_
    have e : refStep a cl = (a, cl) := by unfold refStep; rw [if_pos hd]
    rw [e]; exact ⟨rfl, rfl, rfl⟩
  · refine WP.nil ?_
    refine WP.sub [(0, _), (1, _), (4, _), (8, _)] ?_ ⟨rfl, rfl, rfl, rfl, trivial⟩
    refine WP.next ?_
    refine WP.condF rfl ?_
    refine WP.skip ?_
    refine WP.next ?_
    refine WP.seq ?_
    refine WP.region [0, 1, 2, 3, 4, 5, 6, 7] rfl ?_
    refine WP.val rfl rfl rfl rfl (Yld.move rfl rfl) ?_
    refine WP.val rfl rfl rfl rfl (Yld.nilCheck rfl rfl) ?_
    refine WP.val rfl rfl rfl rfl (Yld.fieldAddr rfl ty_fd_46_6 rfl) ?_
    refine WP.val rfl rfl rfl rfl (Yld.load rfl ty_sc_3 rfl (by repeat (first | exact There.h | exact There.i (by assumption) | apply There.t | apply There.s)) (wc_at hi 6 (by decide) sp rfl)) ?_
    refine WP.val rfl rfl rfl rfl (Yld.add rfl rfl rfl) ?_
    refine WP.val rfl rfl rfl rfl (Yld.nilCheck rfl rfl) ?_
    refine WP.val rfl rfl rfl rfl (Yld.fieldAddr rfl ty_fd_46_6 rfl) ?_
    refine WP.loud rfl rfl ?_
    refine Op.store1 rfl rfl ty_sz_3 rfl rfl rfl (by repeat (first | exact Upd.head | apply Upd.tail | apply Upd.tailS)) (wc_set hi (a := a) ({ a with steps := inc a.steps }) 6 (by decide) sp rfl) ?_
    refine WP.nil ?_
    refine WP.sub [(0, _), (1, _), (4, _), (8, _)] ?_ ⟨rfl, rfl, rfl, rfl, trivial⟩
    refine WP.next ?_
    refine WP.seq ?_
    refine WP.seq ?_
    refine WP.region [0, 1, 2, 3, 4] rfl ?_
    refine WP.val rfl rfl rfl rfl (Yld.move rfl rfl) ?_
    refine WP.val rfl rfl rfl rfl (Yld.nilCheck rfl rfl) ?_
    refine WP.val rfl rfl rfl rfl (Yld.fieldAddr rfl ty_fd_46_0 rfl) ?_
    refine WP.val rfl rfl rfl rfl (Yld.load rfl ty_sc_3 rfl (by repeat (first | exact There.h | exact There.i (by assumption) | apply There.t | apply There.s)) (wc_at hi 0 (by decide) sp rfl)) ?_
    refine WP.split rfl rfl rfl rfl (Yld.lss rfl rfl rfl) (fun h1 => ?_) (fun h1 => ?_)
    · refine WP.nil ?_
      refine WP.sub [(0, _), (1, _), (4, _), (8, _), (21, _)] ?_ ⟨rfl, rfl, rfl, rfl, rfl, trivial⟩
      refine WP.next ?_
      refine WP.condT rfl ?_
      refine WP.seq ?_
      refine WP.region [0, 1, 2, 3] rfl ?_
      refine WP.val rfl rfl rfl rfl (Yld.move rfl rfl) ?_
      refine WP.val rfl rfl rfl rfl (Yld.nilCheck rfl rfl) ?_
      refine WP.val rfl rfl rfl rfl (Yld.fieldAddr rfl ty_fd_46_5 rfl) ?_
      refine WP.loud rfl rfl ?_
      refine Op.store1 rfl rfl ty_sz_4 rfl rfl rfl (by repeat (first | exact Upd.head | apply Upd.tail | apply Upd.tailS)) (wc_set hi (a := { a with steps := inc a.steps }) ({ a with steps := inc a.steps, done := true }) 5 (by decide) sp rfl) ?_
      refine WP.nil ?_
      refine WP.sub [(0, _), (1, _), (4, _), (8, _), (21, _)] ?_ ⟨rfl, rfl, rfl, rfl, rfl, trivial⟩
      refine WP.next ?_
      refine WP.seq ?_
      refine WP.region [0, 1] rfl ?_
      refine WP.val rfl rfl rfl rfl (Yld.move rfl rfl) ?_
      refine WP.val rfl rfl rfl rfl (Yld.assign rfl rfl) ?_
      refine WP.nil ?_
      refine WP.sub [(0, _), (1, _), (4, _), (8, _), (21, _)] ?_ ⟨rfl, rfl, rfl, rfl, rfl, trivial⟩
      refine WP.next ?_
      refine WP.ret ?_
      refine WP.fin .ret (.inr rfl) (res1 rfl rfl) [(b, row 46 _)] (by repeat (first | exact Take.nil | with_reducible apply Take.cons | apply Take.app | exact Rm.chunk | exact Rm.here | exact Rm.nil0 | apply Rm.skip | apply Rm.skipS | (focus (apply Take.all; (repeat (first | exact Rm.chunk | exact Rm.here | exact Rm.nil0 | apply Rm.skip | apply Rm.skipS)); done)) | apply Take.cons)) (by repeat (first | exact Leave.done | apply Leave.drop | apply Leave.dropS)) (Imm.le_refl _) ?_
      have e : refStep a cl = ({ a with steps := inc a.steps, done := true }, cl) := by unfold refStep; rw [if_neg (by rw [hd]; decide), if_pos h1]
      rw [e]; exact ⟨rfl, rfl, rfl⟩
    · simp only at h1
      refine WP.nil ?_
      refine WP.sub [(0, _), (1, _), (4, _), (8, _), (21, _)] ?_ ⟨rfl, rfl, rfl, rfl, rfl, trivial⟩
      refine WP.next ?_
      refine WP.condF rfl ?_
      refine WP.skip ?_
      refine WP.next ?_
      refine WP.seq ?_
      refine WP.seq ?_
      refine WP.region [0, 1, 2, 3, 4] rfl ?_
      refine WP.val rfl rfl rfl rfl (Yld.move rfl rfl) ?_
      refine WP.val rfl rfl rfl rfl (Yld.nilCheck rfl rfl) ?_
      refine WP.val rfl rfl rfl rfl (Yld.fieldAddr rfl ty_fd_46_3 rfl) ?_
      refine WP.splitB rfl rfl rfl rfl (Yld.load rfl ty_sc_4 rfl (by repeat (first | exact There.h | exact There.i (by assumption) | apply There.t | apply There.s)) (wc_at hi 3 (by decide) sp rfl)) (fun hld => ?_) (fun hld => ?_)
      · refine WP.val rfl rfl rfl rfl (Yld.not rfl rfl) ?_
        refine WP.nil ?_
        refine WP.sub [(0, _), (1, _), (4, _), (8, _), (21, _), (30, _)] ?_ ⟨rfl, rfl, rfl, rfl, rfl, rfl, trivial⟩
        refine WP.next ?_
        refine WP.condF rfl ?_
        refine WP.skip ?_
        refine WP.next ?_
        refine WP.seq ?_
        refine WP.region [0, 1, 2, 3] rfl ?_
        refine WP.val rfl rfl rfl rfl (Yld.move rfl rfl) ?_
        refine WP.val rfl rfl rfl rfl (Yld.nilCheck rfl rfl) ?_
        refine WP.val rfl rfl rfl rfl (Yld.fieldAddr rfl ty_fd_46_3 rfl) ?_
        refine WP.loud rfl rfl ?_
        refine Op.store1 rfl rfl ty_sz_4 rfl rfl rfl (by repeat (first | exact Upd.head | apply Upd.tail | apply Upd.tailS)) (wc_set hi (a := { a with steps := inc a.steps }) ({ a with steps := inc a.steps, loaded := false }) 3 (by decide) sp rfl) ?_
        refine WP.nil ?_
        refine WP.sub [(0, _), (1, _), (4, _), (8, _), (21, _), (30, _)] ?_ ⟨rfl, rfl, rfl, rfl, rfl, rfl, trivial⟩
        refine WP.next ?_
        refine WP.seq ?_
        refine WP.seq ?_
        refine WP.region [0, 1, 2, 3, 4, 5, 6, 7, 8, 9, 10, 11] rfl ?_
        refine WP.val rfl rfl rfl rfl (Yld.move rfl rfl) ?_
        refine WP.val rfl rfl rfl rfl (Yld.nilCheck rfl rfl) ?_
        refine WP.val rfl rfl rfl rfl (Yld.fieldAddr rfl ty_fd_46_2 rfl) ?_
        refine WP.splitB rfl rfl rfl rfl (Yld.load rfl ty_sc_4 rfl (by repeat (first | exact There.h | exact There.i (by assumption) | apply There.t | apply There.s)) (wc_at hi 2 (by decide) sp rfl)) (fun hsf => ?_) (fun hsf => ?_)
        · refine WP.val rfl rfl rfl rfl (Yld.move rfl rfl) ?_
          refine WP.valG rfl rfl rfl rfl rfl rfl rfl (Yld.move rfl rfl) ?_
          refine WP.valG rfl rfl rfl rfl rfl rfl rfl (Yld.nilCheck rfl rfl) ?_
          refine WP.valG rfl rfl rfl rfl rfl rfl rfl (Yld.fieldAddr rfl ty_fd_46_4 rfl) ?_
          refine WP.valG rfl rfl rfl rfl rfl rfl rfl (Yld.load rfl ty_sc_3 rfl (by repeat (first | exact There.h | exact There.i (by assumption) | apply There.t | apply There.s)) (wc_at hi 4 (by decide) sp rfl)) ?_
          refine WP.valG rfl rfl rfl rfl rfl rfl rfl (Yld.move rfl rfl) ?_
          refine WP.splitG rfl rfl rfl rfl rfl rfl rfl (Yld.neq rfl rfl rfl) (fun h4 => ?_) (fun h4 => ?_)
          · refine WP.val rfl rfl rfl rfl (Yld.pickT rfl rfl rfl) ?_
            refine WP.nil ?_
            refine WP.sub [(0, _), (1, _), (4, _), (8, _), (21, _), (30, _), (53, _)] ?_ ⟨rfl, rfl, rfl, rfl, rfl, rfl, rfl, trivial⟩
            refine WP.next ?_
            refine WP.condT rfl ?_
            refine WP.seq ?_
            refine WP.region [0, 1] rfl ?_
            refine WP.val rfl rfl rfl rfl (Yld.move rfl rfl) ?_
            refine WP.val rfl rfl rfl rfl (Yld.assign rfl rfl) ?_
            refine WP.nil ?_
            refine WP.sub [(0, _), (1, _), (4, _), (8, _), (21, _), (30, _), (53, _)] ?_ ⟨rfl, rfl, rfl, rfl, rfl, rfl, rfl, trivial⟩
            refine WP.next ?_
            refine WP.ret ?_
            refine WP.fin .ret (.inr rfl) (res1 rfl rfl) [(b, row 46 _)] (by repeat (first | exact Take.nil | with_reducible apply Take.cons | apply Take.app | exact Rm.chunk | exact Rm.here | exact Rm.nil0 | apply Rm.skip | apply Rm.skipS | (focus (apply Take.all; (repeat (first | exact Rm.chunk | exact Rm.here | exact Rm.nil0 | apply Rm.skip | apply Rm.skipS)); done)) | apply Take.cons)) (by repeat (first | exact Leave.done | apply Leave.drop | apply Leave.dropS)) (Imm.le_refl _) ?_
            have e : refStep a cl = ({ a with steps := inc a.steps, loaded := false }, cl) := by unfold refStep; rw [if_neg (by rw [hd]; decide), if_neg h1, if_neg (by rw [hld]; decide), if_pos ⟨hsf, h4⟩]
            rw [e]; exact ⟨rfl, rfl, rfl⟩
          · refine WP.val rfl rfl rfl rfl (Yld.pickT rfl rfl rfl) ?_
            refine WP.nil ?_
            refine WP.sub [(0, _), (1, _), (4, _), (8, _), (21, _), (30, _), (53, _)] ?_ ⟨rfl, rfl, rfl, rfl, rfl, rfl, rfl, trivial⟩
            refine WP.next ?_
            refine WP.condF rfl ?_
            refine WP.skip ?_
            refine WP.next ?_
            refine WP.seq ?_
            refine WP.region [0, 1, 2, 3, 4, 5, 6, 7] rfl ?_
            refine WP.val rfl rfl rfl rfl (Yld.move rfl rfl) ?_
            refine WP.val rfl rfl rfl rfl (Yld.nilCheck rfl rfl) ?_
            refine WP.val rfl rfl rfl rfl (Yld.fieldAddr rfl ty_fd_46_0 rfl) ?_
            refine WP.val rfl rfl rfl rfl (Yld.load rfl ty_sc_3 rfl (by repeat (first | exact There.h | exact There.i (by assumption) | apply There.t | apply There.s)) (wc_at hi 0 (by decide) sp rfl)) ?_
            refine WP.val rfl rfl rfl rfl (Yld.sub64 rfl rfl rfl (by simp only; omega)) ?_
            refine WP.val rfl rfl rfl rfl (Yld.nilCheck rfl rfl) ?_
            refine WP.val rfl rfl rfl rfl (Yld.fieldAddr rfl ty_fd_46_0 rfl) ?_
            refine WP.loud rfl rfl ?_
            refine Op.store1 rfl rfl ty_sz_3 rfl rfl rfl (by repeat (first | exact Upd.head | apply Upd.tail | apply Upd.tailS)) (wc_set hi (a := { a with steps := inc a.steps, loaded := false }) ({ a with steps := inc a.steps, loaded := false, left := a.left - 1 }) 0 (by decide) sp rfl) ?_
            refine WP.nil ?_
            refine WP.sub [(0, _), (1, _), (4, _), (8, _), (21, _), (30, _), (53, _)] ?_ ⟨rfl, rfl, rfl, rfl, rfl, rfl, rfl, trivial⟩
            refine WP.next ?_
            refine WP.seq ?_
            refine WP.region [0, 1, 2, 3, 4, 5, 6, 7, 8] rfl ?_
            refine WP.val rfl rfl rfl rfl (Yld.move rfl rfl) ?_
            refine WP.val rfl rfl rfl rfl (Yld.move rfl rfl) ?_
            refine WP.val rfl rfl rfl rfl (Yld.nilCheck rfl rfl) ?_
            refine WP.val rfl rfl rfl rfl (Yld.fieldAddr rfl ty_fd_46_0 rfl) ?_
            refine WP.val rfl rfl rfl rfl (Yld.load rfl ty_sc_3 rfl (by repeat (first | exact There.h | exact There.i (by assumption) | apply There.t | apply There.s)) (wc_at hi 0 (by decide) sp rfl)) ?_
            refine WP.val rfl rfl rfl rfl (Yld.lss rfl rfl rfl _ rfl) ?_
            refine WP.val rfl rfl rfl rfl (Yld.nilCheck rfl rfl) ?_
            refine WP.val rfl rfl rfl rfl (Yld.fieldAddr rfl ty_fd_46_5 rfl) ?_
            refine WP.loud rfl rfl ?_
            refine Op.store1 rfl rfl ty_sz_4 rfl rfl rfl (by repeat (first | exact Upd.head | apply Upd.tail | apply Upd.tailS)) (wc_set hi (a := { a with steps := inc a.steps, loaded := false, left := a.left - 1 }) ({ a with steps := inc a.steps, loaded := false, left := a.left - 1, done := decide (a.left - 1 < 1) }) 5 (by decide) sp rfl) ?_
            refine WP.nil ?_
            refine WP.sub [(0, _), (1, _), (4, _), (8, _), (21, _), (30, _), (53, _)] ?_ ⟨rfl, rfl, rfl, rfl, rfl, rfl, rfl, trivial⟩
            refine WP.next ?_
            refine WP.seq ?_
            refine WQ.startAll Trymixed (by kernel_rfl) _ rfl ?_
            refine WQ.val rfl rfl rfl (Yld.move rfl rfl) ?_
            refine WQ.val rfl rfl rfl (Yld.nilCheck rfl rfl) ?_
            refine WQ.val rfl rfl rfl (Yld.fieldAddr rfl ty_fd_46_4 rfl) ?_
            refine WQ.val rfl rfl rfl (Yld.load rfl ty_sc_3 rfl (by repeat (first | exact There.h | exact There.i (by assumption) | apply There.t | apply There.s)) (wc_at hi 4 (by decide) sp rfl)) ?_
            refine WQ.val rfl rfl rfl (Yld.move rfl rfl) ?_
            refine WQ.val rfl rfl rfl (Yld.nilCheck rfl rfl) ?_
            refine WQ.val rfl rfl rfl (Yld.fieldAddr rfl ty_fd_46_1 rfl) ?_
            refine WQ.val rfl rfl rfl (Yld.load rfl ty_sc_3 rfl (by repeat (first | exact There.h | exact There.i (by assumption) | apply There.t | apply There.s)) (wc_at hi 1 (by decide) sp rfl)) ?_
            refine WQ.val rfl rfl rfl (Yld.add rfl rfl rfl) ?_
            refine WQ.val rfl rfl rfl (Yld.assign rfl rfl) ?_
            refine WQ.nil ?_
            refine WP.sub [(0, _), (1, _), (4, _), (8, _), (21, _), (30, _), (53, _)] ?_ ⟨rfl, rfl, rfl, rfl, rfl, rfl, rfl, trivial⟩
            refine WP.next ?_
            refine WP.ret ?_
            refine WP.fin .ret (.inr rfl) (res1 rfl rfl) [(b, row 46 _)] (by repeat (first | exact Take.nil | with_reducible apply Take.cons | apply Take.app | exact Rm.chunk | exact Rm.here | exact Rm.nil0 | apply Rm.skip | apply Rm.skipS | (focus (apply Take.all; (repeat (first | exact Rm.chunk | exact Rm.here | exact Rm.nil0 | apply Rm.skip | apply Rm.skipS)); done)) | apply Take.cons)) (by repeat (first | exact Leave.done | apply Leave.drop | apply Leave.dropS)) (Imm.le_refl _) ?_
            have e : refStep a cl = ({ a with steps := inc a.steps, loaded := false, left := a.left - 1, done := decide (a.left - 1 < 1) }, IntKind.i64.wrap (a.seen + a.by_)) := by unfold refStep; rw [if_neg (by rw [hd]; decide), if_neg h1, if_neg (by rw [hld]; decide), if_neg (fun h => h4 h.2)]
            rw [e]; exact ⟨rfl, rfl, rfl⟩
        · refine WP.val rfl rfl rfl rfl (Yld.move rfl rfl) ?_
          refine WP.passG rfl rfl rfl rfl rfl rfl rfl rfl ?_
          refine WP.passG rfl rfl rfl rfl rfl rfl rfl rfl ?_
          refine WP.passG rfl rfl rfl rfl rfl rfl rfl rfl ?_
          refine WP.passG rfl rfl rfl rfl rfl rfl rfl rfl ?_
          refine WP.passG rfl rfl rfl rfl rfl rfl rfl rfl ?_
          refine WP.passG rfl rfl rfl rfl rfl rfl rfl rfl ?_
          refine WP.val rfl rfl rfl rfl (Yld.pickF rfl rfl rfl) ?_
          refine WP.nil ?_
          refine WP.sub [(0, _), (1, _), (4, _), (8, _), (21, _), (30, _), (53, _)] ?_ ⟨rfl, rfl, rfl, rfl, rfl, rfl, rfl, trivial⟩
          refine WP.next ?_
          refine WP.condF rfl ?_
          refine WP.skip ?_
          refine WP.next ?_
          refine WP.seq ?_
          refine WP.region [0, 1, 2, 3, 4, 5, 6, 7] rfl ?_
          refine WP.val rfl rfl rfl rfl (Yld.move rfl rfl) ?_
          refine WP.val rfl rfl rfl rfl (Yld.nilCheck rfl rfl) ?_
          refine WP.val rfl rfl rfl rfl (Yld.fieldAddr rfl ty_fd_46_0 rfl) ?_
          refine WP.val rfl rfl rfl rfl (Yld.load rfl ty_sc_3 rfl (by repeat (first | exact There.h | exact There.i (by assumption) | apply There.t | apply There.s)) (wc_at hi 0 (by decide) sp rfl)) ?_
          refine WP.val rfl rfl rfl rfl (Yld.sub64 rfl rfl rfl (by simp only; omega)) ?_
          refine WP.val rfl rfl rfl rfl (Yld.nilCheck rfl rfl) ?_
          refine WP.val rfl rfl rfl rfl (Yld.fieldAddr rfl ty_fd_46_0 rfl) ?_
          refine WP.loud rfl rfl ?_
          refine Op.store1 rfl rfl ty_sz_3 rfl rfl rfl (by repeat (first | exact Upd.head | apply Upd.tail | apply Upd.tailS)) (wc_set hi (a := { a with steps := inc a.steps, loaded := false }) ({ a with steps := inc a.steps, loaded := false, left := a.left - 1 }) 0 (by decide) sp rfl) ?_
          refine WP.nil ?_
          refine WP.sub [(0, _), (1, _), (4, _), (8, _), (21, _), (30, _), (53, _)] ?_ ⟨rfl, rfl, rfl, rfl, rfl, rfl, rfl, trivial⟩
          refine WP.next ?_
          refine WP.seq ?_
          refine WP.region [0, 1, 2, 3, 4, 5, 6, 7, 8] rfl ?_
          refine WP.val rfl rfl rfl rfl (Yld.move rfl rfl) ?_
          refine WP.val rfl rfl rfl rfl (Yld.move rfl rfl) ?_
          refine WP.val rfl rfl rfl rfl (Yld.nilCheck rfl rfl) ?_
          refine WP.val rfl rfl rfl rfl (Yld.fieldAddr rfl ty_fd_46_0 rfl) ?_
          refine WP.val rfl rfl rfl rfl (Yld.load rfl ty_sc_3 rfl (by repeat (first | exact There.h | exact There.i (by assumption) | apply There.t | apply There.s)) (wc_at hi 0 (by decide) sp rfl)) ?_
          refine WP.val rfl rfl rfl rfl (Yld.lss rfl rfl rfl _ rfl) ?_
          refine WP.val rfl rfl rfl rfl (Yld.nilCheck rfl rfl) ?_
          refine WP.val rfl rfl rfl rfl (Yld.fieldAddr rfl ty_fd_46_5 rfl) ?_
          refine WP.loud rfl rfl ?_
          refine Op.store1 rfl rfl ty_sz_4 rfl rfl rfl (by repeat (first | exact Upd.head | apply Upd.tail | apply Upd.tailS)) (wc_set hi (a := { a with steps := inc a.steps, loaded := false, left := a.left - 1 }) ({ a with steps := inc a.steps, loaded := false, left := a.left - 1, done := decide (a.left - 1 < 1) }) 5 (by decide) sp rfl) ?_
          refine WP.nil ?_
          refine WP.sub [(0, _), (1, _), (4, _), (8, _), (21, _), (30, _), (53, _)] ?_ ⟨rfl, rfl, rfl, rfl, rfl, rfl, rfl, trivial⟩
          refine WP.next ?_
          refine WP.seq ?_
          refine WQ.startAll Trymixed (by kernel_rfl) _ rfl ?_
          refine WQ.val rfl rfl rfl (Yld.move rfl rfl) ?_
          refine WQ.val rfl rfl rfl (Yld.nilCheck rfl rfl) ?_
          refine WQ.val rfl rfl rfl (Yld.fieldAddr rfl ty_fd_46_4 rfl) ?_
          refine WQ.val rfl rfl rfl (Yld.load rfl ty_sc_3 rfl (by repeat (first | exact There.h | exact There.i (by assumption) | apply There.t | apply There.s)) (wc_at hi 4 (by decide) sp rfl)) ?_
          refine WQ.val rfl rfl rfl (Yld.move rfl rfl) ?_
          refine WQ.val rfl rfl rfl (Yld.nilCheck rfl rfl) ?_
          refine WQ.val rfl rfl rfl (Yld.fieldAddr rfl ty_fd_46_1 rfl) ?_
          refine WQ.val rfl rfl rfl (Yld.load rfl ty_sc_3 rfl (by repeat (first | exact There.h | exact There.i (by assumption) | apply There.t | apply There.s)) (wc_at hi 1 (by decide) sp rfl)) ?_
          refine WQ.val rfl rfl rfl (Yld.add rfl rfl rfl) ?_
          refine WQ.val rfl rfl rfl (Yld.assign rfl rfl) ?_
          refine WQ.nil ?_
          refine WP.sub [(0, _), (1, _), (4, _), (8, _), (21, _), (30, _), (53, _)] ?_ ⟨rfl, rfl, rfl, rfl, rfl, rfl, rfl, trivial⟩
          refine WP.next ?_
          refine WP.ret ?_
          refine WP.fin .ret (.inr rfl) (res1 rfl rfl) [(b, row 46 _)] (by repeat (first | exact Take.nil | with_reducible apply Take.cons | apply Take.app | exact Rm.chunk | exact Rm.here | exact Rm.nil0 | apply Rm.skip | apply Rm.skipS | (focus (apply Take.all; (repeat (first | exact Rm.chunk | exact Rm.here | exact Rm.nil0 | apply Rm.skip | apply Rm.skipS)); done)) | apply Take.cons)) (by repeat (first | exact Leave.done | apply Leave.drop | apply Leave.dropS)) (Imm.le_refl _) ?_
          have e : refStep a cl = ({ a with steps := inc a.steps, loaded := false, left := a.left - 1, done := decide (a.left - 1 < 1) }, IntKind.i64.wrap (a.seen + a.by_)) := by unfold refStep; rw [if_neg (by rw [hd]; decide), if_neg h1, if_neg (by rw [hld]; decide), if_neg (fun h => by rw [hsf] at h; exact absurd h.1 (by decide))]
          rw [e]; exact ⟨rfl, rfl, rfl⟩
      · refine WP.val rfl rfl rfl rfl (Yld.not rfl rfl) ?_
        refine WP.nil ?_
        refine WP.sub [(0, _), (1, _), (4, _), (8, _), (21, _), (30, _)] ?_ ⟨rfl, rfl, rfl, rfl, rfl, rfl, trivial⟩
        refine WP.next ?_
        refine WP.condT rfl ?_
        refine WP.seq ?_
        refine WP.region [0, 1, 2, 3] rfl ?_
        refine WP.val rfl rfl rfl rfl (Yld.move rfl rfl) ?_
        refine WP.val rfl rfl rfl rfl (Yld.nilCheck rfl rfl) ?_
        refine WP.val rfl rfl rfl rfl (Yld.fieldAddr rfl ty_fd_46_3 rfl) ?_
        refine WP.loud rfl rfl ?_
        refine Op.store1 rfl rfl ty_sz_4 rfl rfl rfl (by repeat (first | exact Upd.head | apply Upd.tail | apply Upd.tailS)) (wc_set hi (a := { a with steps := inc a.steps }) ({ a with steps := inc a.steps, loaded := true }) 3 (by decide) sp rfl) ?_
        refine WP.nil ?_
        refine WP.sub [(0, _), (1, _), (4, _), (8, _), (21, _), (30, _)] ?_ ⟨rfl, rfl, rfl, rfl, rfl, rfl, trivial⟩
        refine WP.next ?_
        refine WP.seq ?_
        refine WP.region [0, 1, 2, 3, 4] rfl ?_
        refine WP.val rfl rfl rfl rfl (Yld.move rfl rfl) ?_
        refine WP.val rfl rfl rfl rfl (Yld.move rfl rfl) ?_
        refine WP.val rfl rfl rfl rfl (Yld.nilCheck rfl rfl) ?_
        refine WP.val rfl rfl rfl rfl (Yld.fieldAddr rfl ty_fd_46_4 rfl) ?_
        refine WP.loud rfl rfl ?_
        refine Op.store1 rfl rfl ty_sz_3 rfl rfl rfl (by repeat (first | exact Upd.head | apply Upd.tail | apply Upd.tailS)) (wc_set hi (a := { a with steps := inc a.steps, loaded := true }) ({ a with steps := inc a.steps, loaded := true, seen := cl }) 4 (by decide) sp rfl) ?_
        refine WP.nil ?_
        refine WP.sub [(0, _), (1, _), (4, _), (8, _), (21, _), (30, _)] ?_ ⟨rfl, rfl, rfl, rfl, rfl, rfl, trivial⟩
        refine WP.next ?_
        refine WP.seq ?_
        refine WP.region [0, 1] rfl ?_
        refine WP.val rfl rfl rfl rfl (Yld.move rfl rfl) ?_
        refine WP.val rfl rfl rfl rfl (Yld.assign rfl rfl) ?_
        refine WP.nil ?_
        refine WP.sub [(0, _), (1, _), (4, _), (8, _), (21, _), (30, _)] ?_ ⟨rfl, rfl, rfl, rfl, rfl, rfl, trivial⟩
        refine WP.next ?_
        refine WP.ret ?_
        refine WP.fin .ret (.inr rfl) (res1 rfl rfl) [(b, row 46 _)] (by repeat (first | exact Take.nil | with_reducible apply Take.cons | apply Take.app | exact Rm.chunk | exact Rm.here | exact Rm.nil0 | apply Rm.skip | apply Rm.skipS | (focus (apply Take.all; (repeat (first | exact Rm.chunk | exact Rm.here | exact Rm.nil0 | apply Rm.skip | apply Rm.skipS)); done)) | apply Take.cons)) (by repeat (first | exact Leave.done | apply Leave.drop | apply Leave.dropS)) (Imm.le_refl _) ?_
        have e : refStep a cl = ({ a with steps := inc a.steps, loaded := true, seen := cl }, cl) := by unfold refStep; rw [if_neg (by rw [hd]; decide), if_neg h1, if_pos hld]
        rw [e]; exact ⟨rfl, rfl, rfl⟩


end Go.Hp
