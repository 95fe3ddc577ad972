import Derived.Test.YtdobkjbpehdokaaCell
import Derived.Test.YtdobkjbpehdokaaHpIface
set_option linter.unusedVariables false
set_option linter.unusedSimpArgs false
namespace Go.Hp
open Go Go.Proofs

/-- A cell, and what is counted. -/
structure CS where
  v : Int
  l : Int
  s : Int
  sw : Int
  m : Int
  a : Int
def inc (n : Int) : Int := IntKind.i64.wrap (n + 1)
/-- A machine that adds. -/
structure Ad where
  left : Int
  by_ : Int
  seen : Int
  loaded : Bool
  safe : Bool
  done : Bool
  steps : Int
/-- Where its parts lie. -/
structure Mb where
  t : Nat
  a : Nat
  s : Nat
  x : Nat
  b : Nat
def csCh (q c : Nat) (s : CS) : Chunks := [(q, row 85 [.int .i64 s.v, .pointer (some ⟨c, 0, none⟩)]), (c, row 83 [.int .i64 s.l, .int .i64 s.s, .int .i64 s.sw, .int .i64 s.m, .int .i64 s.a])]
def thCh (m : Mb × Ad) : Nat × Obj := (m.1.t, row 92 [.iface 93 (.pointer (some ⟨m.1.a, 0, none⟩)), .bool m.2.done, .int .i64 m.2.steps])
def putV (m : Mb) : Value := .func (.func 38) #[] #[.pointer (some ⟨m.s, 0, none⟩), .pointer (some ⟨m.x, 0, none⟩), .pointer (some ⟨m.b, 0, none⟩)]
def adCh (q : Nat) (m : Mb × Ad) : Chunks := [(m.1.a, row 95 [.pointer (some ⟨q, 0, none⟩), .int .i64 m.2.left, .int .i64 m.2.by_, .int .i64 m.2.seen, .bool m.2.loaded, putV m.1]), (m.1.s, row 4 [.bool m.2.safe]), (m.1.x, row 27 [.pointer (some ⟨q, 0, none⟩)]), (m.1.b, row 3 [.int .i64 m.2.by_])]
def mach (q : Nat) (m : Mb × Ad) : Chunks := thCh m :: adCh q m
/-- What is put in: is it done, and the cell then. -/
def putSt (safe : Bool) (by_ seen : Int) (s : CS) : Bool × CS :=
  if safe then (decide (s.v = seen), { s with v := if s.v = seen then IntKind.i64.wrap (seen + by_) else s.v, sw := if s.v = seen then inc s.sw else s.sw, m := if s.v = seen then s.m else inc s.m })
  else (true, { s with v := IntKind.i64.wrap (seen + by_), s := inc s.s })
/-- One step. -/
def aStep (m : Ad) (s : CS) : Ad × CS :=
  if m.left < 1 then (m, s)
  else if m.loaded = false then ({ m with seen := s.v, loaded := true }, { s with l := inc s.l })
  else ({ m with loaded := false, left := if (putSt m.safe m.by_ m.seen s).1 then IntKind.i64.wrap (m.left - 1) else m.left }, (putSt m.safe m.by_ m.seen s).2)
def tStep (m : Ad) (s : CS) : Ad × CS := ({ (aStep m s).1 with steps := inc m.steps, done := decide ((aStep m s).1.left < 1) }, (aStep m s).2)
theorem loom_put {I : Imm} {q c xs xx xb : Nat} {safe : Bool} {by_ seen : Int} {s : CS} : Spec Try.prog 38 [.int .i64 seen, .pointer (some ⟨xs, 0, none⟩), .pointer (some ⟨xx, 0, none⟩), .pointer (some ⟨xb, 0, none⟩)] I [(xs, row 4 [.bool safe]), (xx, row 27 [.pointer (some ⟨q, 0, none⟩)]), (xb, row 3 [.int .i64 by_]), (q, row 85 [.int .i64 s.v, .pointer (some ⟨c, 0, none⟩)]), (c, row 83 [.int .i64 s.l, .int .i64 s.s, .int .i64 s.sw, .int .i64 s.m, .int .i64 s.a])] (fun v J L => v = .bool (putSt safe by_ seen s).1 ∧ I = J ∧ L = [(xs, row 4 [.bool safe]), (xx, row 27 [.pointer (some ⟨q, 0, none⟩)]), (xb, row 3 [.int .i64 by_]), (q, row 85 [.int .i64 (putSt safe by_ seen s).2.v, .pointer (some ⟨c, 0, none⟩)]), (c, row 83 [.int .i64 (putSt safe by_ seen s).2.l, .int .i64 (putSt safe by_ seen s).2.s, .int .i64 (putSt safe by_ seen s).2.sw, .int .i64 (putSt safe by_ seen s).2.m, .int .i64 (putSt safe by_ seen s).2.a])]) := by
  refine Spec.of Try.func38 rfl Try.ntmps38 (Nat.le_of_ble_eq_true rfl) (fun F => ?_)
  try simp only [List.cons_append, List.nil_append, List.append_assoc]
  dsimp only [argsEnv]
  refine WP.seq ?_
  refine WP.region [0] rfl ?_
  refine WP.val rfl rfl rfl rfl (Yld.assign rfl rfl) ?_
  refine WP.nil ?_
  refine WP.next ?_
  refine WP.seq ?_
  refine WP.seq ?_
  refine WP.region [0] rfl ?_
  refine WP.splitB rfl rfl rfl rfl (Yld.load rfl ty_sc_4 rfl (by repeat (first | exact There.h | exact There.i (by assumption) | apply There.t | apply There.s)) rfl) (fun hb => ?_) (fun hb => ?_)
  · refine WP.nil ?_
    refine WP.next ?_
    refine WP.condT rfl ?_
    refine WP.seq ?_
    refine WP.region [0, 1, 2, 3, 4, 5, 6] rfl ?_
    refine WP.val rfl rfl rfl rfl (Yld.load rfl ty_sc_27 rfl (by repeat (first | exact There.h | exact There.i (by assumption) | apply There.t | apply There.s)) rfl) ?_
    refine WP.val rfl rfl rfl rfl (Yld.move rfl rfl) ?_
    refine WP.val rfl rfl rfl rfl (Yld.move rfl rfl) ?_
    refine WP.val rfl rfl rfl rfl (Yld.load rfl ty_sc_3 rfl (by repeat (first | exact There.h | exact There.i (by assumption) | apply There.t | apply There.s)) rfl) ?_
    refine WP.val rfl rfl rfl rfl (Yld.add rfl rfl rfl) ?_
    refine WP.loud rfl rfl ?_
    refine Op.call cell_CAS rfl Try.func39 rfl rfl rfl rfl (by repeat (first | exact Take.nil | with_reducible apply Take.cons | apply Take.app | exact Rm.chunk | exact Rm.here | exact Rm.nil0 | apply Rm.skip | apply Rm.skipS | (focus (apply Take.all; (repeat (first | exact Rm.chunk | exact Rm.here | exact Rm.nil0 | apply Rm.skip | apply Rm.skipS)); done)) | apply Take.cons)) ?_
    rintro v J L1 hJ ⟨rfl, rfl, rfl⟩
    clear hJ; try simp only [List.cons_append, List.nil_append, List.append_assoc]
    refine WP.val rfl rfl rfl rfl (Yld.assign rfl rfl) ?_
    refine WP.nil ?_
    refine WP.sub [(0, _), (1, _), (2, _), (3, _), (5, _), (6, _)] ?_ ⟨rfl, rfl, rfl, rfl, rfl, rfl, trivial⟩
    refine WP.next ?_
    refine WP.ret ?_
    refine WP.fin .ret (.inr rfl) (res1 rfl rfl) [(xs, row 4 _), (xx, row 27 _), (xb, row 3 _), (q, row 85 _), (c, row 83 _)] (by repeat (first | exact Take.nil | with_reducible apply Take.cons | apply Take.app | exact Rm.chunk | exact Rm.here | exact Rm.nil0 | apply Rm.skip | apply Rm.skipS | (focus (apply Take.all; (repeat (first | exact Rm.chunk | exact Rm.here | exact Rm.nil0 | apply Rm.skip | apply Rm.skipS)); done)) | apply Take.cons)) (by repeat (first | exact Leave.done | apply Leave.drop | apply Leave.dropS)) (Imm.le_refl _) ?_
    exact ⟨by simp [putSt, hb], rfl, by simp [putSt, hb, inc]⟩
  · refine WP.nil ?_
    refine WP.next ?_
    refine WP.condF rfl ?_
    refine WP.skip ?_
    refine WP.next ?_
    refine WP.seq ?_
    refine WP.region [0, 1, 2, 3, 4] rfl ?_
    refine WP.val rfl rfl rfl rfl (Yld.load rfl ty_sc_27 rfl (by repeat (first | exact There.h | exact There.i (by assumption) | apply There.t | apply There.s)) rfl) ?_
    refine WP.val rfl rfl rfl rfl (Yld.move rfl rfl) ?_
    refine WP.val rfl rfl rfl rfl (Yld.load rfl ty_sc_3 rfl (by repeat (first | exact There.h | exact There.i (by assumption) | apply There.t | apply There.s)) rfl) ?_
    refine WP.val rfl rfl rfl rfl (Yld.add rfl rfl rfl) ?_
    refine WP.loud rfl rfl ?_
    refine Op.call cell_Store rfl Try.func40 rfl rfl rfl rfl (by repeat (first | exact Take.nil | with_reducible apply Take.cons | apply Take.app | exact Rm.chunk | exact Rm.here | exact Rm.nil0 | apply Rm.skip | apply Rm.skipS | (focus (apply Take.all; (repeat (first | exact Rm.chunk | exact Rm.here | exact Rm.nil0 | apply Rm.skip | apply Rm.skipS)); done)) | apply Take.cons)) ?_
    rintro v J L1 hJ ⟨rfl, rfl, rfl⟩
    clear hJ; try simp only [List.cons_append, List.nil_append, List.append_assoc]
    refine WP.nil ?_
    refine WP.sub [(0, _), (1, _), (2, _), (3, _), (5, _), (6, _)] ?_ ⟨rfl, rfl, rfl, rfl, rfl, rfl, trivial⟩
    refine WP.next ?_
    refine WP.seq ?_
    refine WP.region [0] rfl ?_
    refine WP.val rfl rfl rfl rfl (Yld.assign rfl rfl) ?_
    refine WP.nil ?_
    refine WP.next ?_
    refine WP.ret ?_
    refine WP.fin .ret (.inr rfl) (res1 rfl rfl) [(xs, row 4 _), (xx, row 27 _), (xb, row 3 _), (q, row 85 _), (c, row 83 _)] (by repeat (first | exact Take.nil | with_reducible apply Take.cons | apply Take.app | exact Rm.chunk | exact Rm.here | exact Rm.nil0 | apply Rm.skip | apply Rm.skipS | (focus (apply Take.all; (repeat (first | exact Rm.chunk | exact Rm.here | exact Rm.nil0 | apply Rm.skip | apply Rm.skipS)); done)) | apply Take.cons)) (by repeat (first | exact Leave.done | apply Leave.drop | apply Leave.dropS)) (Imm.le_refl _) ?_
    exact ⟨by simp [putSt, hb], rfl, by simp [putSt, hb, inc]⟩


end Go.Hp
