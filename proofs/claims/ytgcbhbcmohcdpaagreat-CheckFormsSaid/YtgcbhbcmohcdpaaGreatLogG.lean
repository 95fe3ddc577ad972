import Derived.Test.YtgcbhbcmohcdpaaGreatLogF
set_option linter.unusedVariables false
set_option linter.unusedSimpArgs false
namespace Go.Hp
open Go Go.Proofs

def funcTy (P : Program) (t : TypeId) : Bool := match P.underlying t with | some (.func ..) => true | _ => false
theorem funcTy_run {P : Program} {t : TypeId} (h : funcTy P t = true) : ∃ a b c, P.underlying t = some (.func a b c) := by
 unfold funcTy at h
 cases hu : P.underlying t with
 | none => rw [hu] at h; cases h
 | some u => cases u <;> simp_all
theorem eqIn_fun1 {P : Program} (w : World) (d : Nat) {t : TypeId} {a b c} {fn : Fn} {fs cs : Array Value} (h : P.underlying t = some (.func a b c)) : (Op.equalIn (d + 1) t (.func fn fs cs) .nilFunc).run P w = .ok false w := by
 simp [Op.equalIn, run_underlying h]
theorem eqIn_fun0 {P : Program} (w : World) (d : Nat) {t : TypeId} {a b c} (h : P.underlying t = some (.func a b c)) : (Op.equalIn (d + 1) t .nilFunc .nilFunc).run P w = .ok true w := by
 simp [Op.equalIn, run_underlying h]
section
variable {P : Program} {n : Nat} {E : Env} {I : Imm} {L : Chunks} {V : Nat → Obj → Prop} {o : Oper}
theorem Yld.eqlNilF {x y : Operand} {t t' : TypeId} {fn : Fn} {fs cs : Array Value} (hop : o.op = .binOp .eql t x y t') (ht : funcTy P t = true) (hx : E.ev x = some (.func fn fs cs)) (hy : E.ev y = some .nilFunc) : Yld P n E V o (.bool false) := fun A W he _ => by
 obtain ⟨a, b, c, hu⟩ := funcTy_run ht
 have h : (Op.equal t (.func fn fs cs) .nilFunc).run P W = .ok false W := eqIn_fun1 W 9999 hu
 simp [execOp, hop, he.ev hx, he.ev hy, eqGuard, binOp, h]
theorem Yld.eqlNilF0 {x y : Operand} {t t' : TypeId} (hop : o.op = .binOp .eql t x y t') (ht : funcTy P t = true) (hx : E.ev x = some .nilFunc) (hy : E.ev y = some .nilFunc) : Yld P n E V o (.bool true) := fun A W he _ => by
 obtain ⟨a, b, c, hu⟩ := funcTy_run ht
 have h : (Op.equal t .nilFunc .nilFunc).run P W = .ok true W := eqIn_fun0 W 9999 hu
 simp [execOp, hop, he.ev hx, he.ev hy, eqGuard, binOp, h]
theorem Enters.bound {f : Nat} {fn : Func} {x : Operand} {xs : Array Operand} {ts : Array TypeId} {rs us vs : List Value} (hop : o.op = .call { callee := .value x, args := xs, argTypes := ts })
  (hf : P.funcs[f]? = some fn) (hfn : ((fn.name == "runtime.NumGoroutine") || fn.body.isNone) = false) (hx : E.ev x = some (.func (.func f) rs.toArray us.toArray)) (hxs : xs.toList.map E.ev = vs.map some) : Enters P n E I L o f (rs ++ vs ++ us) := fun a W ha hW => by
 simp only [Bool.or_eq_false_iff] at hfn
 have hfn1 : fn.name ≠ "runtime.NumGoroutine" := by simpa using hfn.1
 have hfn2 : fn.body ≠ none := fun e => by simp [e] at hfn
 have hargs := evs_ok ha hxs
 simp [execOp, hop, resolve, Deferred.ofValue, Go.invoke, ha.ev hx, hargs, callFunc, hf, hfn1, hfn2]
end
theorem func_ty : funcTy Tryz.prog 26 = true := by kernel_rfl
/-- A Flush: 0 begins, 1 writes, 2 says that they stay, 3 has ended. -/
structure Fl where
 at_ : Nat
 tno : Nat
 tpl : Nat
 n : Nat
 e : Int
def nextV (f : Nat) : Nat → Value
 | 0 => .func (.func 108) [.pointer (some ⟨f, 0, none⟩)].toArray [].toArray
 | 1 => .func (.func 117) [.pointer (some ⟨f, 0, none⟩)].toArray [].toArray
 | 2 => .func (.func 131) [.pointer (some ⟨f, 0, none⟩)].toArray [].toArray
 | _ => .nilFunc
def flV (l f : Nat) (z : Fl) : List Value := [.pointer (some ⟨l, 0, none⟩), nextV f z.at_, .int .i64 (z.tno : Int), .int .i64 (z.tpl : Int), .int .i64 (z.n : Int), .int .i64 z.e]
def Fl.fin (z : Fl) (m : Nat) (e : Int) : Fl := { z with at_ := 3, n := m, e := e }
def fbegin (x : Lg) (z : Fl) : Bool × Fl := if x.no ≤ x.wr then (true, (⟨z.at_, x.no, x.pl, z.n, z.e⟩ : Fl).fin x.wr 0) else (false, ⟨1, x.no, x.pl, z.n, z.e⟩)
def Sg.full (g : Sg) : Prop := g.stop - g.first = g.slots
instance (g : Sg) : Decidable g.full := inferInstanceAs (Decidable (_ = _))
def Sg.more (g : Sg) : Sg := if g.full then g else ⟨g.slots, g.first, g.stop + 1⟩
def Sg.moreE (g : Sg) : Int := if g.full then 3 else 0
theorem seg_GrowB {I : Imm} {s d n : Nat} {g : Sg} (hg : g.ok n) : Spec Tryz.prog 133 [.pointer (some ⟨s, 0, none⟩)] I [(s, row 122 (sgV d g))] (fun v J L' => I = J ∧ v = .int .i64 g.moreE ∧ L' = [(s, row 122 (sgV d g.more))]) :=
 (seg_Grow (d := d) hg).mono (by
  rintro v J L' _ ⟨h1, ⟨h2, h3, h4⟩ | ⟨h2, h3, h4⟩⟩
  ·have h2 : g.full := h2
   exact ⟨h1, by rw [h3]; unfold Sg.moreE; rw [if_pos h2], by rw [h4]; unfold Sg.more; rw [if_pos h2]⟩
  ·have h2 : ¬ g.full := h2
   exact ⟨h1, by rw [h3]; unfold Sg.moreE; rw [if_neg h2], by rw [h4]; unfold Sg.more; rw [if_neg h2]⟩)
def Lg.setG (x : Lg) (g : Sg) : Lg := { x with g := g }
def Lg.send1 (x : Lg) : Lg := { x with sent := x.sent + 1 }
def Lg.setW (x : Lg) (m : Nat) : Lg := { x with wr := m }
/-- With a segment more, if it is needed. -/
def Lg.grown (x : Lg) : Lg := if x.sent = x.g.stop * 8 then x.setG x.g.more else x
def fwork (n : Nat) (x : Lg) (y : Dk) (z : Fl) : Bool × Lg × Dk × Fl :=
 if z.tpl ≤ x.sent then (if y.off = true then (true, x, y, z.fin 0 4) else (false, x, y.sync, { z with at_ := 2 }))
 else if x.sent = x.g.stop * 8 ∧ x.g.full then (true, x, y, z.fin 0 3)
 else if (pwrt y n x.grown.g (x.part x.sent)).2 ≠ 0 then (true, x.grown, (pwrt y n x.grown.g (x.part x.sent)).1, z.fin 0 (pwrt y n x.grown.g (x.part x.sent)).2)
 else (false, x.grown.send1, (pwrt y n x.grown.g (x.part x.sent)).1, z)
def fstays (x : Lg) (z : Fl) : Lg × Fl := (x.setW (max x.wr z.tno), z.fin (max x.wr z.tno) 0)
def fstep (n : Nat) (x : Lg) (y : Dk) (z : Fl) : Bool × Lg × Dk × Fl := match z.at_ with
 | 0 => ((fbegin x z).1, x, y, (fbegin x z).2)
 | 1 => fwork n x y z
 | 2 => (true, (fstays x z).1, y, (fstays x z).2)
 | _ => (true, x, y, z)
structure Fl.ok (x : Lg) (z : Fl) : Prop where
 a1 : z.at_ = 1 ∨ z.at_ = 2 → x.base ≤ z.tno ∧ z.tno ≤ x.no ∧ z.tpl = x.endP (z.tno - x.base)
 a2 : z.at_ = 2 → z.tpl ≤ x.sent
theorem Lg.ok.setG {n : Nat} {x : Lg} (ok : x.ok n) (hn8 : n ≤ 8192) (h : ¬ x.g.full) : (x.setG x.g.more).ok n := by
 have e : x.g.more = ⟨x.g.slots, x.g.first, x.g.stop + 1⟩ := if_neg h
 rw [e]
 have h1 := ok.st; have h2 := ok.g.fs; have h3 := ok.g.sb; have h4 := ok.fb; have h5 := ok.g.sn
 unfold Sg.full at h
 exact ⟨⟨ok.g.s4, ok.g.sn, by show x.g.first ≤ x.g.stop + 1; omega, by show x.g.stop + 1 ≤ _; have := ok.g.sn; omega⟩, ok.fb, by show x.g.stop + 1 ≤ x.g.first + x.g.slots; omega, ok.era, ok.m1, ok.m2, ok.w1, ok.w2, ok.nb, ok.pb, ok.s1, ok.s2⟩
theorem Lg.ok.send1 {n : Nat} {x : Lg} (ok : x.ok n) (h : x.sent < x.pl) : x.send1.ok n := ⟨ok.g, ok.fb, ok.st, ok.era, ok.m1, ok.m2, ok.w1, ok.w2, ok.nb, ok.pb, by show x.endP (x.wr - x.base) ≤ x.sent + 1; have := ok.s1; omega, h⟩
theorem Lg.ok.setW {n : Nat} {x : Lg} (ok : x.ok n) {t : Nat} (h1 : x.base ≤ t) (h2 : t ≤ x.no) (h3 : x.endP (t - x.base) ≤ x.sent) : (x.setW (max x.wr t)).ok n := by
 refine ⟨ok.g, ok.fb, ok.st, ok.era, ok.m1, ok.m2, ?_, ?_, ok.nb, ok.pb, ?_, ok.s2⟩
 ·show x.base ≤ max x.wr t; have := ok.w1; omega
 ·show max x.wr t ≤ x.no; have := ok.w2; omega
 ·show x.endP (max x.wr t - x.base) ≤ x.sent
  rcases Nat.le_total x.wr t with h | h
  ·rw [Nat.max_eq_right h]; exact h3
  ·rw [Nat.max_eq_left h]; exact ok.s1
theorem Fl.ok.tpl {n : Nat} {x : Lg} {z : Fl} (h : z.ok x) (h1 : z.at_ = 1) : z.tpl ≤ x.pl := by rw [(h.a1 (.inl h1)).2.2]; exact x.endP_pl _
theorem Lg.lo_sent {n : Nat} {x : Lg} (ok : x.ok n) : x.endP (x.lo - x.base) ≤ x.sent := Nat.le_trans (x.endP_mono (by unfold Lg.lo; omega)) ok.s1
theorem log_NewFlush {I : Imm} {l : Nat} : Spec Tryz.prog 93 [.pointer (some ⟨l, 0, none⟩)] I [] (fun v J L' => I = J ∧ ∃ f, v = .pointer (some ⟨f, 0, none⟩) ∧ L' = [(f, row 225 (flV l f ⟨0, 0, 0, 0, 1⟩))]) := by
 refine Spec.of Tryz.func93 rfl Tryz.ntmps93 (Nat.le_of_ble_eq_true rfl) (fun F => ?_)
 try simp only [nf]
 dsimp only [argsEnv]
 refine WP.seq ?_; refine WP.region [0] rfl ?_; refine WP.mv rfl rfl ?_; refine WP.nil (WP.next (WP.seq ?_))
 refine WP.region [0, 1, 2, 3] rfl ?_; refine WP.mv rfl rfl ?_; refine WP.vl rfl (Yld.buildS (pl := [(0, 0, 1), (4, 5, 1)]) rfl ty_zr_225 ty_zd_225 zK rfl (vs := [_, _]) rfl (segs := [(0, [_]), (5, [_])]) rfl rfl zS) ?_; refine WP.loud rfl rfl ?_; refine Op.box rfl rfl rfl rfl rfl (fun f => ?_)
 refine WP.mv rfl rfl ?_; refine WP.nil ?_; refine WP.sub [(0, _), (2, _), (3, _)] ?_ ⟨rfl, rfl, rfl, trivial⟩
 refine WP.next (WP.seq ?_)
 refine WP.region [0, 1, 2, 3, 4, 5] rfl ?_; iterate 2 refine WP.mv rfl rfl ?_
 refine WP.vl rfl (Yld.makeFunc rfl (vs := [_]) (us := []) rfl rfl) ?_; refine WP.vl rfl (Yld.nilCheck rfl rfl) ?_; refine WP.vl rfl (Yld.fieldAddr rfl ty_fd_225_1 rfl) ?_; refine WP.loud rfl rfl ?_; refine Op.s1 rfl rfl ty_sz_26 rfl rfl rfl ?_; refine WP.nil ?_; refine WP.sub [(0, _), (2, _), (3, _)] ?_ ⟨rfl, rfl, rfl, trivial⟩
 refine WP.next (WP.seq ?_)
 refine WP.region [0, 1] rfl ?_; iterate 2 refine WP.mv rfl rfl ?_
 refine WP.nil ?_; refine WP.sub [(0, _), (2, _), (3, _)] ?_ ⟨rfl, rfl, rfl, trivial⟩
 refine WP.next (WP.ret ?_)
 refine WP.fn .ret (.inr rfl) (res1 rfl rfl) [(f, row 225 (flV l f ⟨0, 0, 0, 0, 1⟩))] (Imm.le_refl _) ?_; exact ⟨rfl, f, rfl, rfl⟩

theorem flush_end {I : Imm} {l f m : Nat} {e : Int} {z : Fl} : Spec Tryz.prog 118 [.pointer (some ⟨f, 0, none⟩), .int .i64 (m : Int), .int .i64 e] I [(f, row 225 (flV l f z))] (fun v J L' => v = .bool true ∧ I = J ∧ L' = [(f, row 225 (flV l f (z.fin m e)))]) := by
 refine Spec.of Tryz.func118 rfl Tryz.ntmps118 (Nat.le_of_ble_eq_true rfl) (fun F => ?_)
 try simp only [nf]
 dsimp only [argsEnv]
 refine WP.seq ?_; refine WP.region [0] rfl ?_; refine WP.mv rfl rfl ?_; refine WP.nil (WP.next (WP.seq ?_))
 refine WP.region [0, 1, 2, 3, 4, 5, 6, 7, 8, 9, 10, 11, 12, 13] rfl ?_; iterate 5 refine WP.mv rfl rfl ?_
 refine WP.vl rfl (Yld.nilCheck rfl rfl) ?_; refine WP.vl rfl (Yld.fieldAddr rfl ty_fd_225_3 rfl) ?_; refine WP.loud rfl rfl ?_; refine Op.s1 rfl rfl ty_sz_3 rfl rfl rfl ?_; refine WP.vl rfl (Yld.nilCheck rfl rfl) ?_; refine WP.vl rfl (Yld.fieldAddr rfl ty_fd_225_4 rfl) ?_; refine WP.loud rfl rfl ?_; refine Op.s1 rfl rfl ty_sz_27 rfl rfl rfl ?_; refine WP.vl rfl (Yld.nilCheck rfl rfl) ?_; refine WP.vl rfl (Yld.fieldAddr rfl ty_fd_225_1 rfl) ?_; refine WP.loud rfl rfl ?_; refine Op.s1 rfl rfl ty_sz_26 rfl rfl rfl ?_; refine WP.nil ?_; refine WP.sub [(0, _), (1, _), (2, _), (6, _)] ?_ ⟨rfl, rfl, rfl, rfl, trivial⟩
 refine WP.next (WP.seq ?_)
 refine WP.region [0] rfl ?_; refine WP.mv rfl rfl ?_; refine WP.nil (WP.next (WP.ret ?_))
 refine WP.fn .ret (.inr rfl) (res1 rfl rfl) [(f, row 225 (flV l f (z.fin m e)))] (Imm.le_refl _) ?_; exact ⟨rfl, rfl, rfl⟩

theorem flush_Upto {I : Imm} {l f : Nat} {z : Fl} : Spec Tryz.prog 96 [.pointer (some ⟨f, 0, none⟩)] I [(f, row 225 (flV l f z))] (fun v J L' => v = .tuple #[.int .i64 (z.n : Int), .int .i64 z.e] ∧ I = J ∧ L' = [(f, row 225 (flV l f z))]) := by
 refine Spec.of Tryz.func96 rfl Tryz.ntmps96 (Nat.le_of_ble_eq_true rfl) (fun F => ?_)
 try simp only [nf]
 dsimp only [argsEnv]
 refine WP.seq ?_; refine WP.region [0, 1] rfl ?_; iterate 2 refine WP.mv rfl rfl ?_
 refine WP.nil (WP.next (WP.seq ?_))
 refine WQ.startAll Tryzmixed zK _ rfl ?_; refine WQ.val rfl rfl rfl (Yld.move rfl rfl) ?_; refine WQ.val rfl rfl rfl (Yld.nilCheck rfl rfl) ?_; refine WQ.val rfl rfl rfl (Yld.fieldAddr rfl ty_fd_225_3 rfl) ?_; refine WQ.val rfl rfl rfl (Yld.ld (v := .int .i64 (z.n : Int)) rfl ty_sc_3 rfl rfl) ?_; refine WQ.val rfl rfl rfl (Yld.move rfl rfl) ?_; refine WQ.val rfl rfl rfl (Yld.nilCheck rfl rfl) ?_; refine WQ.val rfl rfl rfl (Yld.fieldAddr rfl ty_fd_225_4 rfl) ?_; refine WQ.val rfl rfl rfl (Yld.ld (v := .int .i64 z.e) rfl ty_sc_27 rfl rfl) ?_; iterate 2 refine WQ.val rfl rfl rfl (Yld.assign rfl rfl) ?_
 refine WQ.nil ?_; refine WP.sub [(0, _), (2, _), (3, _)] ?_ ⟨rfl, rfl, rfl, trivial⟩
 refine WP.next (WP.ret ?_)
 refine WP.fn .ret (.inr rfl) (res2 rfl rfl rfl) [(f, row 225 (flV l f z))] (Imm.le_refl _) ?_; exact ⟨rfl, rfl, rfl⟩


end Go.Hp
