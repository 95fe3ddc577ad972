import Derived.Test.YtcnfcdlapbjgeaaLogB
set_option linter.unusedVariables false
set_option linter.unusedSimpArgs false
namespace Go.Hp
open Go Go.Proofs

theorem WP.share1 {n : Nat} {K : Act → World → Prop} {E : Env} {I : Imm} {L L1 : Chunks} {b : Nat} {o : Obj} (hr : Take L [(b, o)] L1) (h : ∀ J : Imm, I.le J → J.blk b = some o → WP n K E J L1) : WP n K E I L :=
 WP.perm _ hr.perm (WP.share h)
theorem Op.mapUpdateR {P : Program} {n : Nat} {E : Env} {I : Imm} {L L1 : Chunks} {Q : Exit → Act → World → Prop} {K : Act → World → Prop} {o : Oper} {t k e : TypeId} {x y z : Operand} {b : Nat} {ob : Obj} {l : List (Int × Value)} {a : Int} {v : Value} (hop : o.op = .mapUpdate t x y z) (ht : mapTy P t k e = true) (hd : o.dst = none) (hx : E.ev x = some (.map (some b))) (hy : E.ev y = some (.int .i64 a)) (hz : E.ev z = some v) (hm : MapObj l ob)
  (hr : Take L [(b, ob)] L1) (h : ∀ o', MapObj (aput l a v) o' → WP n K E I ((b, o') :: L1)) : WP n (fun a w => o.wp P a w K Q) E I L :=
 WP.perm _ hr.perm (Op.mapUpdate (L' := fun o' => (b, o') :: L1) hop ht hd hx hy hz hm (fun o' => Upd.head) h)
theorem Op.deleteR {P : Program} {n : Nat} {E : Env} {I : Imm} {L L1 : Chunks} {Q : Exit → Act → World → Prop} {K : Act → World → Prop} {o : Oper} {t k e : TypeId} {x y : Operand} {b : Nat} {ob : Obj} {l : List (Int × Value)} {a : Int} (hop : o.op = .call { callee := .builtin .delete, args := #[x, y], argTypes := #[t, k] }) (ht : mapTy P t k e = true) (hd : o.dst = none) (hx : E.ev x = some (.map (some b))) (hy : E.ev y = some (.int .i64 a)) (hm : MapObj l ob)
  (hr : Take L [(b, ob)] L1) (h : ∀ o', MapObj (adel l a) o' → WP n K E I ((b, o') :: L1)) : WP n (fun a w => o.wp P a w K Q) E I L :=
 WP.perm _ hr.perm (Op.delete (L' := fun o' => (b, o') :: L1) hop ht hd hx hy hm (fun o' => Upd.head) h)
theorem log_Head {I : Imm} {l s d n : Nat} {x : Lg} {y : Dk} {L : Chunks} (hl : IsLog I l s d n x y L) : Spec Try.prog 11 [.pointer (some ⟨l, 0, none⟩)] I L (fun v J L' => v = .agg #[.int .i64 (x.no : Int), .int .i64 (x.pl : Int)] ∧ I = J ∧ L = L') := by
 cases hl with
 | @mk bi ba oi oa li la Ld ok rk mi ma im am hd =>
 refine Spec.of Try.func11 rfl Try.ntmps11 (Nat.le_of_ble_eq_true rfl) (fun F => ?_)
 try simp only [nf]
 dsimp only [argsEnv]
 refine WP.seq ?_
 refine WP.region [0] rfl ?_
 refine WP.loud rfl rfl ?_
 refine Op.alloc rfl rfl rfl ty_zr_29 (fun b2 => ?_)
 refine WP.nil ?_
 refine WP.next ?_
 refine WP.seq ?_
 refine WP.region [0, 1, 2, 3, 4] rfl ?_
 refine WP.mv rfl rfl ?_
 refine WP.vl rfl (Yld.nilCheck rfl rfl) ?_
 refine WP.vl rfl (Yld.fieldAddr rfl ty_fd_87_5 rfl) ?_
 refine WP.vl rfl (Yld.ldg (vs := [.int .i64 (x.no : Int), .int .i64 (x.pl : Int)]) rfl ty_ag_29 rfl rfl rfl) ?_
 refine WP.loud rfl rfl ?_
 refine Op.sA rfl rfl ty_sz_29 rfl rfl rfl rfl rfl ?_
 refine WP.nil ?_
 refine WP.sub [(0, _), (2, _)] ?_ ⟨rfl, rfl, trivial⟩
 refine WP.next ?_
 refine WP.ret ?_
 refine WP.fn .ret (.inr rfl) (resC rfl ty_ag_29 rfl (by repeat (first | exact There.h | exact There.i (by assumption) | apply There.t | apply There.s)) rfl) ((l, row 87 (lgV d s bi ba x)) :: (bi, oi) :: (ba, oa) :: (s, row 108 (sgV d x.g)) :: Ld) (Imm.le_refl _) ?_
 exact ⟨rfl, rfl, rfl⟩

theorem log_Mark {I : Imm} {l s d n : Nat} {x : Lg} {y : Dk} {L : Chunks} (hl : IsLog I l s d n x y L) : Spec Try.prog 31 [.pointer (some ⟨l, 0, none⟩)] I L (fun v J L' => v = .agg #[.int .i64 (x.mno : Int), .int .i64 (x.mpl : Int)] ∧ I = J ∧ L = L') := by
 cases hl with
 | @mk bi ba oi oa li la Ld ok rk mi ma im am hd =>
 refine Spec.of Try.func31 rfl Try.ntmps31 (Nat.le_of_ble_eq_true rfl) (fun F => ?_)
 try simp only [nf]
 dsimp only [argsEnv]
 refine WP.seq ?_
 refine WP.region [0] rfl ?_
 refine WP.loud rfl rfl ?_
 refine Op.alloc rfl rfl rfl ty_zr_29 (fun b2 => ?_)
 refine WP.nil ?_
 refine WP.next ?_
 refine WP.seq ?_
 refine WP.region [0, 1, 2, 3, 4] rfl ?_
 refine WP.mv rfl rfl ?_
 refine WP.vl rfl (Yld.nilCheck rfl rfl) ?_
 refine WP.vl rfl (Yld.fieldAddr rfl ty_fd_87_6 rfl) ?_
 refine WP.vl rfl (Yld.ldg (vs := [.int .i64 (x.mno : Int), .int .i64 (x.mpl : Int)]) rfl ty_ag_29 rfl rfl rfl) ?_
 refine WP.loud rfl rfl ?_
 refine Op.sA rfl rfl ty_sz_29 rfl rfl rfl rfl rfl ?_
 refine WP.nil ?_
 refine WP.sub [(0, _), (2, _)] ?_ ⟨rfl, rfl, trivial⟩
 refine WP.next ?_
 refine WP.ret ?_
 refine WP.fn .ret (.inr rfl) (resC rfl ty_ag_29 rfl (by repeat (first | exact There.h | exact There.i (by assumption) | apply There.t | apply There.s)) rfl) ((l, row 87 (lgV d s bi ba x)) :: (bi, oi) :: (ba, oa) :: (s, row 108 (sgV d x.g)) :: Ld) (Imm.le_refl _) ?_
 exact ⟨rfl, rfl, rfl⟩

theorem log_Written {I : Imm} {l s d n : Nat} {x : Lg} {y : Dk} {L : Chunks} (hl : IsLog I l s d n x y L) : Spec Try.prog 17 [.pointer (some ⟨l, 0, none⟩)] I L (fun v J L' => v = .int .i64 (x.wr : Int) ∧ I = J ∧ L = L') := by
 cases hl with
 | @mk bi ba oi oa li la Ld ok rk mi ma im am hd =>
 refine Spec.of Try.func17 rfl Try.ntmps17 (Nat.le_of_ble_eq_true rfl) (fun F => ?_)
 try simp only [nf]
 dsimp only [argsEnv]
 refine WP.seq ?_
 refine WP.region [0] rfl ?_
 refine WP.mv rfl rfl ?_
 refine WP.nil ?_
 refine WP.next ?_
 refine WP.seq ?_
 refine WP.region [0, 1, 2, 3, 4] rfl ?_
 refine WP.mv rfl rfl ?_
 refine WP.vl rfl (Yld.nilCheck rfl rfl) ?_
 refine WP.vl rfl (Yld.fieldAddr rfl ty_fd_87_7 rfl) ?_
 refine WP.vl rfl (Yld.ld (v := .int .i64 (x.wr : Int)) rfl ty_sc_3 rfl rfl) ?_
 refine WP.mv rfl rfl ?_
 refine WP.nil ?_
 refine WP.sub [(0, _), (2, _)] ?_ ⟨rfl, rfl, trivial⟩
 refine WP.next ?_
 refine WP.ret ?_
 refine WP.fn .ret (.inr rfl) (res1 rfl rfl) ((l, row 87 (lgV d s bi ba x)) :: (bi, oi) :: (ba, oa) :: (s, row 108 (sgV d x.g)) :: Ld) (Imm.le_refl _) ?_
 exact ⟨rfl, rfl, rfl⟩

theorem log_Held {I : Imm} {l s d n : Nat} {x : Lg} {y : Dk} {L : Chunks} (hl : IsLog I l s d n x y L) : Spec Try.prog 19 [.pointer (some ⟨l, 0, none⟩)] I L (fun v J L' => v = .int .i64 ((x.no - x.lo : Nat) : Int) ∧ I = J ∧ L = L') := by
 cases hl with
 | @mk bi ba oi oa li la Ld ok rk mi ma im am hd =>
 refine Spec.of Try.func19 rfl Try.ntmps19 (Nat.le_of_ble_eq_true rfl) (fun F => ?_)
 try simp only [nf]
 dsimp only [argsEnv]
 refine WP.seq ?_
 refine WP.region [0] rfl ?_
 refine WP.mv rfl rfl ?_
 refine WP.nil ?_
 refine WP.next ?_
 refine WP.seq ?_
 refine WP.region [0, 1, 2, 3, 4, 5] rfl ?_
 refine WP.mv rfl rfl ?_
 refine WP.vl rfl (Yld.nilCheck rfl rfl) ?_
 refine WP.vl rfl (Yld.fieldAddr rfl ty_fd_87_3 rfl) ?_
 refine WP.vl rfl (Yld.ld (v := .map (some bi)) rfl ty_sc_85 rfl rfl) ?_
 refine WP.vl rfl (Yld.lenMap rfl ty_mp_85 rfl (by repeat (first | exact There.h | exact There.i (by assumption) | apply There.t | apply There.s)) mi) ?_
 rw [im.ln]
 refine WP.mv rfl rfl ?_
 refine WP.nil ?_
 refine WP.sub [(0, _), (2, _)] ?_ ⟨rfl, rfl, trivial⟩
 refine WP.next ?_
 refine WP.ret ?_
 refine WP.fn .ret (.inr rfl) (res1 rfl rfl) ((l, row 87 (lgV d s bi ba x)) :: (bi, oi) :: (ba, oa) :: (s, row 108 (sgV d x.g)) :: Ld) (Imm.le_refl _) ?_
 exact ⟨rfl, rfl, rfl⟩

theorem rec_end {I : Imm} {era : Int} {no place : Nat} {r : Rc} (hr : RcOk I era no place r) (hpl : place ≤ 1152921504606846976) : Spec Try.prog 38 [.pointer (some ⟨r.blk, 0, none⟩)] I [] (fun v J L' => v = .agg #[.int .i64 (no : Int), .int .i64 ((place + r.n : Nat) : Int)] ∧ I = J ∧ L' = []) := by
 refine Spec.of Try.func38 rfl Try.ntmps38 (Nat.le_of_ble_eq_true rfl) (fun F => ?_)
 try simp only [nf]
 dsimp only [argsEnv]
 refine WP.seq ?_
 refine WP.region [0] rfl ?_
 refine WP.loud rfl rfl ?_
 refine Op.alloc rfl rfl rfl ty_zr_29 (fun b2 => ?_)
 refine WP.nil ?_
 refine WP.next ?_
 refine WP.seq ?_
 refine WQ.start Trymixed 15 (by kernel_rfl) _ rfl [15] rfl ?_
 refine WQ.val rfl rfl rfl (Yld.move rfl rfl) ?_
 refine WQ.val rfl rfl rfl (Yld.nilCheck rfl rfl) ?_
 refine WQ.val rfl rfl rfl (Yld.fieldAddr rfl ty_fd_92_0 rfl) ?_
 refine WQ.val rfl rfl rfl (Yld.load (v := .int .i64 (no : Int)) rfl ty_sc_3 rfl (There.i hr.hb) rfl) ?_
 refine WQ.val rfl rfl rfl (Yld.move rfl rfl) ?_
 refine WQ.val rfl rfl rfl (Yld.nilCheck rfl rfl) ?_
 refine WQ.val rfl rfl rfl (Yld.fieldAddr rfl ty_fd_92_2 rfl) ?_
 refine WQ.val rfl rfl rfl (Yld.load (v := .int .i64 (place : Int)) rfl ty_sc_3 rfl (There.i hr.hb) rfl) ?_
 refine WQ.val rfl rfl rfl (Yld.move rfl rfl) ?_
 refine WQ.val rfl rfl rfl (Yld.nilCheck rfl rfl) ?_
 refine WQ.val rfl rfl rfl (Yld.fieldAddr rfl ty_fd_92_4 rfl) ?_
 refine WQ.val rfl rfl rfl (Yld.load (v := r.vp) rfl ty_sc_90 rfl (There.i hr.hb) rfl) ?_
 refine WQ.val rfl rfl rfl (Yld.lenR hr.vp.rd rfl ty_sl_90 rfl) ?_
 refine WQ.val rfl rfl rfl (Yld.add64 rfl rfl rfl (by have := hr.len; have := hr.n64; omega)) ?_
 rw [hr.len, show (place : Int) + (r.n : Int) = ((place + r.n : Nat) : Int) by omega]
 refine WQ.val rfl rfl rfl (Yld.buildS (pl := [(0, 0, 1), (1, 1, 1)]) rfl ty_zr_29 ty_zd_29 (by kernel_rfl) rfl (vs := [_, _]) rfl (segs := [(0, [_]), (1, [_])]) rfl rfl (by repeat (first | exact SetSeg.nil | apply SetSeg.one | exact SetAt.zero | apply SetAt.succ))) ?_
 refine WQ.nil ?_
 refine WP.loud rfl rfl ?_
 refine Op.sA rfl rfl ty_sz_29 rfl rfl rfl rfl rfl ?_
 refine WP.nil ?_
 refine WP.sub [(0, _), (2, _)] ?_ ⟨rfl, rfl, trivial⟩
 refine WP.next ?_
 refine WP.ret ?_
 refine WP.fn .ret (.inr rfl) (resC rfl ty_ag_29 rfl (by repeat (first | exact There.h | exact There.i (by assumption) | apply There.t | apply There.s)) rfl) [] (Imm.le_refl _) ?_
 exact ⟨rfl, rfl, rfl⟩


def Lg.ende (x : Lg) : Int := (((x.g.first + x.g.slots) * 8 : Nat) : Int)
def Lg.room (x : Lg) (k : Int) : Int := if k = 4 ∨ k = 5 then x.ende else if k = 1 then x.ende - 40 else x.ende - 16
theorem Lg.room_le (x : Lg) (k : Int) : x.room k ≤ x.ende := by unfold Lg.room; split; omega; split <;> omega
theorem log_room {I : Imm} {l s d n bi ba : Nat} {x : Lg} {k : Int} (ok : x.ok n) (hn8 : n ≤ 8192) : Spec Try.prog 39 [.pointer (some ⟨l, 0, none⟩), .int .i64 k] I [(l, row 87 (lgV d s bi ba x)), (s, row 108 (sgV d x.g))] (fun v J L' => v = .int .i64 (x.room k) ∧ I = J ∧ L' = [(l, row 87 (lgV d s bi ba x)), (s, row 108 (sgV d x.g))]) := by
 refine Spec.of Try.func39 rfl Try.ntmps39 (Nat.le_of_ble_eq_true rfl) (fun F => ?_)
 try simp only [nf]
 dsimp only [argsEnv]
 refine WP.seq ?_
 refine WP.region [0] rfl ?_
 refine WP.mv rfl rfl ?_
 refine WP.nil ?_
 refine WP.next ?_
 refine WP.seq ?_
 refine WQ.startAll Trymixed (by kernel_rfl) _ rfl ?_
 refine WQ.val rfl rfl rfl (Yld.move rfl rfl) ?_
 refine WQ.val rfl rfl rfl (Yld.nilCheck rfl rfl) ?_
 refine WQ.val rfl rfl rfl (Yld.fieldAddr rfl ty_fd_87_1 rfl) ?_
 refine WQ.val rfl rfl rfl (Yld.ld (v := .pointer (some ⟨s, 0, none⟩)) rfl ty_sc_33 rfl rfl) ?_
 refine WQ.call (seg_First (d := d) (n := n) (g := x.g)) (by rintro v' J L1 ⟨rfl, rfl, rfl⟩; exact ⟨rfl, rfl, rfl⟩) rfl Try.func44 rfl rfl rfl rfl rfl (by repeat (first | exact Take.nil | with_reducible apply Take.cons | apply Take.app | exact Rm.chunk | exact Rm.here | exact Rm.nil0 | apply Rm.skip | apply Rm.skipS | (focus (apply Take.all; (repeat (first | exact Rm.chunk | exact Rm.here | exact Rm.nil0 | apply Rm.skip | apply Rm.skipS)); done)) | apply Take.cons)) ?_
 refine WQ.val rfl rfl rfl (Yld.move rfl rfl) ?_
 refine WQ.val rfl rfl rfl (Yld.nilCheck rfl rfl) ?_
 refine WQ.val rfl rfl rfl (Yld.fieldAddr rfl ty_fd_87_1 rfl) ?_
 refine WQ.val rfl rfl rfl (Yld.ld (v := .pointer (some ⟨s, 0, none⟩)) rfl ty_sc_33 rfl rfl) ?_
 refine WQ.call (seg_Slots (d := d) (n := n) (g := x.g)) (by rintro v' J L1 ⟨rfl, rfl, rfl⟩; exact ⟨rfl, rfl, rfl⟩) rfl Try.func45 rfl rfl rfl rfl rfl (by repeat (first | exact Take.nil | with_reducible apply Take.cons | apply Take.app | exact Rm.chunk | exact Rm.here | exact Rm.nil0 | apply Rm.skip | apply Rm.skipS | (focus (apply Take.all; (repeat (first | exact Rm.chunk | exact Rm.here | exact Rm.nil0 | apply Rm.skip | apply Rm.skipS)); done)) | apply Take.cons)) ?_
 refine WQ.val rfl rfl rfl (Yld.add64 rfl rfl rfl (by have := ok.fb; have := ok.st; have := ok.g.fs; have := ok.g.sn; have := ok.g.sb; omega)) ?_
 refine WQ.val rfl rfl rfl (Yld.mul64 rfl rfl rfl (by have := ok.fb; have := ok.st; have := ok.g.fs; have := ok.g.sn; have := ok.g.sb; omega)) ?_
 refine WQ.val rfl rfl rfl (Yld.assign rfl rfl) ?_
 refine WQ.nil ?_
 refine WP.sub [(0, _), (1, _), (4, _), (5, _)] ?_ ⟨rfl, rfl, rfl, rfl, trivial⟩
 refine WP.next ?_
 refine WP.seq ?_
 refine WP.seq ?_
 refine WP.region [0] rfl ?_
 refine WP.mv rfl rfl ?_
 refine WP.nil ?_
 refine WP.next ?_
 refine WP.block ?_
 refine WP.seq ?_
 refine WP.seq ?_
 refine WP.region [0, 1] rfl ?_
 refine WP.split rfl rfl rfl rfl (Yld.eql rfl rfl rfl) (fun h4 => ?_) (fun h4 => ?_)
 ·refine WP.mv rfl rfl ?_
  refine WP.nil ?_
  refine WP.sub [(0, _), (1, _), (4, _), (5, _), (18, _), (19, _)] ?_ ⟨rfl, rfl, rfl, rfl, rfl, rfl, trivial⟩
  refine WP.next ?_
  refine WP.condT rfl ?_
  refine WP.skip ?_
  refine WP.next ?_
  refine WP.condT rfl ?_
  refine WP.seq ?_
  refine WP.region [0, 1] rfl ?_
  iterate 2 refine WP.mv rfl rfl ?_
  refine WP.nil ?_
  refine WP.sub [(0, _), (1, _), (4, _), (5, _), (18, _), (19, _)] ?_ ⟨rfl, rfl, rfl, rfl, rfl, rfl, trivial⟩
  refine WP.next ?_
  refine WP.ret ?_
  refine WP.fn .ret (.inr rfl) (res1 rfl rfl) [(l, row 87 (lgV d s bi ba x)), (s, row 108 (sgV d x.g))] (Imm.le_refl _) ?_
  have e : x.room k = _ := if_pos (.inl (by omega))
  rw [e]; exact ⟨congrArg (fun z : Int => Value.int .i64 z) (by unfold Lg.ende; omega), rfl, rfl⟩
 ·refine WP.mv rfl rfl ?_
  refine WP.nil ?_
  refine WP.sub [(0, _), (1, _), (4, _), (5, _), (18, _), (19, _)] ?_ ⟨rfl, rfl, rfl, rfl, rfl, rfl, trivial⟩
  refine WP.next ?_
  refine WP.condF rfl ?_
  refine WP.region [0, 1] rfl ?_
  refine WP.split rfl rfl rfl rfl (Yld.eql rfl rfl rfl) (fun h5 => ?_) (fun h5 => ?_)
  ·refine WP.mv rfl rfl ?_
   refine WP.nil ?_
   refine WP.sub [(0, _), (1, _), (4, _), (5, _), (18, _), (19, _)] ?_ ⟨rfl, rfl, rfl, rfl, rfl, rfl, trivial⟩
   refine WP.next ?_
   refine WP.condT rfl ?_
   refine WP.seq ?_
   refine WP.region [0, 1] rfl ?_
   iterate 2 refine WP.mv rfl rfl ?_
   refine WP.nil ?_
   refine WP.sub [(0, _), (1, _), (4, _), (5, _), (18, _), (19, _)] ?_ ⟨rfl, rfl, rfl, rfl, rfl, rfl, trivial⟩
   refine WP.next ?_
   refine WP.ret ?_
   refine WP.fn .ret (.inr rfl) (res1 rfl rfl) [(l, row 87 (lgV d s bi ba x)), (s, row 108 (sgV d x.g))] (Imm.le_refl _) ?_
   have e : x.room k = _ := if_pos (.inr (by omega))
   rw [e]; exact ⟨congrArg (fun z : Int => Value.int .i64 z) (by unfold Lg.ende; omega), rfl, rfl⟩
  ·refine WP.mv rfl rfl ?_
   refine WP.nil ?_
   refine WP.sub [(0, _), (1, _), (4, _), (5, _), (18, _), (19, _)] ?_ ⟨rfl, rfl, rfl, rfl, rfl, rfl, trivial⟩
   refine WP.next ?_
   refine WP.condF rfl ?_
   refine WP.seq ?_
   refine WP.region [0, 1] rfl ?_
   refine WP.split rfl rfl rfl rfl (Yld.eql rfl rfl rfl) (fun h1 => ?_) (fun h1 => ?_)
   ·refine WP.mv rfl rfl ?_
    refine WP.nil ?_
    refine WP.sub [(0, _), (1, _), (4, _), (5, _), (18, _), (19, _), (23, _)] ?_ ⟨rfl, rfl, rfl, rfl, rfl, rfl, rfl, trivial⟩
    refine WP.next ?_
    refine WP.condT rfl ?_
    refine WP.seq ?_
    refine WP.region [0, 1, 2, 3] rfl ?_
    refine WP.mv rfl rfl ?_
    refine WP.vl rfl (Yld.sub64 rfl rfl rfl (by have := ok.fb; have := ok.st; have := ok.g.fs; have := ok.g.sn; have := ok.g.sb; omega)) ?_
    refine WP.vl rfl (Yld.sub64 rfl rfl rfl (by have := ok.fb; have := ok.st; have := ok.g.fs; have := ok.g.sn; have := ok.g.sb; omega)) ?_
    refine WP.mv rfl rfl ?_
    refine WP.nil ?_
    refine WP.sub [(0, _), (1, _), (4, _), (5, _), (18, _), (19, _), (23, _)] ?_ ⟨rfl, rfl, rfl, rfl, rfl, rfl, rfl, trivial⟩
    refine WP.next ?_
    refine WP.ret ?_
    refine WP.fn .ret (.inr rfl) (res1 rfl rfl) [(l, row 87 (lgV d s bi ba x)), (s, row 108 (sgV d x.g))] (Imm.le_refl _) ?_
    have e : x.room k = _ := (if_neg (by omega)).trans (if_pos (by omega))
    rw [e]; exact ⟨congrArg (fun z : Int => Value.int .i64 z) (by unfold Lg.ende; omega), rfl, rfl⟩
   ·refine WP.mv rfl rfl ?_
    refine WP.nil ?_
    refine WP.sub [(0, _), (1, _), (4, _), (5, _), (18, _), (19, _), (23, _)] ?_ ⟨rfl, rfl, rfl, rfl, rfl, rfl, rfl, trivial⟩
    refine WP.next ?_
    refine WP.condF rfl ?_
    refine WP.skip ?_
    refine WP.leave ?_
    refine WP.next ?_
    refine WP.seq ?_
    refine WP.region [0, 1, 2] rfl ?_
    refine WP.mv rfl rfl ?_
    refine WP.vl rfl (Yld.sub64 rfl rfl rfl (by have := ok.fb; have := ok.st; have := ok.g.fs; have := ok.g.sn; have := ok.g.sb; omega)) ?_
    refine WP.mv rfl rfl ?_
    refine WP.nil ?_
    refine WP.sub [(0, _), (1, _), (4, _), (5, _), (18, _), (19, _), (23, _)] ?_ ⟨rfl, rfl, rfl, rfl, rfl, rfl, rfl, trivial⟩
    refine WP.next ?_
    refine WP.ret ?_
    refine WP.fn .ret (.inr rfl) (res1 rfl rfl) [(l, row 87 (lgV d s bi ba x)), (s, row 108 (sgV d x.g))] (Imm.le_refl _) ?_
    have e : x.room k = _ := (if_neg (by omega)).trans (if_neg (by omega))
    rw [e]; exact ⟨congrArg (fun z : Int => Value.int .i64 z) (by unfold Lg.ende; omega), rfl, rfl⟩

theorem log_block {I : Imm} {l s d n bi ba p : Nat} {x : Lg} {oa : Obj} {la : List (Int × Value)} (ok : x.ok n) (hn8 : n ≤ 8192) (rk : Recs I x) (ma : MapObj la oa) (am : AMap x x.lo la) (h1 : x.endP (x.lo - x.base) ≤ p) (h2 : p < x.pl) : Spec Try.prog 61 [.pointer (some ⟨l, 0, none⟩), .int .i64 (p : Int)] I [(l, row 87 (lgV d s bi ba x)), (ba, oa)] (fun v J L' => ∃ cs, v = .agg cs.toArray ∧ RPt J (x.part p) cs ∧ I = J ∧ L' = [(l, row 87 (lgV d s bi ba x)), (ba, oa)]) := by
 obtain ⟨k, hk, hk1, hk2⟩ := x.find (by unfold Lg.endP at h1; omega) h2
 have hlk : x.lo ≤ x.base + k := by
  by_cases hc : k < x.lo - x.base
  ·have := x.endP_lt hc hk; omega
  ·omega
 obtain ⟨j, rfl⟩ := Nat.exists_eq_add_of_le hk1
 have hr := rk k hk
 have hj : j < x.rs[k].lp.length := by rw [hr.len]; omega
 obtain ⟨bp, kp, cp, Tp, fp, arp, hvp, hbp, hsg, _⟩ := hr.vp.cells hj
 have hdt := hr.vp.data _ (List.getElem_mem hj)
 refine Spec.of Try.func61 rfl Try.ntmps61 (Nat.le_of_ble_eq_true rfl) (fun F => ?_)
 try simp only [nf]
 dsimp only [argsEnv]
 refine WP.seq ?_
 refine WP.region [0] rfl ?_
 refine WP.loud rfl rfl ?_
 refine Op.alloc rfl rfl rfl ty_zr_52 (fun b4 => ?_)
 refine WP.nil ?_
 refine WP.next ?_
 refine WP.seq ?_
 refine WP.region [0, 1, 2, 3, 4, 5, 6] rfl ?_
 refine WP.mv rfl rfl ?_
 refine WP.vl rfl (Yld.nilCheck rfl rfl) ?_
 refine WP.vl rfl (Yld.fieldAddr rfl ty_fd_87_4 rfl) ?_
 refine WP.vl rfl (Yld.ld (v := .map (some ba)) rfl ty_sc_85 rfl rfl) ?_
 refine WP.mv rfl rfl ?_
 refine WP.vl rfl (Yld.lookup rfl ty_mp_85 ty_ez_88 rfl rfl (by repeat (first | exact There.h | exact There.i (by assumption) | apply There.t | apply There.s)) ma) ?_
 rw [am.at1 k hk hlk j (by omega), Option.getD_some]
 refine WP.mv rfl rfl ?_
 refine WP.nil ?_
 refine WP.sub [(0, _), (1, _), (4, _), (5, _)] ?_ ⟨rfl, rfl, rfl, rfl, trivial⟩
 refine WP.next ?_
 refine WP.seq ?_
 refine WQ.start Trymixed 12 (by kernel_rfl) _ rfl [12] rfl ?_
 refine WQ.val rfl rfl rfl (Yld.move rfl rfl) ?_
 refine WQ.val rfl rfl rfl (Yld.nilCheck rfl rfl) ?_
 refine WQ.val rfl rfl rfl (Yld.fieldAddr rfl ty_fd_92_4 rfl) ?_
 refine WQ.val rfl rfl rfl (Yld.load (v := x.rs[k].vp) rfl ty_sc_90 rfl (There.i hr.hb) rfl) ?_
 refine WQ.val rfl rfl rfl (Yld.move rfl rfl) ?_
 refine WQ.val rfl rfl rfl (Yld.move rfl rfl) ?_
 refine WQ.val rfl rfl rfl (Yld.nilCheck rfl rfl) ?_
 refine WQ.val rfl rfl rfl (Yld.fieldAddr rfl ty_fd_92_2 rfl) ?_
 refine WQ.val rfl rfl rfl (Yld.load (v := .int .i64 (x.endP k : Int)) rfl ty_sc_3 rfl (There.i hr.hb) rfl) ?_
 refine WQ.val rfl rfl rfl (Yld.sub64 rfl rfl rfl (by have := ok.pb; have := ok.fb; have := ok.g.sn; have := x.endP_pl k; omega)) ?_
 rw [show ((x.endP k + j : Nat) : Int) - (x.endP k : Int) = (j : Int) by omega, hvp]
 refine WQ.val rfl rfl rfl (Yld.indexAddr (i := j) rfl ty_sl_90 rfl rfl hj) ?_
 refine WQ.val rfl rfl rfl (Yld.loadAggC rfl ty_ag_52 rfl (There.i hbp) hsg rfl) ?_
 refine WQ.nil ?_
 refine WP.loud rfl rfl ?_
 refine Op.sA rfl rfl ty_sz_52 rfl rfl rfl (ptV_one (by obtain ⟨A', c', e, _⟩ := hdt; exact ⟨_, _, _, e⟩)) rfl ?_
 refine WP.nil ?_
 refine WP.sub [(0, _), (1, _), (4, _), (5, _)] ?_ ⟨rfl, rfl, rfl, rfl, trivial⟩
 refine WP.next ?_
 refine WP.ret ?_
 refine WP.fn .ret (.inr rfl) (resC rfl ty_ag_52 rfl (by repeat (first | exact There.h | exact There.i (by assumption) | apply There.t | apply There.s)) rfl) [(l, row 87 (lgV d s bi ba x)), (ba, oa)] (Imm.le_refl _) ?_
 rw [x.part_at hk (by omega), ← hr.at_ hj]
 exact ⟨_, rfl, ⟨_, rfl, hdt⟩, rfl, rfl⟩


end Go.Hp
