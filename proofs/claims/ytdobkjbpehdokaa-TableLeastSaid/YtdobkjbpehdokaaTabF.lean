import Derived.Test.YtdobkjbpehdokaaTabE
set_option linter.unusedVariables false
set_option linter.unusedSimpArgs false
namespace Go.Hp
open Go Go.Proofs

theorem Tb.ok.tok {J : Imm} {x : Tb} (h : x.ok J) (n : Nat) : Tb.ok J { x with tok := n } := ⟨h.n1, h.n2, h.ent, h.nx⟩
theorem Ent.sized.tok {e : Ent} (h : e.sized) (n : Nat) : Ent.sized { e with tok := n } := ⟨h.nodes, h.data, h.with_⟩
theorem Yld.addU1 {P : Program} {n : Nat} {E : Env} {V : Nat → Obj → Prop} {o : Oper} {X Y : Operand} {t t' : TypeId} (a : Nat) (hop : o.op = .binOp .add t X Y t') (hx : E.ev X = some (.int .u64 (a : Int))) (hy : E.ev Y = some (.int .u64 1)) (h : a + 1 < 18446744073709551616) : Yld P n E V o (.int .u64 ((a + 1 : Nat) : Int)) := by
  have := Yld.add (P := P) (n := n) (V := V) hop hx hy
  have e : IntKind.u64.wrap ((a : Int) + 1) = ((a + 1 : Nat) : Int) := by
    simp only [IntKind.wrap, IntKind.signed, IntKind.bits]
    first | (simp; omega) | omega
  rwa [e] at this
/-- One more chunk, all of it empty. -/
def Tb.grow (x : Tb) (b : Nat) : Tb := { x with cks := x.cks ++ [(b, fun _ => none)] }
theorem Tb.grow_get (x : Tb) (b : Nat) (p : Int) : (x.grow b).get p = x.get p := by
  unfold Tb.get
  by_cases h1 : p < 1
  · rw [if_pos h1, if_pos h1]
  · rw [if_neg h1, if_neg h1]
    simp only [Tb.grow]
    by_cases h2 : ((p - 1) / 16).toNat < x.cks.length
    · rw [List.getElem?_append_left h2]
    · rw [List.getElem?_append_right (by omega), List.getElem?_eq_none (l := x.cks) (by omega)]
      rcases hh : ((p - 1) / 16).toNat - x.cks.length with _ | k <;> rfl
theorem Tb.grow_size (x : Tb) (b : Nat) : (x.grow b).size = x.size + 16 := by simp [Tb.size, Tb.grow]; omega
theorem Tb.grow_ok {J : Imm} {x : Tb} (h : x.ok J) (b : Nat) (hs : x.size < 512) : (x.grow b).ok J where
  n1 := by simp [Tb.grow]
  n2 := by simp only [Tb.grow, List.length_append, List.length_cons, List.length_nil]; unfold Tb.size at hs; omega
  ent := fun c hc j e he => by
    rcases List.mem_append.1 hc with hc | hc
    · exact h.ent c hc j e he
    · cases List.mem_singleton.1 hc; cases he
  nx := h.nx
def Tb.setAt (x : Tb) (i j : Nat) (hi : i < x.cks.length) (o : Option (Nat × Ent)) : Tb := { x with cks := x.cks.set i (x.cks[i].1, putSl x.cks[i].2 j o) }
theorem Tb.setAt_get {x : Tb} {i j : Nat} (hi : i < x.cks.length) {p : Int} (hp : p = (i : Int) * 16 + j + 1) (hj : j < 16) (o : Option (Nat × Ent)) (k : Int) : (x.setAt i j hi o).get k = if k = p then o else x.get k := by
  by_cases hk : k = p
  · rw [if_pos hk, hk, Tb.get_at (x := x.setAt i j hi o) hp hj (by simpa [Tb.setAt] using hi)]
    simp [Tb.setAt, putSl]
  · rw [if_neg hk]
    by_cases hk1 : 1 ≤ k ∧ k ≤ x.size
    · obtain ⟨i', j', h1, h2, h3⟩ := Tb.split hk1
      rw [Tb.get_at (x := x.setAt i j hi o) h1 h2 (by simpa [Tb.setAt] using h3), Tb.get_at h1 h2 h3]
      simp only [Tb.setAt, List.getElem_set]
      split
      · rename_i e; subst e
        simp only [putSl]; rw [if_neg (by omega)]
      · rfl
    · rw [Tb.get_out (x := x) (by omega), Tb.get_out (by simp only [Tb.size, Tb.setAt, List.length_set] at *; omega)]
theorem Tb.setAt_ok {J : Imm} {x : Tb} (h : x.ok J) {i j : Nat} (hi : i < x.cks.length) {o : Option (Nat × Ent)} (ho : ∀ e, o = some e → entOk J e) : (x.setAt i j hi o).ok J where
  n1 := by simpa [Tb.setAt] using h.n1
  n2 := by simpa [Tb.setAt] using h.n2
  ent := fun c hc k e he => by
    rcases List.mem_or_eq_of_mem_set hc with hc | rfl
    · exact h.ent c hc k e he
    · simp only [putSl] at he
      split at he
      · exact ho e he
      · exact h.ent _ (List.getElem_mem hi) k e he
  nx := h.nx
theorem IsTab.setAt {J : Imm} {t q : Nat} {x : Tb} {vs : Value} {Lv : Chunks} (ok : x.ok J) (ow : Own 103 1 vs (ckps x.cks) x.cks.length Lv) {i j : Nat} (hi : i < x.cks.length) {o : Option (Nat × Ent)} (ho : ∀ e, o = some e → entOk J e) :
    IsTab J t q (x.setAt i j hi o) ((t, row 113 [.pointer (some ⟨q, 0, none⟩), .int .u64 (x.tok : Int), vs, .int .i64 x.next]) :: (Lv ++ (x.cks.set i (x.cks[i].1, putSl x.cks[i].2 j o)).flatMap ckCh)) := by
  have e1 : ckps (x.setAt i j hi o).cks = ckps x.cks := by
    simp only [ckps, Tb.setAt]
    apply List.ext_getElem?
    intro k
    rw [List.getElem?_map, List.getElem?_map, List.getElem?_set]
    split
    · rename_i h; subst h; rw [List.getElem?_eq_getElem hi]; rfl
    · rfl
  have e2 : (x.setAt i j hi o).cks.length = x.cks.length := by simp [Tb.setAt]
  exact IsTab.mk (x := x.setAt i j hi o) (Tb.setAt_ok ok hi ho) (by rw [e1, e2]; exact ow)
structure Tb.Used (x x' : Tb) (p : Int) (e : Ent) : Prop where
  tok : x'.tok = x.tok + 1
  next : x'.next = if x.next < p + 1 then p + 1 else x.next
  s1 : x.size ≤ x'.size
  s2 : p ≤ x'.size
  s3 : x'.size = x.size ∨ (x.size < p ∧ x'.size < p + 16)
  get : ∃ b, ∀ k, x'.get k = if k = p then some (b, { e with tok := x.tok + 1 }) else x.get k
structure TX where
  x : Tb
  L : Chunks
theorem tab_fresh {I : Imm} {t q : Nat} {x : Tb} {L : Chunks} (hd : IsTab I t q x L) {e : Ent} {cs : List Value} (he : REnt I e cs) (hsz : e.sized) (htk : x.tok + 1 < 18446744073709551616) : Spec Try.prog 51 [.pointer (some ⟨t, 0, none⟩), .agg cs.toArray] I L (fun v J L' => ∃ b, v = .pointer (some ⟨b, 0, none⟩) ∧ entOk J (b, { e with tok := x.tok + 1 }) ∧ IsTab J t q ({ x with tok := x.tok + 1 } : Tb) L') := by
  cases hd with | mk ok ow =>
  obtain ⟨bv, cv, spv, rfl, rfl, hcv, hnv⟩ := ow.get (by have := ok.n1; omega)
  have hn1 := ok.n1
  have hn2 := ok.n2
  have he0 := he
  obtain ⟨vn, vw, nv, rfl, hn, hno, hw⟩ := he.ex
  obtain ⟨An, cn, rfl, hcn⟩ := hn.slice'
  obtain ⟨Aw, cw, rfl, hcw⟩ := hw.slice'
  refine Spec.of Try.func51 rfl Try.ntmps51 (Nat.le_of_ble_eq_true rfl) (fun F => ?_)
  try simp only [List.cons_append, List.nil_append, List.append_assoc]
  dsimp only [argsEnv]
  refine WP.seq ?_
  refine WP.region [0, 1] rfl ?_
  refine WP.loud rfl rfl ?_
  refine Op.box rfl rfl rfl rfl rfl (fun b3 => ?_)
  refine WP.val rfl rfl rfl rfl (Yld.assign rfl rfl) ?_
  refine WP.nil ?_
  refine WP.next ?_
  refine WP.seq ?_
  refine WP.region [0, 1, 2, 3, 4, 5, 6, 7] rfl ?_
  refine WP.val rfl rfl rfl rfl (Yld.move rfl rfl) ?_
  refine WP.val rfl rfl rfl rfl (Yld.nilCheck rfl rfl) ?_
  refine WP.val rfl rfl rfl rfl (Yld.fieldAddr rfl ty_fd_113_1 rfl) ?_
  refine WP.val rfl rfl rfl rfl (Yld.load rfl ty_sc_60 rfl (by repeat (first | exact There.h | exact There.i (by assumption) | apply There.t | apply There.s)) rfl) ?_
  refine WP.val rfl rfl rfl rfl (Yld.addU1 x.tok rfl rfl rfl htk) ?_
  refine WP.val rfl rfl rfl rfl (Yld.nilCheck rfl rfl) ?_
  refine WP.val rfl rfl rfl rfl (Yld.fieldAddr rfl ty_fd_113_1 rfl) ?_
  refine WP.loud rfl rfl ?_
  refine Op.store1 rfl rfl ty_sz_60 rfl rfl rfl (by repeat (first | exact Upd.head | apply Upd.tail | apply Upd.tailS)) (by repeat (first | exact SetAt.zero | apply SetAt.succ)) ?_
  refine WP.nil ?_
  refine WP.sub [(0, _), (1, _), (3, _), (4, _)] ?_ ⟨rfl, rfl, rfl, rfl, trivial⟩
  refine WP.next ?_
  refine WP.seq ?_
  refine WP.region [0, 1, 2] rfl ?_
  refine WP.val rfl rfl rfl rfl (Yld.loadAll rfl ty_ag_63 rfl (by repeat (first | exact There.h | exact There.i (by assumption) | apply There.t | apply There.s)) rfl) ?_
  refine WP.loud rfl rfl ?_
  refine Op.call (tab_copied he0 hsz) rfl Try.func47 rfl rfl rfl rfl (by repeat (first | exact Take.nil | with_reducible apply Take.cons | apply Take.app | exact Rm.chunk | exact Rm.here | exact Rm.nil0 | apply Rm.skip | apply Rm.skipS | (focus (apply Take.all; (repeat (first | exact Rm.chunk | exact Rm.here | exact Rm.nil0 | apply Rm.skip | apply Rm.skipS)); done)) | apply Take.cons)) ?_
  rintro v J2 L1 hJ2 ⟨cs2, rfl, hre2, rfl⟩
  try simp only [List.cons_append, List.nil_append, List.append_assoc]
  obtain ⟨vn2, vw2, nv2, rfl, hn2, hno2, hw2⟩ := hre2.ex
  obtain ⟨An2, cn2, rfl, hcn2⟩ := hn2.slice'
  obtain ⟨Aw2, cw2, rfl, hcw2⟩ := hw2.slice'
  refine WP.loud rfl rfl ?_
  refine Op.storeAll rfl rfl ty_sz_63 rfl rfl rfl rfl (by repeat (first | exact Upd.head | apply Upd.tail | apply Upd.tailS)) rfl ?_
  refine WP.nil ?_
  refine WP.sub [(0, _), (1, _), (3, _), (4, _)] ?_ ⟨rfl, rfl, rfl, rfl, trivial⟩
  refine WP.next ?_
  refine WP.seq ?_
  refine WP.region [0, 1, 2, 3, 4, 5] rfl ?_
  refine WP.val rfl rfl rfl rfl (Yld.move rfl rfl) ?_
  refine WP.val rfl rfl rfl rfl (Yld.nilCheck rfl rfl) ?_
  refine WP.val rfl rfl rfl rfl (Yld.fieldAddr rfl ty_fd_113_1 rfl) ?_
  refine WP.val rfl rfl rfl rfl (Yld.load rfl ty_sc_60 rfl (by repeat (first | exact There.h | exact There.i (by assumption) | apply There.t | apply There.s)) rfl) ?_
  refine WP.val rfl rfl rfl rfl (Yld.fieldAddr rfl ty_fd_63_0 rfl) ?_
  refine WP.loud rfl rfl ?_
  refine Op.store1 rfl rfl ty_sz_60 rfl rfl rfl (by repeat (first | exact Upd.head | apply Upd.tail | apply Upd.tailS)) (by repeat (first | exact SetAt.zero | apply SetAt.succ)) ?_
  refine WP.nil ?_
  refine WP.sub [(0, _), (1, _), (3, _), (4, _)] ?_ ⟨rfl, rfl, rfl, rfl, trivial⟩
  refine WP.perm _ (show Take _ [(b3, _)] _ from (by repeat (first | exact Take.nil | with_reducible apply Take.cons | apply Take.app | exact Rm.chunk | exact Rm.here | exact Rm.nil0 | apply Rm.skip | apply Rm.skipS | (focus (apply Take.all; (repeat (first | exact Rm.chunk | exact Rm.here | exact Rm.nil0 | apply Rm.skip | apply Rm.skipS)); done)) | apply Take.cons))).perm ?_
  refine WP.share (fun J3 hJ3 hb3 => ?_)
  refine WP.next ?_
  refine WP.seq ?_
  refine WP.region [0] rfl ?_
  refine WP.val rfl rfl rfl rfl (Yld.assign rfl rfl) ?_
  refine WP.nil ?_
  refine WP.next ?_
  refine WP.ret ?_
  refine WP.fin .ret (.inr rfl) (res1 rfl rfl) ((t, row 113 [.pointer (some ⟨q, 0, none⟩), .int .u64 (({ x with tok := x.tok + 1 } : Tb).tok : Int), .slice (some ⟨bv, 0, none⟩) ({ x with tok := x.tok + 1 } : Tb).cks.length cv, .int .i64 ({ x with tok := x.tok + 1 } : Tb).next]) :: ((bv, row 103 (ckps ({ x with tok := x.tok + 1 } : Tb).cks ++ spv)) :: ({ x with tok := x.tok + 1 } : Tb).cks.flatMap ckCh)) (by repeat (first | exact Take.nil | with_reducible apply Take.cons | apply Take.app | exact Rm.chunk | exact Rm.here | exact Rm.nil0 | apply Rm.skip | apply Rm.skipS | (focus (apply Take.all; (repeat (first | exact Rm.chunk | exact Rm.here | exact Rm.nil0 | apply Rm.skip | apply Rm.skipS)); done)) | apply Take.cons)) (by repeat (first | exact Leave.done | apply Leave.drop | apply Leave.dropS)) (Imm.le_trans hJ2 hJ3) ?_
  exact ⟨b3, rfl, ⟨hsz.tok _, _, hb3, ⟨_, _, nv2, rfl, hn2.mono (Imv.le hJ3), hno2.mono (Imv.le hJ3), hw2.mono (Imv.le hJ3)⟩⟩, IsTab.mk (x := ({ x with tok := x.tok + 1 } : Tb)) ((ok.mono (Imm.le_trans hJ2 hJ3)).tok _) ow⟩


end Go.Hp
