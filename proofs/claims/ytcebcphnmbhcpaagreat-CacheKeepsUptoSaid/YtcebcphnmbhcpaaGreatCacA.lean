import Derived.Test.YtcebcphnmbhcpaaGreatLogJ
set_option linter.unusedVariables false
set_option linter.unusedSimpArgs false
namespace Go.Hp
open Go Go.Proofs

def ApK (x : Lg) (kind : Int) (b : List UInt8) (e : Int) (x' : Lg) : Prop := (e ≠ 0 ∧ x' = x) ∨ (e = 0 ∧ ∃ r : Rc, r.kind = kind ∧ r.b = b ∧ x' = x.push r)
theorem log_AppendE {I : Imm} {l s d n : Nat} {x : Lg} {y : Dk} {L : Chunks} (hl : IsLog I l s d n x y L) {hn hp : Nat} {kind : Int} {b : List UInt8} {vb : Value} (hb : SlRd (Im I) vb b.length 1 (bytesV b)) : Spec Tryz.prog 79 [.pointer (some ⟨l, 0, none⟩), .agg #[.int .i64 (hn : Int), .int .i64 (hp : Int)], .int .i64 kind, vb] I L (fun v J L' => ∃ (e : Int) (hn' hp' : Nat) (x' : Lg), v = .tuple #[.agg #[.int .i64 (hn' : Int), .int .i64 (hp' : Int)], .int .i64 e] ∧ e = x.apE hn hp kind b ∧ ApK x kind b e x' ∧ (e = 0 → hn' = x'.no ∧ hp' = x'.pl) ∧ IsLog J l s d n x' y L') :=
 (log_Append hl hb).mono (by
  rintro v J L' _ (⟨h1, h2, h3⟩ | ⟨h1, r, h2, h3, h4, h5⟩)
  ·exact ⟨_, 0, 0, x, h2, rfl, .inl ⟨h1, rfl⟩, fun h => absurd h h1, h3⟩
  ·exact ⟨0, _, _, x.push r, h4, h1.symm, .inr ⟨rfl, r, h2, h3, rfl⟩, fun _ => ⟨rfl, rfl⟩, h5⟩)


def funcTy (P : Program) (t : TypeId) : Bool := match P.underlying t with | some (.func ..) => true | _ => false
theorem funcTy_run {P : Program} {t : TypeId} (h : funcTy P t = true) : ∃ a b c, P.underlying t = some (.func a b c) := by
 unfold funcTy at h
 cases hu : P.underlying t with
 | none => rw [hu] at h; cases h
 | some u => cases u <;> simp_all
theorem eqIn_fun1 {P : Program} (w : World) (d : Nat) {t : TypeId} {a b c} {fn : Fn} {fs cs : Array Value} (h : P.underlying t = some (.func a b c)) : (Op.equalIn (d + 1) t (.func fn fs cs) .nilFunc).run P w = .ok false w := by
 simp [Op.equalIn, run_underlying h]
theorem eqIn_fun0 {P : Program} (w : World) (d : Nat) {t : TypeId} {a b c} (h : P.underlying t = some (.func a b c)) : (Op.equalIn (d + 1) t .nilFunc .nilFunc).run P w = .ok true w := by
 simp [Op.equalIn, run_underlying h]

section
variable {P : Program} {n : Nat} {E : Env} {I : Imm} {L : Chunks} {V : Nat → Obj → Prop} {o : Oper}
theorem Yld.eqlNilF {x y : Operand} {t t' : TypeId} {fn : Fn} {fs cs : Array Value} (hop : o.op = .binOp .eql t x y t') (ht : funcTy P t = true) (hx : E.ev x = some (.func fn fs cs)) (hy : E.ev y = some .nilFunc) : Yld P n E V o (.bool false) := fun A W he _ => by
 obtain ⟨a, b, c, hu⟩ := funcTy_run ht
 have h : (Op.equal t (.func fn fs cs) .nilFunc).run P W = .ok false W := eqIn_fun1 W 9999 hu
 simp [execOp, hop, he.ev hx, he.ev hy, eqGuard, binOp, h]
theorem Yld.eqlNilF0 {x y : Operand} {t t' : TypeId} (hop : o.op = .binOp .eql t x y t') (ht : funcTy P t = true) (hx : E.ev x = some .nilFunc) (hy : E.ev y = some .nilFunc) : Yld P n E V o (.bool true) := fun A W he _ => by
 obtain ⟨a, b, c, hu⟩ := funcTy_run ht
 have h : (Op.equal t .nilFunc .nilFunc).run P W = .ok true W := eqIn_fun0 W 9999 hu
 simp [execOp, hop, he.ev hx, he.ev hy, eqGuard, binOp, h]

end

theorem func_ty : funcTy Tryz.prog 23 = true := by kernel_rfl
theorem Spec.withT {P : Program} {f : FuncId} {args : List Value} {I : Imm} {A B G : Chunks} {R R' : Value → Imm → Chunks → Prop} (h : Spec P f args I (A ++ B) R) (hR : ∀ v J L1, I.le J → R v J L1 → ∃ A2 B2, L1 = A2 ++ B2 ∧ R' v J (A2 ++ (G ++ B2))) : Spec P f args I (A ++ (G ++ B)) R' := fun F W hW => by
 have e : ((A ++ (G ++ B)) ++ F).Perm ((A ++ B) ++ (G ++ F)) := by
  simp only [List.append_assoc]
  exact List.Perm.append_left A (by rw [← List.append_assoc, ← List.append_assoc]; exact List.Perm.append_right F List.perm_append_comm)
 refine (h (G ++ F) W (hW.perm e)).mono ?_; rintro e W' ⟨v, J, L', he, hJ, hr, hh⟩
 obtain ⟨A2, B2, rfl, h2⟩ := hR v J L' hJ hr
 refine ⟨v, J, _, he, hJ, h2, hh.perm ?_⟩
 simp only [List.append_assoc]
 exact List.Perm.append_left A2 (by rw [← List.append_assoc, ← List.append_assoc]; exact List.Perm.append_right F List.perm_append_comm)
theorem Spec.withL {P : Program} {f : FuncId} {args : List Value} {I : Imm} {A B G : Chunks} {R R' : Value → Imm → Chunks → Prop} (h : Spec P f args I (A ++ B) R) (hR : ∀ v J L1, I.le J → R v J L1 → ∃ A2 B2, L1 = A2 ++ B2 ∧ R' v J (A2 ++ (B2 ++ G))) : Spec P f args I (A ++ (B ++ G)) R' := fun F W hW => by
 have e : ((A ++ (B ++ G)) ++ F).Perm ((A ++ B) ++ (G ++ F)) := by simp only [List.append_assoc]; exact List.Perm.refl _
 refine (h (G ++ F) W (hW.perm e)).mono ?_; rintro e W' ⟨v, J, L', he, hJ, hr, hh⟩
 obtain ⟨A2, B2, rfl, h2⟩ := hR v J L' hJ hr
 refine ⟨v, J, _, he, hJ, h2, hh.perm ?_⟩
 simp only [List.append_assoc]; exact List.Perm.refl _

structure Mc where
 page : Int
 ent : Ent
 out : Ent
 e : Int
def mcV (s : Nat) (nx : Value) (z : Mc) (vn vw un uw : Value) : List Value :=
 .pointer (some ⟨s, 0, none⟩) :: nx :: .int .i64 z.page :: .int .u64 (z.ent.tok : Int) :: vn :: .int .i64 z.ent.place :: .int .i64 z.ent.no :: .int .i64 z.ent.low :: .int .i64 z.ent.kept :: .int .i64 z.ent.txn :: .int .i64 z.ent.lead :: vw ::
  .int .u64 (z.out.tok : Int) :: un :: .int .i64 z.out.place :: .int .i64 z.out.no :: .int .i64 z.out.low :: .int .i64 z.out.kept :: .int .i64 z.out.txn :: .int .i64 z.out.lead :: uw :: [.int .i64 z.e]
/-- A Machine's own row, with the step that is next. -/
inductive IsMc (J : Imm) (m s : Nat) (nx : Value) (z : Mc) : Chunks → Prop
 | mk {vn vw un uw : Value} (hn : RNodes J vn z.ent.nodes) (hw : SlRd (Imv J) vw z.ent.with_.length 1 (z.ent.with_.map (Value.int .i64))) (hs : z.ent.sized)
   (on : RNodes J un z.out.nodes) (ow : SlRd (Imv J) uw z.out.with_.length 1 (z.out.with_.map (Value.int .i64))) (os : z.out.sized) : IsMc J m s nx z [(m, row 110 (mcV s nx z vn vw un uw))]
theorem IsMc.mono {I J : Imm} {m s : Nat} {nx : Value} {z : Mc} {L : Chunks} (h : IsMc I m s nx z L) (hJ : I.le J) : IsMc J m s nx z L := by
 cases h with
 | mk hn hw hs on ow os => exact .mk (hn.mono hJ) (hw.mono (Imv.le hJ)) hs (on.mono hJ) (ow.mono (Imv.le hJ)) os
def Mc.fin (z : Mc) (x : Ent) (e : Int) : Mc := { z with e := e, out := if e = 0 then x else z.out }
def mc0 (p : Int) : Mc := ⟨p, zeroEnt, zeroEnt, 1⟩
theorem IsMc.zero (J : Imm) {m s : Nat} {nx : Value} {p : Int} : IsMc J m s nx (mc0 p) [(m, row 110 (mcV s nx (mc0 p) (.slice none 0 0) (.slice none 0 0) (.slice none 0 0) (.slice none 0 0)))] :=
 .mk (z := mc0 p) (RNodes.nil _) ⟨none, 0, rfl, Nat.le_refl _, rfl, .inl rfl⟩ zero_sized (RNodes.nil _) ⟨none, 0, rfl, Nat.le_refl _, rfl, .inl rfl⟩ zero_sized
theorem one_rn {J : Imm} {vn : Value} {l : List (Bool × List UInt8)} (h : RNodes J vn l) : vn.oneCell' = true := by
 obtain ⟨nv, ⟨A, c, e, _⟩, _⟩ := h.ex; rw [e]; rfl
theorem one_sl {V : Nat → Obj → Prop} {v : Value} {m sz : Nat} {cs : List Value} (h : SlRd V v m sz cs) : v.oneCell' = true := by
 obtain ⟨A, c, e, _⟩ := h; rw [e]; rfl
theorem cac_New {I : Imm} {l t : Nat} : Spec Tryz.prog 9 [.pointer (some ⟨t, 0, none⟩), .pointer (some ⟨l, 0, none⟩)] I [] (fun v J L => I = J ∧ ∃ s, v = .pointer (some ⟨s, 0, none⟩) ∧ L = [(s, row 88 [.pointer (some ⟨t, 0, none⟩), .pointer (some ⟨l, 0, none⟩)])]) := by
 refine Spec.of Tryz.func9 rfl Tryz.ntmps9 (Nat.le_of_ble_eq_true rfl) (fun F => ?_)
 try simp only [nf]
 dsimp only [argsEnv]
 refine WP.seq ?_; refine WP.region [0] rfl ?_; refine WP.mv rfl rfl ?_; refine WP.nil (WP.next (WP.seq ?_))
 refine WP.region [0, 1, 2, 3, 4] rfl ?_; iterate 2 refine WP.mv rfl rfl ?_
 refine WP.vl rfl (Yld.buildS (pl := [(0, 0, 1), (1, 1, 1)]) rfl ty_zr_88 ty_zd_88 zK rfl (vs := [_, _]) rfl (segs := [(0, [_]), (1, [_])]) rfl rfl zS) ?_; refine WP.loud rfl rfl ?_; refine Op.box rfl rfl rfl rfl rfl (fun s => ?_)
 refine WP.mv rfl rfl ?_; refine WP.nil ?_; refine WP.sub [(0, _), (1, _), (4, _)] ?_ ⟨rfl, rfl, rfl, trivial⟩
 refine WP.next (WP.ret ?_)
 refine WP.fn .ret (.inr rfl) (res1 rfl rfl) [(s, row 88 [.pointer (some ⟨t, 0, none⟩), .pointer (some ⟨l, 0, none⟩)])] (Imm.le_refl _) ?_; exact ⟨rfl, s, rfl, rfl⟩

theorem cac_machine {I : Imm} {s : Nat} {p : Int} : Spec Tryz.prog 39 [.pointer (some ⟨s, 0, none⟩), .int .i64 p] I [] (fun v J L => I = J ∧ ∃ m, v = .pointer (some ⟨m, 0, none⟩) ∧ L = [(m, row 110 (mcV s (.nilFunc) (mc0 p) (.slice none 0 0) (.slice none 0 0) (.slice none 0 0) (.slice none 0 0)))]) := by
 refine Spec.of Tryz.func39 rfl Tryz.ntmps39 (Nat.le_of_ble_eq_true rfl) (fun F => ?_)
 try simp only [nf]
 dsimp only [argsEnv]
 refine WP.seq ?_; refine WP.region [0] rfl ?_; refine WP.mv rfl rfl ?_; refine WP.nil (WP.next (WP.seq ?_))
 refine WP.region [0, 1, 2, 3, 4] rfl ?_; iterate 2 refine WP.mv rfl rfl ?_
 refine WP.vl rfl (Yld.buildS (pl := [(0, 0, 1), (2, 2, 1), (5, 21, 1)]) rfl ty_zr_110 ty_zd_110 zK rfl (vs := [_, _, _]) rfl (segs := [(0, [_]), (2, [_]), (21, [_])]) rfl rfl (.seg (Nat.le_of_ble_eq_true rfl) rfl (.seg (Nat.le_of_ble_eq_true rfl) rfl (.seg (Nat.le_of_ble_eq_true rfl) rfl .nil)))) ?_; refine WP.loud rfl rfl ?_; refine Op.box rfl rfl rfl rfl rfl (fun m => ?_)
 refine WP.mv rfl rfl ?_; refine WP.nil ?_; refine WP.sub [(0, _), (1, _), (4, _)] ?_ ⟨rfl, rfl, rfl, trivial⟩
 refine WP.next (WP.ret ?_)
 refine WP.fn .ret (.inr rfl) (res1 rfl rfl) [(m, row 110 (mcV s (.nilFunc) (mc0 p) (.slice none 0 0) (.slice none 0 0) (.slice none 0 0) (.slice none 0 0)))] (Imm.le_refl _) ?_; exact ⟨rfl, m, rfl, rfl⟩

theorem cac_end {I : Imm} {m s : Nat} {nx : Value} {z : Mc} {Lm : Chunks} (hm : IsMc I m s nx z Lm) {x : Ent} {xn xw : Value} (hxn : RNodes I xn x.nodes) (hxw : SlRd (Imv I) xw x.with_.length 1 (x.with_.map (Value.int .i64))) (hxs : x.sized) {e : Int} : Spec Tryz.prog 59 [.pointer (some ⟨m, 0, none⟩), .agg ([.int .u64 (x.tok : Int), xn, .int .i64 x.place, .int .i64 x.no, .int .i64 x.low, .int .i64 x.kept, .int .i64 x.txn, .int .i64 x.lead, xw]).toArray, .int .i64 e] I Lm (fun v J L => v = .bool true ∧ I = J ∧ IsMc J m s .nilFunc (z.fin x e) L) := by
 cases hm with
 | @mk vn vw un uw hn hw hs on ow os =>
 refine Spec.of Tryz.func59 rfl Tryz.ntmps59 (Nat.le_of_ble_eq_true rfl) (fun F => ?_)
 try simp only [nf]
 dsimp only [argsEnv]
 refine WP.seq ?_; refine WP.region [0, 1] rfl ?_; refine WP.loud rfl rfl ?_; refine Op.box rfl rfl rfl rfl rfl (fun b4 => ?_)
 refine WP.mv rfl rfl ?_; refine WP.nil (WP.next (WP.seq (WP.seq ?_)))
 refine WP.region [0, 1, 2, 3, 4, 5, 6, 7, 8, 9] rfl ?_; iterate 3 refine WP.mv rfl rfl ?_
 refine WP.vl rfl (Yld.nilCheck rfl rfl) ?_; refine WP.vl rfl (Yld.fieldAddr rfl ty_fd_110_5 rfl) ?_; refine WP.loud rfl rfl ?_; refine Op.s1 rfl rfl ty_sz_40 rfl rfl rfl ?_; refine WP.vl rfl (Yld.nilCheck rfl rfl) ?_; refine WP.vl rfl (Yld.fieldAddr rfl ty_fd_110_1 rfl) ?_; refine WP.vl rfl (Yld.fieldAddr rfl ty_fd_108_0 rfl) ?_; refine WP.loud rfl rfl ?_; refine Op.s1 rfl rfl ty_sz_23 rfl rfl rfl ?_; refine WP.nil ?_; refine WP.sub [(0, _), (1, _), (2, _), (4, _), (6, _)] ?_ ⟨rfl, rfl, rfl, rfl, rfl, trivial⟩
 refine WP.next (WP.seq ?_)
 refine WP.region [0, 1] rfl ?_; refine WP.mv rfl rfl ?_; refine WP.split rfl rfl rfl rfl (Yld.eql rfl rfl rfl) (fun he => ?_) (fun he => ?_)
 ·refine WP.nil ?_
  refine WP.sub [(0, _), (1, _), (2, _), (4, _), (6, _), (16, _)] ?_ ⟨rfl, rfl, rfl, rfl, rfl, rfl, trivial⟩
  refine WP.next ?_; refine WP.condT rfl ?_; refine WP.region [0, 1, 2, 3, 4] rfl ?_; refine WP.mv rfl rfl ?_; refine WP.vl rfl (Yld.ldg (vs := [.int .u64 (x.tok : Int), xn, .int .i64 x.place, .int .i64 x.no, .int .i64 x.low, .int .i64 x.kept, .int .i64 x.txn, .int .i64 x.lead, xw]) rfl ty_ag_50 rfl rfl rfl) ?_; refine WP.vl rfl (Yld.nilCheck rfl rfl) ?_; refine WP.vl rfl (Yld.fieldAddr rfl ty_fd_110_4 rfl) ?_; refine WP.loud rfl rfl ?_; refine Op.storeN rfl rfl ty_sz_50 rfl rfl rfl (by show (true && (xn.oneCell' && (true && (true && (true && (true && (true && (true && (xw.oneCell' && true))))))))) = true; rw [one_rn hxn, one_sl hxw]; rfl) (Nat.le_of_ble_eq_true rfl) (show mcV s .nilFunc { z with e := e, out := x } vn vw xn xw = _ from rfl) (by repeat (first | exact Upd.head | apply Upd.tail | apply Upd.tailS)) ?_; refine WP.nil ?_; refine WP.sub [(0, _), (1, _), (2, _), (4, _), (6, _), (16, _)] ?_ ⟨rfl, rfl, rfl, rfl, rfl, rfl, trivial⟩
  refine WP.next (WP.seq ?_)
  refine WP.region [0] rfl ?_; refine WP.mv rfl rfl ?_; refine WP.nil (WP.next (WP.ret ?_))
  refine WP.fn .ret (.inr rfl) (res1 rfl rfl) [(m, row 110 (mcV s (.nilFunc) { z with e := e, out := x } (vn) (vw) (xn) (xw)))] (Imm.le_refl _) ?_; have e1 : z.fin x e = { z with e := e, out := x } := by unfold Mc.fin; rw [if_pos he]
  exact ⟨rfl, rfl, by rw [e1]; exact .mk (z := { z with e := e, out := x }) hn hw hs hxn hxw hxs⟩
 ·refine WP.nil ?_
  refine WP.sub [(0, _), (1, _), (2, _), (4, _), (6, _), (16, _)] ?_ ⟨rfl, rfl, rfl, rfl, rfl, rfl, trivial⟩
  refine WP.next ?_; refine WP.condF rfl ?_; refine WP.skip (WP.next (WP.seq ?_))
  refine WP.region [0] rfl ?_; refine WP.mv rfl rfl ?_; refine WP.nil (WP.next (WP.ret ?_))
  refine WP.fn .ret (.inr rfl) (res1 rfl rfl) [(m, row 110 (mcV s (.nilFunc) { z with e := e } (vn) (vw) (un) (uw)))] (Imm.le_refl _) ?_; have e1 : z.fin x e = { z with e := e } := by unfold Mc.fin; rw [if_neg he]
  exact ⟨rfl, rfl, by rw [e1]; exact .mk (z := { z with e := e }) hn hw hs on ow os⟩

theorem cac_goes {I : Imm} {m s : Nat} {nx : Value} {z : Mc} {Lm : Chunks} (hm : IsMc I m s nx z Lm) {f : Fn} {rs us : Array Value} : Spec Tryz.prog 60 [.pointer (some ⟨m, 0, none⟩), .func f rs us] I Lm (fun v J L => v = .bool false ∧ I = J ∧ IsMc J m s (.func f rs us) z L) := by
 cases hm with
 | @mk vn vw un uw hn hw hs on ow os =>
 refine Spec.of Tryz.func60 rfl Tryz.ntmps60 (Nat.le_of_ble_eq_true rfl) (fun F => ?_)
 try simp only [nf]
 dsimp only [argsEnv]
 refine WP.seq ?_; refine WP.region [0] rfl ?_; refine WP.mv rfl rfl ?_; refine WP.nil (WP.next (WP.seq ?_))
 refine WP.region [0, 1, 2, 3, 4, 5] rfl ?_; iterate 2 refine WP.mv rfl rfl ?_
 refine WP.vl rfl (Yld.nilCheck rfl rfl) ?_; refine WP.vl rfl (Yld.fieldAddr rfl ty_fd_110_1 rfl) ?_; refine WP.vl rfl (Yld.fieldAddr rfl ty_fd_108_0 rfl) ?_; refine WP.loud rfl rfl ?_; refine Op.s1 rfl rfl ty_sz_23 rfl rfl rfl ?_; refine WP.nil ?_; refine WP.sub [(0, _), (1, _), (4, _)] ?_ ⟨rfl, rfl, rfl, trivial⟩
 refine WP.next (WP.seq ?_)
 refine WP.region [0] rfl ?_; refine WP.mv rfl rfl ?_; refine WP.nil (WP.next (WP.ret ?_))
 refine WP.fn .ret (.inr rfl) (res1 rfl rfl) [(m, row 110 (mcV s (.func f rs us) z (vn) (vw) (un) (uw)))] (Imm.le_refl _) ?_; exact ⟨rfl, rfl, .mk hn hw hs on ow os⟩

theorem cac_swap {I : Imm} {m s : Nat} {nx : Value} {z : Mc} {Lm : Chunks} (hm : IsMc I m s nx z Lm) {x : Ent} {xn xw : Value} (hxn : RNodes I xn x.nodes) (hxw : SlRd (Imv I) xw x.with_.length 1 (x.with_.map (Value.int .i64))) (hxs : x.sized) {l t : Nat} {tb : Tb} {Lt : Chunks} (hst : I.blk s = some (row 88 [.pointer (some ⟨t, 0, none⟩), .pointer (some ⟨l, 0, none⟩)])) (hT : IsT I t tb Lt) (htk : tb.tok + 1 < 18446744073709551616) {f : Fn} {rs us : Array Value} : Spec Tryz.prog 75 [.pointer (some ⟨m, 0, none⟩), .agg ([.int .u64 (x.tok : Int), xn, .int .i64 x.place, .int .i64 x.no, .int .i64 x.low, .int .i64 x.kept, .int .i64 x.txn, .int .i64 x.lead, xw]).toArray, .func f rs us] I (Lm ++ Lt) (fun v J L => ∃ r tb2 Lm2 Lt2, SwR tb z.page z.ent.tok x r tb2 ∧ L = Lm2 ++ Lt2 ∧ IsT J t tb2 Lt2 ∧ ((r = 5 ∧ v = .bool false ∧ IsMc J m s (.func f rs us) z Lm2) ∨ (r ≠ 5 ∧ v = .bool true ∧ IsMc J m s .nilFunc (z.fin x r) Lm2))) := by
 cases hm with
 | @mk vn vw un uw hn hw hs on ow os =>
 obtain ⟨nvx, hx1, hx2⟩ := id hxn.ex
 have hxr : REnt I x [.int .u64 (x.tok : Int), xn, .int .i64 x.place, .int .i64 x.no, .int .i64 x.low, .int .i64 x.kept, .int .i64 x.txn, .int .i64 x.lead, xw] := ⟨_, _, nvx, rfl, hx1, hx2, hxw⟩
 refine Spec.of Tryz.func75 rfl Tryz.ntmps75 (Nat.le_of_ble_eq_true rfl) (fun F => ?_)
 try simp only [nf]
 dsimp only [argsEnv]
 refine WP.seq ?_; refine WP.region [0, 1] rfl ?_; refine WP.loud rfl rfl ?_; refine Op.box rfl rfl rfl rfl rfl (fun b4 => ?_)
 refine WP.mv rfl rfl ?_; refine WP.nil (WP.next (WP.seq ?_))
 refine WQ.start Tryzmixed 17 zK _ rfl [17, 18] rfl ?_; refine WQ.val rfl rfl rfl (Yld.move rfl rfl) ?_; refine WQ.val rfl rfl rfl (Yld.nilCheck rfl rfl) ?_; refine WQ.val rfl rfl rfl (Yld.fieldAddr rfl ty_fd_110_0 rfl) ?_; refine WQ.val rfl rfl rfl (Yld.ld (v := .pointer (some ⟨s, 0, none⟩)) rfl ty_sc_26 rfl rfl) ?_; refine WQ.val rfl rfl rfl (Yld.nilCheck rfl rfl) ?_; refine WQ.val rfl rfl rfl (Yld.fieldAddr rfl ty_fd_88_0 rfl) ?_; refine WQ.val rfl rfl rfl (Yld.ld (v := .pointer (some ⟨t, 0, none⟩)) rfl ty_sc_31 rfl rfl) ?_; refine WQ.val rfl rfl rfl (Yld.move rfl rfl) ?_; refine WQ.val rfl rfl rfl (Yld.nilCheck rfl rfl) ?_; refine WQ.val rfl rfl rfl (Yld.fieldAddr rfl ty_fd_110_2 rfl) ?_; refine WQ.val rfl rfl rfl (Yld.ld (v := .int .i64 z.page) rfl ty_sc_3 rfl rfl) ?_; refine WQ.val rfl rfl rfl (Yld.move rfl rfl) ?_; refine WQ.val rfl rfl rfl (Yld.nilCheck rfl rfl) ?_; refine WQ.val rfl rfl rfl (Yld.fieldAddr rfl ty_fd_110_3 rfl) ?_; refine WQ.val rfl rfl rfl (Yld.fieldAddr rfl ty_fd_50_0 rfl) ?_; refine WQ.val rfl rfl rfl (Yld.ld (v := .int .u64 (z.ent.tok : Int)) rfl ty_sc_44 rfl rfl) ?_; refine WQ.val rfl rfl rfl (Yld.ldg (vs := [.int .u64 (x.tok : Int), xn, .int .i64 x.place, .int .i64 x.no, .int .i64 x.low, .int .i64 x.kept, .int .i64 x.txn, .int .i64 x.lead, xw]) rfl ty_ag_50 rfl rfl rfl) ?_; refine WQ.nil ?_; refine WP.loud rfl rfl ?_; refine Op.cl (tabT_SwapX hT (p := z.page) (tk := z.ent.tok) (e := x) hxr hxs htk) rfl Tryz.func11 rfl rfl rfl rfl ?_; rintro v J2 Lt2 hJ2 ⟨r, tb2, rfl, hsw, hT2⟩
 try simp only [nf]
 have hmm : IsMc J2 m s nx z _ := (IsMc.mk hn hw hs on ow os).mono hJ2
 refine WP.mv rfl rfl ?_; refine WP.nil ?_; refine WP.sub [(0, _), (1, _), (2, _), (4, _), (6, _), (7, _)] ?_ ⟨rfl, rfl, rfl, rfl, rfl, rfl, trivial⟩
 refine WP.next (WP.seq (WP.seq ?_))
 refine WP.region [0, 1] rfl ?_; refine WP.mv rfl rfl ?_; refine WP.split rfl rfl rfl rfl (Yld.eql rfl rfl rfl) (fun h5 => ?_) (fun h5 => ?_)
 ·refine WP.nil ?_
  refine WP.sub [(0, _), (1, _), (2, _), (4, _), (6, _), (7, _), (27, _)] ?_ ⟨rfl, rfl, rfl, rfl, rfl, rfl, rfl, trivial⟩
  refine WP.next ?_; refine WP.condT rfl ?_; refine WP.seq ?_; refine WP.region [0, 1, 2, 3] rfl ?_; iterate 2 refine WP.mv rfl rfl ?_
  refine WP.loud rfl rfl ?_; refine Op.cl (cac_goes hmm) rfl Tryz.func60 rfl rfl rfl rfl ?_; rintro v J Lm2 - ⟨rfl, rfl, hm2⟩
  try simp only [nf]
  refine WP.mv rfl rfl ?_; refine WP.nil ?_; refine WP.sub [(0, _), (1, _), (2, _), (4, _), (6, _), (7, _), (27, _)] ?_ ⟨rfl, rfl, rfl, rfl, rfl, rfl, rfl, trivial⟩
  refine WP.next (WP.ret ?_)
  refine WP.fn .ret (.inr rfl) (res1 rfl rfl) (Lm2 ++ Lt2) hJ2 ?_; exact ⟨r, tb2, Lm2, Lt2, hsw, rfl, hT2, .inl ⟨h5, rfl, hm2⟩⟩
 ·refine WP.nil ?_
  refine WP.sub [(0, _), (1, _), (2, _), (4, _), (6, _), (7, _), (27, _)] ?_ ⟨rfl, rfl, rfl, rfl, rfl, rfl, rfl, trivial⟩
  refine WP.next ?_; refine WP.condF rfl ?_; refine WP.skip (WP.next (WP.seq ?_))
  refine WP.region [0, 1, 2, 3, 4] rfl ?_; refine WP.mv rfl rfl ?_; refine WP.vl rfl (Yld.ldg (vs := [.int .u64 (x.tok : Int), xn, .int .i64 x.place, .int .i64 x.no, .int .i64 x.low, .int .i64 x.kept, .int .i64 x.txn, .int .i64 x.lead, xw]) rfl ty_ag_50 rfl rfl rfl) ?_; refine WP.mv rfl rfl ?_; refine WP.loud rfl rfl ?_; refine Op.cl (cac_end hmm (hxn.mono hJ2) (hxw.mono (Imv.le hJ2)) hxs) rfl Tryz.func59 rfl rfl rfl rfl ?_; rintro v J Lm2 - ⟨rfl, rfl, hm2⟩
  try simp only [nf]
  refine WP.mv rfl rfl ?_; refine WP.nil ?_; refine WP.sub [(0, _), (1, _), (2, _), (4, _), (6, _), (7, _), (27, _)] ?_ ⟨rfl, rfl, rfl, rfl, rfl, rfl, rfl, trivial⟩
  refine WP.next (WP.ret ?_)
  refine WP.fn .ret (.inr rfl) (res1 rfl rfl) (Lm2 ++ Lt2) hJ2 ?_; exact ⟨r, tb2, Lm2, Lt2, hsw, rfl, hT2, .inr ⟨h5, rfl, hm2⟩⟩

theorem cac_StepF {I : Imm} {m s b f : Nat} {fn : Func} {nx vn vw un uw : Value} {z : Mc} {Lr : Chunks} {R : Value → Imm → Chunks → Prop} (hnx : nx = .func (.func f) [.pointer (some ⟨b, 0, none⟩)].toArray [].toArray) (hf : Tryz.prog.funcs[f]? = some fn) (hfn : ((fn.name == "runtime.NumGoroutine") || fn.body.isNone) = false) (sp : Spec Tryz.prog f [.pointer (some ⟨b, 0, none⟩)] I ((m, row 110 (mcV s (nx) z (vn) (vw) (un) (uw))) :: Lr) R) (hv : ∀ v J L, R v J L → ∃ c : Bool, v = .bool c) : Spec Tryz.prog 17 [.pointer (some ⟨m, 0, none⟩)] I ((m, row 110 (mcV s (nx) z (vn) (vw) (un) (uw))) :: Lr) R := by
 subst hnx
 refine Spec.of Tryz.func17 rfl Tryz.ntmps17 (Nat.le_of_ble_eq_true rfl) (fun F => ?_)
 try simp only [nf]
 dsimp only [argsEnv]
 refine WP.seq ?_; refine WP.region [0] rfl ?_; refine WP.mv rfl rfl ?_; refine WP.nil (WP.next (WP.seq ?_))
 refine WP.region [0, 1, 2, 3, 4, 5, 6, 7, 8, 9, 10, 11, 12, 13, 14] rfl ?_; refine WP.mv rfl rfl ?_; refine WP.vl rfl (Yld.nilCheck rfl rfl) ?_; refine WP.vl rfl (Yld.fieldAddr rfl ty_fd_110_1 rfl) ?_; refine WP.vl rfl (Yld.fieldAddr rfl ty_fd_108_0 rfl) ?_; refine WP.vl rfl (Yld.ld (v := .func (.func f) [.pointer (some ⟨b, 0, none⟩)].toArray [].toArray) rfl ty_sc_23 rfl rfl) ?_; refine WP.vl rfl (Yld.eqlNilF rfl func_ty rfl rfl) ?_; refine WP.mv rfl rfl ?_; refine WP.valG rfl rfl rfl rfl rfl rfl rfl (Yld.move rfl rfl) ?_; refine WP.valG rfl rfl rfl rfl rfl rfl rfl (Yld.nilCheck rfl rfl) ?_; refine WP.valG rfl rfl rfl rfl rfl rfl rfl (Yld.fieldAddr rfl ty_fd_110_1 rfl) ?_; refine WP.valG rfl rfl rfl rfl rfl rfl rfl (Yld.fieldAddr rfl ty_fd_108_0 rfl) ?_; refine WP.valG rfl rfl rfl rfl rfl rfl rfl (Yld.ld (v := .func (.func f) [.pointer (some ⟨b, 0, none⟩)].toArray [].toArray) rfl ty_sc_23 rfl rfl) ?_; refine WP.loudG rfl rfl rfl rfl rfl ?_; refine Op.callE sp (Enters.bound rfl hf hfn (rs := [.pointer (some ⟨b, 0, none⟩)]) (us := []) rfl (vs := []) rfl) rfl rfl zT ?_; rintro v J2 L1 hJ2 hres
 try simp only [nf]
 obtain ⟨c, rfl⟩ := hv _ _ _ hres
 refine WP.vl rfl (Yld.pickF rfl rfl rfl) ?_; refine WP.mv rfl rfl ?_; refine WP.nil ?_; refine WP.sub [(0, _), (2, _)] ?_ ⟨rfl, rfl, trivial⟩
 refine WP.next (WP.ret ?_)
 refine WP.fn .ret (.inr rfl) (res1 rfl rfl) L1 hJ2 ?_; exact hres

theorem cac_StepN {I : Imm} {m s : Nat} {z : Mc} {Lm : Chunks} (hm : IsMc I m s .nilFunc z Lm) : Spec Tryz.prog 17 [.pointer (some ⟨m, 0, none⟩)] I Lm (fun v J L => v = .bool true ∧ I = J ∧ IsMc J m s .nilFunc z L) := by
 cases hm with
 | @mk vn vw un uw hn hw hs on ow os =>
 refine Spec.of Tryz.func17 rfl Tryz.ntmps17 (Nat.le_of_ble_eq_true rfl) (fun F => ?_)
 try simp only [nf]
 dsimp only [argsEnv]
 refine WP.seq ?_; refine WP.region [0] rfl ?_; refine WP.mv rfl rfl ?_; refine WP.nil (WP.next (WP.seq ?_))
 refine WP.region [0, 1, 2, 3, 4, 5, 6, 7, 8, 9, 10, 11, 12, 13, 14] rfl ?_; refine WP.mv rfl rfl ?_; refine WP.vl rfl (Yld.nilCheck rfl rfl) ?_; refine WP.vl rfl (Yld.fieldAddr rfl ty_fd_110_1 rfl) ?_; refine WP.vl rfl (Yld.fieldAddr rfl ty_fd_108_0 rfl) ?_; refine WP.vl rfl (Yld.ld (v := (.nilFunc)) rfl ty_sc_23 rfl rfl) ?_; refine WP.vl rfl (Yld.eqlNilF0 rfl func_ty rfl rfl) ?_; refine WP.mv rfl rfl ?_; iterate 6 refine WP.passG rfl rfl rfl rfl rfl rfl rfl rfl ?_
 refine WP.vl rfl (Yld.pickT rfl rfl rfl) ?_; refine WP.mv rfl rfl ?_; refine WP.nil ?_; refine WP.sub [(0, _), (2, _)] ?_ ⟨rfl, rfl, trivial⟩
 refine WP.next (WP.ret ?_)
 refine WP.fn .ret (.inr rfl) (res1 rfl rfl) [(m, row 110 (mcV s (.nilFunc) z (vn) (vw) (un) (uw)))] (Imm.le_refl _) ?_; exact ⟨rfl, rfl, .mk hn hw hs on ow os⟩


end Go.Hp
