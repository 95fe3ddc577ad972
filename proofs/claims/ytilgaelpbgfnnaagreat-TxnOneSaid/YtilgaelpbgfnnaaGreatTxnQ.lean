import Derived.Test.YtilgaelpbgfnnaaGreatTxnN
set_option linter.unusedVariables false
set_option linter.unusedSimpArgs false
namespace Go.Hp
open Go Go.Proofs

def funcTy (P : Program) (t : TypeId) : Bool := match P.underlying t with | some (.func ..) => true | _ => false
theorem funcTy_run {P : Program} {t : TypeId} (h : funcTy P t = true) : ∃ a b c, P.underlying t = some (.func a b c) := by
 unfold funcTy at h
 cases hu : P.underlying t with
 | none => rw [hu] at h; cases h
 | some u => cases u <;> simp_all
theorem eqIn_fun1 {P : Program} (w : World) (d : Nat) {t : TypeId} {a b c} {fn : Fn} {fs cs : Array Value} (h : P.underlying t = some (.func a b c)) : (Op.equalIn (d + 1) t (.func fn fs cs) .nilFunc).run P w = .ok false w := by
 simp [Op.equalIn, run_underlying h]
theorem eqIn_fun0 {P : Program} (w : World) (d : Nat) {t : TypeId} {a b c} (h : P.underlying t = some (.func a b c)) : (Op.equalIn (d + 1) t .nilFunc .nilFunc).run P w = .ok true w := by
 simp [Op.equalIn, run_underlying h]

section
variable {P : Program} {n : Nat} {E : Env} {I : Imm} {L : Chunks} {V : Nat → Obj → Prop} {o : Oper}
theorem Yld.eqlNilF {x y : Operand} {t t' : TypeId} {fn : Fn} {fs cs : Array Value} (hop : o.op = .binOp .eql t x y t') (ht : funcTy P t = true) (hx : E.ev x = some (.func fn fs cs)) (hy : E.ev y = some .nilFunc) : Yld P n E V o (.bool false) := fun A W he _ => by
 obtain ⟨a, b, c, hu⟩ := funcTy_run ht
 have h : (Op.equal t (.func fn fs cs) .nilFunc).run P W = .ok false W := eqIn_fun1 W 9999 hu
 simp [execOp, hop, he.ev hx, he.ev hy, eqGuard, binOp, h]
theorem Yld.eqlNilF0 {x y : Operand} {t t' : TypeId} (hop : o.op = .binOp .eql t x y t') (ht : funcTy P t = true) (hx : E.ev x = some .nilFunc) (hy : E.ev y = some .nilFunc) : Yld P n E V o (.bool true) := fun A W he _ => by
 obtain ⟨a, b, c, hu⟩ := funcTy_run ht
 have h : (Op.equal t .nilFunc .nilFunc).run P W = .ok true W := eqIn_fun0 W 9999 hu
 simp [execOp, hop, he.ev hx, he.ev hy, eqGuard, binOp, h]

end

theorem func_ty : funcTy Tryz.prog 23 = true := by kernel_rfl
theorem Spec.withT {P : Program} {f : FuncId} {args : List Value} {I : Imm} {A B G : Chunks} {R R' : Value → Imm → Chunks → Prop} (h : Spec P f args I (A ++ B) R) (hR : ∀ v J L1, I.le J → R v J L1 → ∃ A2 B2, L1 = A2 ++ B2 ∧ R' v J (A2 ++ (G ++ B2))) : Spec P f args I (A ++ (G ++ B)) R' := fun F W hW => by
 have e : ((A ++ (G ++ B)) ++ F).Perm ((A ++ B) ++ (G ++ F)) := by
  simp only [List.append_assoc]
  exact List.Perm.append_left A (by rw [← List.append_assoc, ← List.append_assoc]; exact List.Perm.append_right F List.perm_append_comm)
 refine (h (G ++ F) W (hW.perm e)).mono ?_; rintro e W' ⟨v, J, L', he, hJ, hr, hh⟩
 obtain ⟨A2, B2, rfl, h2⟩ := hR v J L' hJ hr
 refine ⟨v, J, _, he, hJ, h2, hh.perm ?_⟩
 simp only [List.append_assoc]
 exact List.Perm.append_left A2 (by rw [← List.append_assoc, ← List.append_assoc]; exact List.Perm.append_right F List.perm_append_comm)
theorem Spec.withL {P : Program} {f : FuncId} {args : List Value} {I : Imm} {A B G : Chunks} {R R' : Value → Imm → Chunks → Prop} (h : Spec P f args I (A ++ B) R) (hR : ∀ v J L1, I.le J → R v J L1 → ∃ A2 B2, L1 = A2 ++ B2 ∧ R' v J (A2 ++ (B2 ++ G))) : Spec P f args I (A ++ (B ++ G)) R' := fun F W hW => by
 have e : ((A ++ (B ++ G)) ++ F).Perm ((A ++ B) ++ (G ++ F)) := by simp only [List.append_assoc]; exact List.Perm.refl _
 refine (h (G ++ F) W (hW.perm e)).mono ?_; rintro e W' ⟨v, J, L', he, hJ, hr, hh⟩
 obtain ⟨A2, B2, rfl, h2⟩ := hR v J L' hJ hr
 refine ⟨v, J, _, he, hJ, h2, hh.perm ?_⟩
 simp only [List.append_assoc]; exact List.Perm.refl _
theorem txn_StepF {I : Imm} {l t b T f : Nat} {fn : Func} {nx th vc vn vw : Value} {ex : List Value} {z : Cm} {Lr : Chunks} {R : Value → Imm → Chunks → Prop} (hnx : nx = .func (.func f) [.pointer (some ⟨b, 0, none⟩)].toArray [].toArray) (hf : Tryz.prog.funcs[f]? = some fn) (hfn : ((fn.name == "runtime.NumGoroutine") || fn.body.isNone) = false) (sp : Spec Tryz.prog f [.pointer (some ⟨b, 0, none⟩)] I ((b, row T (cmV l t nx th z vc vn vw ex)) :: Lr) R) (hv : ∀ v J L, R v J L → ∃ c : Bool, v = .bool c) : Spec Tryz.prog 15 [.pointer (some ⟨b, 0, none⟩)] I ((b, row T (cmV l t nx th z vc vn vw ex)) :: Lr) R := by
 subst hnx
 refine Spec.of Tryz.func15 rfl Tryz.ntmps15 (Nat.le_of_ble_eq_true rfl) (fun F => ?_)
 try simp only [nf]
 dsimp only [argsEnv]
 refine WP.seq ?_; refine WP.region [0] rfl ?_; refine WP.mv rfl rfl ?_; refine WP.nil (WP.next (WP.seq ?_))
 refine WP.region [0, 1, 2, 3, 4, 5, 6, 7, 8, 9, 10, 11, 12] rfl ?_; refine WP.mv rfl rfl ?_; refine WP.vl rfl (Yld.nilCheck rfl rfl) ?_; refine WP.vl rfl (Yld.fieldAddr rfl ty_fd_54_2 rfl) ?_; refine WP.vl rfl (Yld.ld (v := .func (.func f) [.pointer (some ⟨b, 0, none⟩)].toArray [].toArray) rfl ty_sc_23 rfl rfl) ?_; refine WP.vl rfl (Yld.eqlNilF rfl func_ty rfl rfl) ?_; refine WP.mv rfl rfl ?_; refine WP.valG rfl rfl rfl rfl rfl rfl rfl (Yld.move rfl rfl) ?_; refine WP.valG rfl rfl rfl rfl rfl rfl rfl (Yld.nilCheck rfl rfl) ?_; refine WP.valG rfl rfl rfl rfl rfl rfl rfl (Yld.fieldAddr rfl ty_fd_54_2 rfl) ?_; refine WP.valG rfl rfl rfl rfl rfl rfl rfl (Yld.ld (v := .func (.func f) [.pointer (some ⟨b, 0, none⟩)].toArray [].toArray) rfl ty_sc_23 rfl rfl) ?_; refine WP.loudG rfl rfl rfl rfl rfl ?_; refine Op.callE sp (Enters.bound rfl hf hfn (rs := [.pointer (some ⟨b, 0, none⟩)]) (us := []) rfl (vs := []) rfl) rfl rfl zT ?_; rintro v J2 L1 hJ2 hres
 try simp only [nf]
 obtain ⟨c, rfl⟩ := hv _ _ _ hres
 refine WP.vl rfl (Yld.pickF rfl rfl rfl) ?_; refine WP.mv rfl rfl ?_; refine WP.nil ?_; refine WP.sub [(0, _), (2, _)] ?_ ⟨rfl, rfl, trivial⟩
 refine WP.next (WP.ret ?_)
 refine WP.fn .ret (.inr rfl) (res1 rfl rfl) L1 hJ2 ?_; exact hres

theorem txn_StepN {I : Imm} {l t b T : Nat} {nx th vc vn vw : Value} {ex : List Value} {z : Cm} : Spec Tryz.prog 15 [.pointer (some ⟨b, 0, none⟩)] I [(b, row T (cmV l t .nilFunc th z vc vn vw ex))] (fun v J L => v = .bool true ∧ I = J ∧ L = [(b, row T (cmV l t .nilFunc th z vc vn vw ex))]) := by
 refine Spec.of Tryz.func15 rfl Tryz.ntmps15 (Nat.le_of_ble_eq_true rfl) (fun F => ?_)
 try simp only [nf]
 dsimp only [argsEnv]
 refine WP.seq ?_; refine WP.region [0] rfl ?_; refine WP.mv rfl rfl ?_; refine WP.nil (WP.next (WP.seq ?_))
 refine WP.region [0, 1, 2, 3, 4, 5, 6, 7, 8, 9, 10, 11, 12] rfl ?_; refine WP.mv rfl rfl ?_; refine WP.vl rfl (Yld.nilCheck rfl rfl) ?_; refine WP.vl rfl (Yld.fieldAddr rfl ty_fd_54_2 rfl) ?_; refine WP.vl rfl (Yld.ld (v := (.nilFunc)) rfl ty_sc_23 rfl rfl) ?_; refine WP.vl rfl (Yld.eqlNilF0 rfl func_ty rfl rfl) ?_; refine WP.mv rfl rfl ?_; iterate 5 refine WP.passG rfl rfl rfl rfl rfl rfl rfl rfl ?_
 refine WP.vl rfl (Yld.pickT rfl rfl rfl) ?_; refine WP.mv rfl rfl ?_; refine WP.nil ?_; refine WP.sub [(0, _), (2, _)] ?_ ⟨rfl, rfl, trivial⟩
 refine WP.next (WP.ret ?_)
 refine WP.fn .ret (.inr rfl) (res1 rfl rfl) [(b, row T (cmV l t .nilFunc th z vc vn vw ex))] (Imm.le_refl _) ?_; exact ⟨rfl, rfl, rfl⟩

theorem txn_Got {I : Imm} {g l t : Nat} {z : Gp} {Lgr : Chunks} (hg : IsGr I g l t z Lgr) : Spec Tryz.prog 17 [.pointer (some ⟨g, 0, none⟩)] I Lgr (fun v J L => v = .tuple #[.int .i64 (if z.c.e ≠ 0 then 0 else z.c.txn), .int .i64 z.c.e] ∧ I = J ∧ L = Lgr) := by
 cases hg with
 | @mk vc vn vw vp vb vl hc hn hw hs hp hb hl hk =>
 obtain ⟨Ac, cc, rfl, hcc, _, _⟩ := id hc
 obtain ⟨nvn, hn1, hn2⟩ := id hn.ex
 obtain ⟨An, cn, rfl, _⟩ := hn1.slice'
 obtain ⟨Aw, cw, rfl, _⟩ := hw.slice'
 obtain ⟨Ap, cp, rfl, hcp, _, _⟩ := id hp.rd
 obtain ⟨Ab, cb, rfl, _⟩ := id hb
 obtain ⟨Al, cl, rfl, hcl, _, _⟩ := id hl.rd
 refine Spec.of Tryz.func17 rfl Tryz.ntmps17 (Nat.le_of_ble_eq_true rfl) (fun F => ?_)
 try simp only [nf]
 dsimp only [argsEnv]
 refine WP.seq ?_; refine WP.region [0, 1] rfl ?_; iterate 2 refine WP.mv rfl rfl ?_
 refine WP.nil (WP.next (WP.seq (WP.seq ?_)))
 refine WP.region [0, 1, 2, 3, 4, 5, 6] rfl ?_; refine WP.mv rfl rfl ?_; refine WP.vl rfl (Yld.nilCheck rfl rfl) ?_; refine WP.vl rfl (Yld.fieldAddr rfl ty_fd_60_0 rfl) ?_; refine WP.vl rfl (Yld.fieldAddr rfl ty_fd_58_0 rfl) ?_; refine WP.vl rfl (Yld.fieldAddr rfl ty_fd_54_3 rfl) ?_; refine WP.vl rfl (Yld.ld (v := .int .i64 z.c.e) rfl ty_sc_27 rfl rfl) ?_; refine WP.split rfl rfl rfl rfl (Yld.neq rfl rfl rfl) (fun h0 => ?_) (fun h0 => ?_)
 ·rw [if_pos h0]
  refine WP.nil ?_; refine WP.sub [(0, _), (2, _), (3, _), (10, _)] ?_ ⟨rfl, rfl, rfl, rfl, trivial⟩
  refine WP.next ?_; refine WP.condT rfl ?_; refine WP.seq ?_; refine WQ.startAll Tryzmixed zK _ rfl ?_; refine WQ.val rfl rfl rfl (Yld.move rfl rfl) ?_; refine WQ.val rfl rfl rfl (Yld.nilCheck rfl rfl) ?_; refine WQ.val rfl rfl rfl (Yld.fieldAddr rfl ty_fd_60_0 rfl) ?_; refine WQ.val rfl rfl rfl (Yld.fieldAddr rfl ty_fd_58_0 rfl) ?_; refine WQ.val rfl rfl rfl (Yld.fieldAddr rfl ty_fd_54_3 rfl) ?_; refine WQ.val rfl rfl rfl (Yld.ld (v := .int .i64 z.c.e) rfl ty_sc_27 rfl rfl) ?_; iterate 2 refine WQ.val rfl rfl rfl (Yld.assign rfl rfl) ?_
  refine WQ.nil ?_; refine WP.sub [(0, _), (2, _), (3, _), (10, _)] ?_ ⟨rfl, rfl, rfl, rfl, trivial⟩
  refine WP.next (WP.ret ?_)
  refine WP.fn .ret (.inr rfl) (res2 rfl rfl rfl) [(g, row 60 (cmV l t (nextV g z.at_) (.func (.func 53) [.pointer (some ⟨g, 0, none⟩)].toArray [].toArray) z.c (.slice Ac z.c.clear.length cc) (.slice An z.c.ent.nodes.length cn) (.slice Aw z.c.ent.with_.length cw) [.int .u64 (z.tok : Int), .slice Ap z.pages.length cp, .slice Ab z.bytes.length cb, .int .i64 z.place, .slice Al z.left.length cl]))] (Imm.le_refl _) ?_; exact ⟨rfl, rfl, rfl⟩
 ·rw [if_neg h0, show z.c.e = 0 by omega]
  refine WP.nil ?_; refine WP.sub [(0, _), (2, _), (3, _), (10, _)] ?_ ⟨rfl, rfl, rfl, rfl, trivial⟩
  refine WP.next ?_; refine WP.condF rfl ?_; refine WP.skip (WP.next (WP.seq ?_))
  refine WP.region [0, 1, 2, 3, 4, 5, 6] rfl ?_; refine WP.mv rfl rfl ?_; refine WP.vl rfl (Yld.nilCheck rfl rfl) ?_; refine WP.vl rfl (Yld.fieldAddr rfl ty_fd_60_0 rfl) ?_; refine WP.vl rfl (Yld.fieldAddr rfl ty_fd_58_1 rfl) ?_; refine WP.vl rfl (Yld.ld (v := .int .i64 z.c.txn) rfl ty_sc_3 rfl rfl) ?_; iterate 2 refine WP.mv rfl rfl ?_
  refine WP.nil ?_; refine WP.sub [(0, _), (2, _), (3, _), (10, _)] ?_ ⟨rfl, rfl, rfl, rfl, trivial⟩
  refine WP.next (WP.ret ?_)
  refine WP.fn .ret (.inr rfl) (res2 rfl rfl rfl) [(g, row 60 (cmV l t (nextV g z.at_) (.func (.func 53) [.pointer (some ⟨g, 0, none⟩)].toArray [].toArray) z.c (.slice Ac z.c.clear.length cc) (.slice An z.c.ent.nodes.length cn) (.slice Aw z.c.ent.with_.length cw) [.int .u64 (z.tok : Int), .slice Ap z.pages.length cp, .slice Ab z.bytes.length cb, .int .i64 z.place, .slice Al z.left.length cl]))] (Imm.le_refl _) ?_; exact ⟨rfl, rfl, rfl⟩


inductive Stp (x : Lg) (tb : Tb) (z : Gp) : Bool → Gp → Lg → Tb → Prop
 | begin (h : z.at_ = 0) : Stp x tb z (z.begins x).1 (z.begins x).2 x tb
 | append (h : z.at_ = 1) {e : Int} {x2 : Lg} (he : e = x.apE z.c.hn z.c.hp 3 z.bytes) (ha : ApK x 3 z.bytes e x2) : Stp x tb z (z.appends e x2.no).1 (z.appends e x2.no).2 x2 tb
 | put (h : z.at_ = 2) (h0 : 0 < z.left.length) {r : Int} {tb2 : Tb} (hp : PutR tb (z.left[0]'h0).1.page (becE z.pages z.c.txn z.place (z.left[0]'h0).1) r tb2) : Stp x tb z (z.puts r).1 (z.puts r).2 x tb2
 | swap (h : z.at_ = 3) {r : Int} {tb2 : Tb} (hs : SwR tb z.p0.page z.tok z.firstE r tb2) : Stp x tb z (z.swaps r).1 (z.swaps r).2 x tb2
 | take (h : z.at_ = 4) : Stp x tb z false ((z.setC ({ z.c with hn := x.no, hp := x.pl } : Cm)).go 5) x tb
 | commit (h : z.at_ = 5) {e : Int} {x2 : Lg} (he : e = x.apE z.c.hn z.c.hp 4 (numB z.c.txn.toNat)) (ha : ApK x 4 (numB z.c.txn.toNat) e x2) : Stp x tb z (z.commits e).1 (z.commits e).2 x2 tb
 | look (h : z.at_ = 6) : Stp x tb z (z.looks tb).1 (z.looks tb).2 x tb
 | clear (h : z.at_ = 7) (h0 : 0 < z.c.clear.length) {r : Int} {tb2 : Tb} (hs : SwR tb (z.c.clear[0]'h0) z.c.ent.tok z.c.ent.clr r tb2) : Stp x tb z (z.clears r).1 (z.clears r).2 x tb2
 | free (h : z.at_ = 8) (h0 : 0 < z.left.length) {tb2 : Tb} (hf : tb.Freed tb2 (z.left[0]'h0).1.page) : Stp x tb z z.frees.1 z.frees.2 x tb2
 | nil (h : 9 ≤ z.at_) : Stp x tb z true z x tb
/-- What a step asks for. -/
structure Gp.pre (z : Gp) (tb : Tb) : Prop where
 tok : tb.tok + 1 < 18446744073709551616
 p1 : 1 ≤ z.pages.length
 pk : z.pages.length ≤ 1099511627776
 sz : z.sz
 lf : ∀ x ∈ z.left, x ∈ z.pages
 put : z.at_ = 2 ∨ z.at_ = 8 → 0 < z.left.length
 clr : z.at_ = 6 ∨ z.at_ = 7 → 0 < z.c.clear.length
 com : z.at_ = 5 → 1 ≤ z.c.txn ∧ z.c.txn ≤ 1099511627776
theorem Gp.pre.ps {z : Gp} {tb : Tb} (h : z.pre tb) (h0 : 0 < z.left.length) : (becE z.pages z.c.txn z.place (z.left[0]'h0).1).sized :=
 have hm := h.lf _ (List.getElem_mem h0)
 ⟨h.sz.n _ hm, h.sz.d _ hm, Nat.zero_le _⟩
theorem Gp.pre.fs {z : Gp} {tb : Tb} (h : z.pre tb) : z.firstE.sized := by
 have hm : z.pages[0]'h.p1 ∈ z.pages := List.getElem_mem _
 refine ⟨?_, ?_, ?_⟩
 ·show z.p0.nodes.length ≤ _
  rw [Gp.p0_eq h.p1]; exact h.sz.n _ hm
 ·show ∀ x ∈ z.p0.nodes, _
  rw [Gp.p0_eq h.p1]; exact h.sz.d _ hm
 ·show (otherP z.pages).length ≤ _
  have := those_len z.pages 1 true
  have := h.pk
  rw [show (otherP z.pages).length = (thoseL z.pages 1 true).length from List.length_map _]; omega
def StpQ (l s d n g t : Nat) (x : Lg) (y : Dk) (tb : Tb) (z : Gp) (v : Value) (J : Imm) (L : Chunks) : Prop := ∃ b z2 x2 tb2 Lg2 Lt2 Ll2, Stp x tb z b z2 x2 tb2 ∧ v = .bool b ∧ L = Lg2 ++ (Lt2 ++ Ll2) ∧ IsGr J g l t z2 Lg2 ∧ IsT J t tb2 Lt2 ∧ IsLog J l s d n x2 y Ll2
theorem nextV_9 {g k : Nat} (h : 9 ≤ k) : nextV g k = .nilFunc := by
 obtain ⟨m, rfl⟩ := Nat.exists_eq_add_of_le h
 rw [Nat.add_comm]; rfl
theorem txn_Step0 {I : Imm} {g l t : Nat} {z : Gp} {Lgr : Chunks} (hg : IsGr I g l t z Lgr) {tb : Tb} {Lt : Chunks} (hT : IsT I t tb Lt) {s d n : Nat} {x : Lg} {y : Dk} {Ll : Chunks} (hlg : IsLog I l s d n x y Ll) (hpr : z.pre tb) (hk0 : z.at_ = 0) : Spec Tryz.prog 15 [.pointer (some ⟨g, 0, none⟩)] I (Lgr ++ (Lt ++ Ll)) (StpQ l s d n g t x y tb z) := by
 have sp : Spec Tryz.prog 52 [.pointer (some ⟨g, 0, none⟩)] I (Lgr ++ (Lt ++ Ll)) (StpQ l s d n g t x y tb z) := Spec.withT (txn_begin hg hlg hpr.sz) (by
  rintro v J L1 hJ ⟨rfl, Lg2, rfl, h1, h2⟩
  exact ⟨_, _, rfl, ⟨_, _, _, _, _, _, _, .begin hk0, rfl, rfl, h1, hT.mono hJ, h2⟩⟩)
 cases hg with
 | mk hc hn hw hs hp hb hl hk => exact txn_StepF (by rw [hk0]; rfl) Tryz.func52 rfl sp (by rintro v J L ⟨b, _, _, _, _, _, _, _, rfl, _⟩; exact ⟨b, rfl⟩)
theorem txn_Step1 {I : Imm} {g l t : Nat} {z : Gp} {Lgr : Chunks} (hg : IsGr I g l t z Lgr) {tb : Tb} {Lt : Chunks} (hT : IsT I t tb Lt) {s d n : Nat} {x : Lg} {y : Dk} {Ll : Chunks} (hlg : IsLog I l s d n x y Ll) (hpr : z.pre tb) (hk0 : z.at_ = 1) : Spec Tryz.prog 15 [.pointer (some ⟨g, 0, none⟩)] I (Lgr ++ (Lt ++ Ll)) (StpQ l s d n g t x y tb z) := by
 have sp : Spec Tryz.prog 112 [.pointer (some ⟨g, 0, none⟩)] I (Lgr ++ (Lt ++ Ll)) (StpQ l s d n g t x y tb z) := Spec.withT (txn_appends hg hlg hpr.p1) (by
  rintro v J L1 hJ ⟨e, x2, Lg2, Ll2, he, ha, rfl, rfl, h1, h2⟩
  exact ⟨_, _, rfl, ⟨_, _, _, _, _, _, _, .append hk0 he ha, rfl, rfl, h1, hT.mono hJ, h2⟩⟩)
 cases hg with
 | mk hc hn hw hs hp hb hl hk => exact txn_StepF (by rw [hk0]; rfl) Tryz.func112 rfl sp (by rintro v J L ⟨b, _, _, _, _, _, _, _, rfl, _⟩; exact ⟨b, rfl⟩)
theorem txn_Step2 {I : Imm} {g l t : Nat} {z : Gp} {Lgr : Chunks} (hg : IsGr I g l t z Lgr) {tb : Tb} {Lt : Chunks} (hT : IsT I t tb Lt) {s d n : Nat} {x : Lg} {y : Dk} {Ll : Chunks} (hlg : IsLog I l s d n x y Ll) (hpr : z.pre tb) (hk0 : z.at_ = 2) : Spec Tryz.prog 15 [.pointer (some ⟨g, 0, none⟩)] I (Lgr ++ (Lt ++ Ll)) (StpQ l s d n g t x y tb z) := by
 have sp : Spec Tryz.prog 157 [.pointer (some ⟨g, 0, none⟩)] I (Lgr ++ (Lt ++ Ll)) (StpQ l s d n g t x y tb z) := Spec.withL (txn_puts hg hT (hpr.put (.inl hk0)) hpr.p1 (hpr.ps _) hpr.tok) (by
  rintro v J L1 hJ ⟨r, tb2, Lg2, Lt2, hq, rfl, rfl, h1, h2⟩
  exact ⟨_, _, rfl, ⟨_, _, _, _, _, _, _, .put hk0 _ hq, rfl, rfl, h1, h2, hlg.mono hJ⟩⟩)
 cases hg with
 | mk hc hn hw hs hp hb hl hk => exact txn_StepF (by rw [hk0]; rfl) Tryz.func157 rfl sp (by rintro v J L ⟨b, _, _, _, _, _, _, _, rfl, _⟩; exact ⟨b, rfl⟩)
theorem txn_Step3 {I : Imm} {g l t : Nat} {z : Gp} {Lgr : Chunks} (hg : IsGr I g l t z Lgr) {tb : Tb} {Lt : Chunks} (hT : IsT I t tb Lt) {s d n : Nat} {x : Lg} {y : Dk} {Ll : Chunks} (hlg : IsLog I l s d n x y Ll) (hpr : z.pre tb) (hk0 : z.at_ = 3) : Spec Tryz.prog 15 [.pointer (some ⟨g, 0, none⟩)] I (Lgr ++ (Lt ++ Ll)) (StpQ l s d n g t x y tb z) := by
 have sp : Spec Tryz.prog 156 [.pointer (some ⟨g, 0, none⟩)] I (Lgr ++ (Lt ++ Ll)) (StpQ l s d n g t x y tb z) := Spec.withL (txn_swaps hg hT hpr.p1 hpr.fs hpr.tok) (by
  rintro v J L1 hJ ⟨r, tb2, Lg2, Lt2, hq, rfl, rfl, h1, h2⟩
  exact ⟨_, _, rfl, ⟨_, _, _, _, _, _, _, .swap hk0 hq, rfl, rfl, h1, h2, hlg.mono hJ⟩⟩)
 cases hg with
 | mk hc hn hw hs hp hb hl hk => exact txn_StepF (by rw [hk0]; rfl) Tryz.func156 rfl sp (by rintro v J L ⟨b, _, _, _, _, _, _, _, rfl, _⟩; exact ⟨b, rfl⟩)
theorem txn_Step4 {I : Imm} {g l t : Nat} {z : Gp} {Lgr : Chunks} (hg : IsGr I g l t z Lgr) {tb : Tb} {Lt : Chunks} (hT : IsT I t tb Lt) {s d n : Nat} {x : Lg} {y : Dk} {Ll : Chunks} (hlg : IsLog I l s d n x y Ll) (hpr : z.pre tb) (hk0 : z.at_ = 4) : Spec Tryz.prog 15 [.pointer (some ⟨g, 0, none⟩)] I (Lgr ++ (Lt ++ Ll)) (StpQ l s d n g t x y tb z) := by
 have sp : Spec Tryz.prog 160 [.pointer (some ⟨g, 0, none⟩)] I (Lgr ++ (Lt ++ Ll)) (StpQ l s d n g t x y tb z) := Spec.withT (txn_takes hg hlg) (by
  rintro v J L1 hJ ⟨rfl, rfl, Lg2, rfl, h1⟩
  exact ⟨_, _, rfl, ⟨_, _, _, _, _, _, _, .take hk0, rfl, rfl, h1, hT.mono hJ, hlg.mono hJ⟩⟩)
 cases hg with
 | mk hc hn hw hs hp hb hl hk => exact txn_StepF (by rw [hk0]; rfl) Tryz.func160 rfl sp (by rintro v J L ⟨b, _, _, _, _, _, _, _, rfl, _⟩; exact ⟨b, rfl⟩)
theorem txn_Step5 {I : Imm} {g l t : Nat} {z : Gp} {Lgr : Chunks} (hg : IsGr I g l t z Lgr) {tb : Tb} {Lt : Chunks} (hT : IsT I t tb Lt) {s d n : Nat} {x : Lg} {y : Dk} {Ll : Chunks} (hlg : IsLog I l s d n x y Ll) (hpr : z.pre tb) (hk0 : z.at_ = 5) : Spec Tryz.prog 15 [.pointer (some ⟨g, 0, none⟩)] I (Lgr ++ (Lt ++ Ll)) (StpQ l s d n g t x y tb z) := by
 have sp : Spec Tryz.prog 185 [.pointer (some ⟨g, 0, none⟩)] I (Lgr ++ (Lt ++ Ll)) (StpQ l s d n g t x y tb z) := Spec.withT (txn_commits hg hlg (hpr.com hk0)) (by
  rintro v J L1 hJ ⟨e, x2, Lg2, Ll2, he, ha, rfl, rfl, h1, h2⟩
  exact ⟨_, _, rfl, ⟨_, _, _, _, _, _, _, .commit hk0 he ha, rfl, rfl, h1, hT.mono hJ, h2⟩⟩)
 cases hg with
 | mk hc hn hw hs hp hb hl hk => exact txn_StepF (by rw [hk0]; rfl) Tryz.func185 rfl sp (by rintro v J L ⟨b, _, _, _, _, _, _, _, rfl, _⟩; exact ⟨b, rfl⟩)
theorem txn_Step6 {I : Imm} {g l t : Nat} {z : Gp} {Lgr : Chunks} (hg : IsGr I g l t z Lgr) {tb : Tb} {Lt : Chunks} (hT : IsT I t tb Lt) {s d n : Nat} {x : Lg} {y : Dk} {Ll : Chunks} (hlg : IsLog I l s d n x y Ll) (hpr : z.pre tb) (hk0 : z.at_ = 6) : Spec Tryz.prog 15 [.pointer (some ⟨g, 0, none⟩)] I (Lgr ++ (Lt ++ Ll)) (StpQ l s d n g t x y tb z) := by
 have sp : Spec Tryz.prog 189 [.pointer (some ⟨g, 0, none⟩)] I (Lgr ++ (Lt ++ Ll)) (StpQ l s d n g t x y tb z) := Spec.withL (txn_looks hg hT (hpr.clr (.inl hk0))) (by
  rintro v J L1 hJ ⟨rfl, Lg2, Lt2, rfl, h1, h2⟩
  exact ⟨_, _, rfl, ⟨_, _, _, _, _, _, _, .look hk0, rfl, rfl, h1, h2, hlg.mono hJ⟩⟩)
 cases hg with
 | mk hc hn hw hs hp hb hl hk => exact txn_StepF (by rw [hk0]; rfl) Tryz.func189 rfl sp (by rintro v J L ⟨b, _, _, _, _, _, _, _, rfl, _⟩; exact ⟨b, rfl⟩)
theorem txn_Step7 {I : Imm} {g l t : Nat} {z : Gp} {Lgr : Chunks} (hg : IsGr I g l t z Lgr) {tb : Tb} {Lt : Chunks} (hT : IsT I t tb Lt) {s d n : Nat} {x : Lg} {y : Dk} {Ll : Chunks} (hlg : IsLog I l s d n x y Ll) (hpr : z.pre tb) (hk0 : z.at_ = 7) : Spec Tryz.prog 15 [.pointer (some ⟨g, 0, none⟩)] I (Lgr ++ (Lt ++ Ll)) (StpQ l s d n g t x y tb z) := by
 have sp : Spec Tryz.prog 191 [.pointer (some ⟨g, 0, none⟩)] I (Lgr ++ (Lt ++ Ll)) (StpQ l s d n g t x y tb z) := Spec.withL (txn_clears hg hT (hpr.clr (.inr hk0)) hpr.tok) (by
  rintro v J L1 hJ ⟨r, tb2, Lg2, Lt2, hq, rfl, rfl, h1, h2⟩
  exact ⟨_, _, rfl, ⟨_, _, _, _, _, _, _, .clear hk0 _ hq, rfl, rfl, h1, h2, hlg.mono hJ⟩⟩)
 cases hg with
 | mk hc hn hw hs hp hb hl hk => exact txn_StepF (by rw [hk0]; rfl) Tryz.func191 rfl sp (by rintro v J L ⟨b, _, _, _, _, _, _, _, rfl, _⟩; exact ⟨b, rfl⟩)
theorem txn_Step8 {I : Imm} {g l t : Nat} {z : Gp} {Lgr : Chunks} (hg : IsGr I g l t z Lgr) {tb : Tb} {Lt : Chunks} (hT : IsT I t tb Lt) {s d n : Nat} {x : Lg} {y : Dk} {Ll : Chunks} (hlg : IsLog I l s d n x y Ll) (hpr : z.pre tb) (hk0 : z.at_ = 8) : Spec Tryz.prog 15 [.pointer (some ⟨g, 0, none⟩)] I (Lgr ++ (Lt ++ Ll)) (StpQ l s d n g t x y tb z) := by
 have sp : Spec Tryz.prog 114 [.pointer (some ⟨g, 0, none⟩)] I (Lgr ++ (Lt ++ Ll)) (StpQ l s d n g t x y tb z) := Spec.withL (txn_frees hg hT (hpr.put (.inr hk0))) (by
  rintro v J L1 hJ ⟨tb2, Lg2, Lt2, rfl, hq, rfl, h1, h2⟩
  exact ⟨_, _, rfl, ⟨_, _, _, _, _, _, _, .free hk0 _ hq, rfl, rfl, h1, h2, hlg.mono hJ⟩⟩)
 cases hg with
 | mk hc hn hw hs hp hb hl hk => exact txn_StepF (by rw [hk0]; rfl) Tryz.func114 rfl sp (by rintro v J L ⟨b, _, _, _, _, _, _, _, rfl, _⟩; exact ⟨b, rfl⟩)
theorem txn_Step9 {I : Imm} {g l t : Nat} {z : Gp} {Lgr : Chunks} (hg : IsGr I g l t z Lgr) {tb : Tb} {Lt : Chunks} (hT : IsT I t tb Lt) {s d n : Nat} {x : Lg} {y : Dk} {Ll : Chunks} (hlg : IsLog I l s d n x y Ll) (hk0 : 9 ≤ z.at_) : Spec Tryz.prog 15 [.pointer (some ⟨g, 0, none⟩)] I (Lgr ++ (Lt ++ Ll)) (StpQ l s d n g t x y tb z) := by
 have sp : Spec Tryz.prog 15 [.pointer (some ⟨g, 0, none⟩)] I (Lgr ++ []) (fun v J L => v = .bool true ∧ I = J ∧ L = Lgr) := by
  cases hg with
  | mk hc hn hw hs hp hb hl hk => rw [nextV_9 hk0]; exact txn_StepN (nx := .nilFunc)
 have := Spec.withL (G := Lt ++ Ll) sp (R' := StpQ l s d n g t x y tb z) (by
  rintro v J L1 hJ ⟨rfl, rfl, rfl⟩
  exact ⟨_, [], (List.append_nil _).symm, ⟨true, z, x, tb, _, Lt, Ll, .nil hk0, rfl, rfl, hg, hT, hlg⟩⟩)
 exact this
theorem txn_Step {I : Imm} {g l t : Nat} {z : Gp} {Lgr : Chunks} (hg : IsGr I g l t z Lgr) {tb : Tb} {Lt : Chunks} (hT : IsT I t tb Lt) {s d n : Nat} {x : Lg} {y : Dk} {Ll : Chunks} (hlg : IsLog I l s d n x y Ll) (hpr : z.pre tb) : Spec Tryz.prog 15 [.pointer (some ⟨g, 0, none⟩)] I (Lgr ++ (Lt ++ Ll)) (StpQ l s d n g t x y tb z) := by
 rcases (by omega : z.at_ = 0 ∨ z.at_ = 1 ∨ z.at_ = 2 ∨ z.at_ = 3 ∨ z.at_ = 4 ∨ z.at_ = 5 ∨ z.at_ = 6 ∨ z.at_ = 7 ∨ z.at_ = 8 ∨ 9 ≤ z.at_) with h | h | h | h | h | h | h | h | h | h
 ·exact txn_Step0 hg hT hlg hpr h
 ·exact txn_Step1 hg hT hlg hpr h
 ·exact txn_Step2 hg hT hlg hpr h
 ·exact txn_Step3 hg hT hlg hpr h
 ·exact txn_Step4 hg hT hlg hpr h
 ·exact txn_Step5 hg hT hlg hpr h
 ·exact txn_Step6 hg hT hlg hpr h
 ·exact txn_Step7 hg hT hlg hpr h
 ·exact txn_Step8 hg hT hlg hpr h
 ·exact txn_Step9 hg hT hlg h

structure NwX where
 i : Nat
 J : Imm
 v : Value
 L : Chunks
 ps : List (Pr × Value)
structure NdX where
 j : Nat
 J : Imm
 nv : List (Bool × Value)
 L : Chunks
theorem RNodes.nil (J : Imm) : RNodes J (.slice none 0 0) [] := ⟨[], ⟨none, 0, rfl, Nat.le_refl _, rfl, .inl rfl⟩, ⟨rfl, fun i x h => by cases h⟩⟩
theorem RPrs.nil (J : Imm) : RPrs J (.slice none 0 0) [] := ⟨⟨none, 0, rfl, Nat.le_refl _, rfl, .inl rfl⟩, fun x h => by cases h⟩
def cm0 : Cm := ⟨1, 0, 0, 0, [], zeroEnt⟩
theorem prC_len (l : List (Pr × Value)) : (prC l).length = l.length * 3 := by
 induction l with
 | nil => rfl
 | cons a l ih => rw [prC, List.flatMap_cons, List.length_append]; unfold prC at ih; rw [ih, List.length_cons]; show 3 + _ = _; omega
theorem prs_snoc (l : List (Pr × Value)) (r : Pr) (v : Value) : prs (l ++ [(r, v)]) = prs l ++ [r] := by simp [prs]
theorem prC_snoc (l : List (Pr × Value)) (r : Pr) (v : Value) : prC (l ++ [(r, v)]) = prC l ++ [.int .i64 r.page, .int .i64 r.prev, v] := by simp [prC, prV]
theorem txn_New {I : Imm} {l t tok : Nat} {vp : Value} {pages : List (Pr × Value)} (hp : RPrs I vp pages) (hln : pages.length ≤ 1099511627776) (hsz : (∀ x ∈ pages, x.1.nodes.length ≤ 4398046510976) ∧ ∀ x ∈ pages, ∀ y ∈ x.1.nodes, y.2.length ≤ 140737488351232) : Spec Tryz.prog 13 [.pointer (some ⟨l, 0, none⟩), .pointer (some ⟨t, 0, none⟩), .int .u64 (tok : Int), vp] I [] (fun v J L => ∃ g ps Lg, v = .pointer (some ⟨g, 0, none⟩) ∧ prs ps = prs pages ∧ L = Lg ∧ IsGr J g l t ⟨0, cm0, tok, ps, [], 0, []⟩ Lg) := by
 obtain ⟨Ap, cp, rfl, hcp, _, _⟩ := id hp.rd
 refine Spec.of Tryz.func13 rfl Tryz.ntmps13 (Nat.le_of_ble_eq_true rfl) (fun F => ?_)
 try simp only [nf]
 dsimp only [argsEnv]
 refine WP.seq ?_; refine WP.region [0] rfl ?_; refine WP.mv rfl rfl ?_; refine WP.nil (WP.next (WP.seq ?_))
 refine WP.region [0, 1, 2, 3] rfl ?_; refine WP.mv rfl rfl ?_; refine WP.vl rfl (Yld.buildS (pl := [(1, 18, 1)]) rfl ty_zr_60 ty_zd_60 zK rfl (vs := [_]) rfl (segs := [(18, [_])]) rfl rfl zS) ?_; refine WP.loud rfl rfl ?_; refine Op.box rfl rfl rfl rfl rfl (fun g => ?_)
 refine WP.mv rfl rfl ?_; refine WP.nil ?_; refine WP.sub [(0, _), (1, _), (2, _), (3, _), (8, _), (9, _)] ?_ ⟨rfl, rfl, rfl, rfl, rfl, rfl, trivial⟩
 refine WP.next (WP.seq (WP.seq ?_))
 refine WP.region [0, 1, 2] rfl ?_; refine WP.mv rfl rfl ?_; refine WP.vl rfl (Yld.len rfl ty_sl_52 rfl) ?_; refine WP.mv rfl rfl ?_; refine WP.nil (WP.next (WP.block ?_))
 refine WP.loop (X := NwX) (fun u : NwX => [(0, .pointer (some ⟨l, 0, none⟩)), (1, .pointer (some ⟨t, 0, none⟩)), (8, .pointer none), (9, .pointer (some ⟨g, 0, none⟩)), (18, .slice Ap pages.length cp), (19, .int .i64 (pages.length : Int)), (20, .int .i64 (u.i : Int))]) (fun u => u.J) (fun u : NwX => (g, row 60 [.pointer none, .pointer none, .nilFunc, .int .i64 0, .int .i64 0, .int .i64 0, .int .i64 0, .slice none 0 0, .int .u64 0, .slice none 0 0, .int .i64 0, .int .i64 0, .int .i64 0, .int .i64 0, .int .i64 0, .int .i64 0, .slice none 0 0, .nilFunc, .int .u64 (tok : Int), u.v, .slice none 0 0, .int .i64 0, .slice none 0 0]) :: (u.L ++ F)) (fun u : NwX => u.i ≤ pages.length ∧ I.le u.J ∧ Own 51 3 u.v (prC u.ps) u.i u.L ∧ prs u.ps = (prs pages).take u.i ∧ ∀ x ∈ u.ps, RNodes u.J x.2 x.1.nodes) (fun u => pages.length - u.i) ⟨0, I, .slice none 0 0, [], []⟩ ⟨Nat.zero_le _, Imm.le_refl _, .none0, rfl, fun x h => by cases h⟩ ⟨rfl, rfl, rfl, rfl, rfl, rfl, rfl, trivial⟩ rfl zP ?_; rintro ⟨i, J, vo, Lo, ps⟩ ⟨hle, hJ, ho, hps, hpn⟩; dsimp only at hle hJ ho hps hpn; obtain ⟨Ao, co, rfl, _⟩ := ho.slice
 try dsimp only
 try simp only [nf]
 refine WP.seq ?_; refine WP.region [0] rfl ?_; refine WP.split rfl rfl rfl rfl (Yld.lss rfl rfl rfl) (fun hlt => ?_) (fun hlt => ?_)
 ·have hi : i < pages.length := by omega
  obtain ⟨bl, kl, Tl, fl, arl, ea, hbl, hcl9⟩ := hp.at_ hi
  obtain ⟨nv0, hn0, hno0⟩ := id (hp.el _ (List.getElem_mem hi)).ex
  have hr1 : pages[i].2.oneCell' = true := by obtain ⟨A, c, e, _⟩ := hn0; rw [e]; rfl
  have hnl := hsz.1 _ (List.getElem_mem hi)
  have hdl := hsz.2 _ (List.getElem_mem hi)
  have hnlen := hno0.len
  refine WP.nil (WP.next (WP.seq ?_))
  refine WP.condT rfl ?_; refine WP.skip (WP.next (WP.seq (WP.block (WP.seq ?_))))
  refine WP.region [0, 1, 2, 3] rfl ?_; refine WP.vl rfl (Yld.indexAddr (i := i) rfl ty_sl_52 (congrArg (fun a => some (Value.slice a pages.length cp)) ea) rfl hi) ?_; refine WP.vl rfl (Yld.loadAggC (vs := [.int .i64 pages[i].1.page, .int .i64 pages[i].1.prev, pages[i].2]) rfl ty_ag_51 rfl (There.i (hJ.2 _ _ hbl)) hcl9 rfl) ?_; refine WP.loud rfl rfl ?_; refine Op.alloc rfl rfl rfl ty_zr_51 (fun b11 => ?_)
  refine WP.loud rfl rfl ?_; refine Op.sA rfl rfl ty_sz_51 rfl rfl rfl (by show (true && (true && (pages[i].2.oneCell' && true))) = true; rw [hr1]; rfl) rfl ?_; refine WP.nil ?_; refine WP.sub [(0, _), (1, _), (8, _), (9, _), (11, _), (18, _), (19, _), (20, _), (21, _)] ?_ ⟨rfl, rfl, rfl, rfl, rfl, rfl, rfl, rfl, rfl, trivial⟩
  refine WP.next (WP.seq ?_)
  refine WP.region [0, 1, 2, 3] rfl ?_; refine WP.vl rfl (Yld.fieldAddr rfl ty_fd_51_2 rfl) ?_; refine WP.vl rfl (Yld.ld (v := pages[i].2) rfl ty_sc_41 rfl rfl) ?_; refine WP.loud rfl rfl ?_; refine Op.append (m := pages[i].1.nodes.length) rfl ty_sl_41 ty_el_41 rfl rfl rfl rfl rfl Own.none0 (hn0.mono (fun b o h => There.i (hJ.2 _ _ h))) Take.nil (ndV_one nv0 hno0) (by omega) (by omega) (fun vq Lq hq => ?_)
  try simp only [nf]
  rw [List.nil_append] at hq
  obtain ⟨Aq, cq, rfl, _⟩ := hq.slice
  obtain ⟨nl, hnl2⟩ : ∃ k, k = pages[i].1.nodes.length := ⟨_, rfl⟩
  rw [Nat.zero_add, ← hnl2] at hq ⊢
  refine WP.mv rfl rfl ?_; refine WP.nil ?_; refine WP.sub [(0, _), (1, _), (8, _), (9, _), (11, _), (12, _), (18, _), (19, _), (20, _), (21, _)] ?_ ⟨rfl, rfl, rfl, rfl, rfl, rfl, rfl, rfl, rfl, rfl, trivial⟩
  refine WP.next (WP.seq (WP.seq ?_))
  refine WP.region [0, 1, 2] rfl ?_; refine WP.mv rfl rfl ?_; refine WP.vl rfl (Yld.len rfl ty_sl_41 rfl) ?_; refine WP.mv rfl rfl ?_; refine WP.nil (WP.next (WP.block ?_))
  refine WP.loop (X := NdX) (fun u : NdX => [(0, .pointer (some ⟨l, 0, none⟩)), (1, .pointer (some ⟨t, 0, none⟩)), (8, .pointer none), (9, .pointer (some ⟨g, 0, none⟩)), (18, .slice Ap pages.length cp), (19, .int .i64 (pages.length : Int)), (20, .int .i64 (i : Int)), (11, .pointer (some ⟨b11, 0, none⟩)), (12, .slice Aq nl cq), (27, .slice Aq nl cq), (28, .int .i64 (nl : Int)), (29, .int .i64 (u.j : Int))]) (fun u => u.J) (fun u : NdX => (b11, row 51 [.int .i64 pages[i].1.page, .int .i64 pages[i].1.prev, pages[i].2]) :: ((g, row 60 [.pointer none, .pointer none, .nilFunc, .int .i64 0, .int .i64 0, .int .i64 0, .int .i64 0, .slice none 0 0, .int .u64 0, .slice none 0 0, .int .i64 0, .int .i64 0, .int .i64 0, .int .i64 0, .int .i64 0, .int .i64 0, .slice none 0 0, .nilFunc, .int .u64 (tok : Int), (.slice Ao i co), .slice none 0 0, .int .i64 0, .slice none 0 0]) :: (u.L ++ (Lo ++ F)))) (fun u : NdX => u.j ≤ nl ∧ J.le u.J ∧ Own 63 2 (.slice Aq nl cq) (u.nv.flatMap ndV) nl u.L ∧ NodesOk (Imv u.J) u.nv pages[i].1.nodes) (fun u => nl - u.j) ⟨0, J, nv0, Lq⟩ ⟨Nat.zero_le _, Imm.le_refl _, hq, hno0.mono (Imv.le hJ)⟩ ⟨rfl, rfl, rfl, rfl, rfl, rfl, rfl, rfl, rfl, rfl, rfl, rfl, trivial⟩ rfl zA ?_; rintro ⟨j, J1, nv, L1⟩ ⟨hle1, hJ1, ho1, hno1⟩; dsimp only at hle1 hJ1 ho1 hno1
  try dsimp only
  try simp only [nf]
  refine WP.seq ?_; refine WP.region [0] rfl ?_; refine WP.split rfl rfl rfl rfl (Yld.lss rfl rfl rfl) (fun hlt1 => ?_) (fun hlt1 => ?_)
  ·have hj : j < nl := by omega
   have hjn : j < nv.length := by rw [hno1.len]; omega
   obtain ⟨d, hd1, hd2⟩ := hno1.at_ j _ (List.getElem?_eq_getElem hjn)
   obtain ⟨Ad, cd, hvd, hcd, _⟩ := id hd2
   have hdl1 := hdl _ (List.mem_of_getElem? hd1)
   dsimp only at hdl1
   obtain ⟨bn, cn, sp, hvq, hLq, hcap, hncap⟩ := ho1.get (by omega)
   subst hLq
   injection hvq with hA1 _ hA2
   subst hA1
   subst hA2
   refine WP.nil (WP.next (WP.seq ?_))
   refine WP.condT rfl ?_; refine WP.skip (WP.next (WP.seq (WP.block (WP.seq ?_))))
   refine WP.region [0, 1, 2, 3, 4, 5] rfl ?_; refine WP.mv rfl rfl ?_; refine WP.vl rfl (Yld.indexAddr (i := j) rfl ty_sl_41 rfl rfl hj) ?_; refine WP.vl rfl (Yld.loadAggC rfl ty_ag_63 rfl (show There _ _ bn (row 63 (nv.flatMap ndV ++ sp)) from zM) (flat_seg ndV_len hjn sp) rfl) ?_; refine WP.loud rfl rfl ?_; refine Op.alloc rfl rfl rfl ty_zr_63 (fun b14 => ?_)
   refine WP.mv rfl rfl ?_; refine WP.loud rfl rfl ?_; refine Op.sA rfl rfl ty_sz_63 rfl rfl rfl (by simp only [ndV, hvd]; rfl) rfl ?_; refine WP.nil ?_; refine WP.sub [(0, _), (1, _), (8, _), (9, _), (11, _), (12, _), (13, _), (14, _), (18, _), (19, _), (20, _), (27, _), (28, _), (29, _), (30, _)] ?_ ⟨rfl, rfl, rfl, rfl, rfl, rfl, rfl, rfl, rfl, rfl, rfl, rfl, rfl, rfl, rfl, trivial⟩
   refine WP.next ?_; refine WP.region [0, 1, 2, 3, 4, 5, 6, 7] rfl ?_; iterate 2 refine WP.mv rfl rfl ?_
   refine WP.vl rfl (Yld.fieldAddr rfl ty_fd_63_1 rfl) ?_; refine WP.vl rfl (Yld.ld (v := nv[j].2) rfl ty_sc_49 rfl rfl) ?_; refine WP.loud rfl rfl ?_; refine Op.append (m := d.length) rfl ty_sl_49 ty_el_49 rfl rfl rfl rfl rfl Own.none0 (hd2.mono (fun b o h => There.i h)) Take.nil (bytesV_one _) (by omega) (by omega) (fun vd Ld hod => ?_)
   try simp only [nf]
   rw [List.nil_append, Nat.zero_add] at hod
   obtain ⟨Ad2, cd2, rfl, _⟩ := hod.slice
   refine WP.vl rfl (Yld.indexAddr (i := j) rfl ty_sl_41 rfl rfl hj) ?_; refine WP.vl rfl (Yld.fieldAddr rfl ty_fd_63_1 rfl) ?_; refine WP.loud rfl rfl ?_; refine Op.store1 rfl rfl ty_sz_49 rfl rfl rfl (by repeat (first | exact Upd.head | apply Upd.tail | apply Upd.tailS)) (flat_set ndV_len hjn (by decide) sp (nv[j].1, .slice Ad2 d.length cd2) rfl) ?_; refine WP.nil ?_; refine WP.sub [(0, _), (1, _), (8, _), (9, _), (11, _), (12, _), (13, _), (14, _), (18, _), (19, _), (20, _), (27, _), (28, _), (29, _), (30, _)] ?_ ⟨rfl, rfl, rfl, rfl, rfl, rfl, rfl, rfl, rfl, rfl, rfl, rfl, rfl, rfl, rfl, trivial⟩
   refine WP.shO hod (fun J2 hJ2 hd9 => ?_)
   refine WP.leave (WP.next ?_)
   refine WP.region [0, 1] rfl ?_; refine WP.vl rfl (Yld.add64 rfl rfl rfl (by omega)) ?_; refine WP.mv rfl rfl ?_; refine WP.nil ?_; refine WP.sub [(0, _), (1, _), (8, _), (9, _), (11, _), (12, _), (13, _), (14, _), (18, _), (19, _), (20, _), (27, _), (28, _), (29, _), (30, _)] ?_ ⟨rfl, rfl, rfl, rfl, rfl, rfl, rfl, rfl, rfl, rfl, rfl, rfl, rfl, rfl, rfl, trivial⟩
   exact WP.again ⟨j + 1, J2, nv.set j (nv[j].1, .slice Ad2 d.length cd2), [(bn, row 63 ((nv.set j (nv[j].1, .slice Ad2 d.length cd2)).flatMap ndV ++ sp))]⟩ ⟨hj, Imm.le_trans hJ1 hJ2, .blk (by rw [flat_len ndV_len, List.length_set, hno1.len, hnl2]) (by rw [flat_len ndV_len, List.length_set]; rw [flat_len ndV_len] at hcap; exact hcap) hncap, (hno1.mono (Imv.le hJ2)).set hjn hd1 hd9⟩ (show nl - (j + 1) < nl - j by omega) ⟨rfl, rfl, rfl, rfl, rfl, rfl, rfl, rfl, rfl, rfl, rfl, rfl, trivial⟩ rfl zA
  ·have hno1l := hno1.len
   refine WP.shO ho1 (fun J2 hJ2 hnn => ?_)
   have hrn : RNodes J2 (.slice Aq nl cq) pages[i].1.nodes := ⟨nv, hnl2 ▸ hnn, hno1.mono (Imv.le hJ2)⟩
   have hJ02 := Imm.le_trans hJ1 hJ2
   refine WP.nil (WP.next (WP.seq ?_))
   refine WP.condF rfl ?_; refine WP.exit (WP.thenE (WP.thenE (WP.hit (WP.next (WP.seq ?_)))))
   refine WP.region [0, 1, 2] rfl ?_; refine WP.mv rfl rfl ?_; refine WP.vl rfl (Yld.fieldAddr rfl ty_fd_51_2 rfl) ?_; refine WP.loud rfl rfl ?_; refine Op.s1 rfl rfl ty_sz_41 rfl rfl rfl ?_; refine WP.nil ?_; refine WP.sub [(0, _), (1, _), (8, _), (9, _), (11, _), (12, _), (18, _), (19, _), (20, _), (27, _), (28, _), (29, _), (30, _)] ?_ ⟨rfl, rfl, rfl, rfl, rfl, rfl, rfl, rfl, rfl, rfl, rfl, rfl, rfl, trivial⟩
   refine WP.next ?_; refine WD.start Tryzmixed 7 (fun c o => (c = g ∧ o = row 60 [.pointer none, .pointer none, .nilFunc, .int .i64 0, .int .i64 0, .int .i64 0, .int .i64 0, .slice none 0 0, .int .u64 0, .slice none 0 0, .int .i64 0, .int .i64 0, .int .i64 0, .int .i64 0, .int .i64 0, .int .i64 0, .slice none 0 0, .nilFunc, .int .u64 (tok : Int), (.slice Ao i co), .slice none 0 0, .int .i64 0, .slice none 0 0]) ∨ (c = b11 ∧ o = row 51 [.int .i64 pages[i].1.page, .int .i64 pages[i].1.prev, .slice Aq nl cq])) (fun _ _ => False) (by rintro _ _ (⟨rfl, rfl⟩ | ⟨rfl, rfl⟩) <;> exact zM) (fun _ _ h => h.elim) 11 [false, false, false, false, false, false, false, false, false, false, false] rfl rfl ?_; refine WD.vl (i := 0) rfl (Yld.move rfl rfl) ?_; refine WD.vl (i := 1) rfl (Yld.move rfl rfl) ?_; refine WD.vl (i := 2) rfl (Yld.nilCheck rfl rfl) ?_; refine WD.vl (i := 3) rfl (Yld.fieldAddr rfl ty_fd_60_2 rfl) ?_; refine WD.val1 (i := 4) rfl rfl rfl rfl zK rfl zK (Yld.load (v := .slice Ao i co) rfl ty_sc_52 rfl (.inl (.inl ⟨rfl, rfl⟩)) rfl) ?_; refine WD.val1 (i := 5) rfl rfl rfl rfl zK rfl zK (Yld.loadAgg (vs := [.int .i64 pages[i].1.page, .int .i64 pages[i].1.prev, .slice Aq nl cq]) rfl ty_ag_51 rfl (.inl (.inr ⟨rfl, rfl⟩)) rfl rfl) ?_; refine WD.loud (i := 6) zK rfl rfl rfl ?_; refine Op.buildSlice rfl ty_sl_52 ty_el2_52 rfl rfl rfl rfl (vs := [_]) rfl (segs := [(0, [.int .i64 pages[i].1.page, .int .i64 pages[i].1.prev, .slice Aq nl cq])]) (cs := [.int .i64 pages[i].1.page, .int .i64 pages[i].1.prev, .slice Aq nl cq]) rfl rfl (.seg (Nat.le_refl _) rfl .nil) (fun bq => ?_)
   refine WD.go (.inr (by rintro _ _ (⟨rfl, rfl⟩ | ⟨rfl, rfl⟩) <;> exact zM)) (fun _ _ h => h.elim) ?_; refine WD.loud (i := 7) zK rfl rfl rfl ?_; refine Op.append (m := 1) rfl ty_sl_52 ty_el_52 rfl rfl rfl rfl rfl ho (SlRd.lit (m := 1) zM rfl (Nat.le_refl _)) zT rfl (by omega) (by omega) (fun vu Lu hu => ?_)
   try simp only [nf]
   obtain ⟨Au, cu, rfl, _⟩ := hu.slice
   have hu2 : Own 51 3 (.slice Au (i + 1) cu) (prC (ps ++ [(pages[i].1, .slice Aq nl cq)])) (i + 1) Lu := by rw [prC_snoc]; exact hu
   refine WD.go (.inl rfl) (fun _ _ h => h.elim) ?_; refine WD.vl (i := 8) rfl (Yld.nilCheck rfl rfl) ?_; refine WD.vl (i := 9) rfl (Yld.fieldAddr rfl ty_fd_60_2 rfl) ?_; refine WD.loud (i := 10) zK rfl rfl rfl ?_; refine Op.s1 rfl rfl ty_sz_52 rfl rfl rfl ?_; refine WD.go (.inl rfl) (fun _ _ h => h.elim) ?_; refine WD.done zK ?_; refine WP.sub [(0, _), (1, _), (8, _), (9, _), (11, _), (12, _), (18, _), (19, _), (20, _), (27, _), (28, _), (29, _), (30, _)] ?_ ⟨rfl, rfl, rfl, rfl, rfl, rfl, rfl, rfl, rfl, rfl, rfl, rfl, rfl, trivial⟩
   obtain ⟨J4, hJ4⟩ : ∃ x, x = J2 := ⟨_, rfl⟩
   subst hJ4
   have hJ04 := Imm.le_trans hJ hJ02
   have hpn4 : ∀ x ∈ ps ++ [(pages[i].1, .slice Aq nl cq)], RNodes J4 x.2 x.1.nodes := fun x hx => by rcases List.mem_append.1 hx with hx | hx; exact (hpn x hx).mono hJ02; cases List.mem_singleton.1 hx; exact hrn
   refine WP.leave (WP.next ?_)
   refine WP.region [0, 1] rfl ?_; refine WP.vl rfl (Yld.add64 rfl rfl rfl (by omega)) ?_; refine WP.mv rfl rfl ?_; refine WP.nil ?_; refine WP.sub [(0, _), (1, _), (8, _), (9, _), (11, _), (12, _), (18, _), (19, _), (20, _), (27, _), (28, _), (29, _), (30, _)] ?_ ⟨rfl, rfl, rfl, rfl, rfl, rfl, rfl, rfl, rfl, rfl, rfl, rfl, rfl, trivial⟩
   exact WP.ag ⟨i + 1, J4, .slice Au _ cu, Lu, ps ++ [(pages[i].1, .slice Aq nl cq)]⟩ ⟨hi, hJ04, hu2, by rw [prs_snoc, hps, List.take_succ_eq_append_getElem (by rw [prs_len]; exact hi), prs_at hi], hpn4⟩ (show pages.length - (i + 1) < pages.length - i by omega) ⟨rfl, rfl, rfl, rfl, rfl, rfl, rfl, trivial⟩ rfl
 ·obtain rfl : i = pages.length := by omega
  refine WP.shO ho (fun J5 hJ5 hpso => ?_)
  have hpsl : ps.length = pages.length := by have := congrArg List.length hps; rw [prs_len, List.length_take, prs_len] at this; omega
  have hps2 : prs ps = prs pages := by rw [hps, List.take_of_length_le (by rw [prs_len]; exact Nat.le_refl _)]
  refine WP.nil (WP.next (WP.seq ?_))
  refine WP.condF rfl ?_; refine WP.exit (WP.thenE (WP.thenE (WP.hit (WP.next (WP.seq ?_)))))
  refine WP.region [0, 1, 2, 3, 4, 5, 6, 7] rfl ?_; iterate 3 refine WP.mv rfl rfl ?_
  refine WP.vl rfl (Yld.buildS (pl := [(0, 0, 1), (1, 1, 1), (3, 3, 1)]) rfl ty_zr_54 ty_zd_54 zK rfl (vs := [_, _, _]) rfl (segs := [(0, [_]), (1, [_]), (3, [_])]) rfl rfl zS) ?_; refine WP.vl rfl (Yld.nilCheck rfl rfl) ?_; refine WP.vl rfl (Yld.fieldAddr rfl ty_fd_60_0 rfl) ?_; refine WP.vl rfl (Yld.fieldAddr rfl ty_fd_58_0 rfl) ?_; refine WP.loud rfl rfl ?_; refine Op.storeN rfl rfl ty_sz_54 rfl rfl rfl rfl (Nat.le_of_ble_eq_true rfl) (show [.pointer (some ⟨l, 0, none⟩), .pointer (some ⟨t, 0, none⟩), .nilFunc, .int .i64 1, .int .i64 0, .int .i64 0, .int .i64 0, .slice none 0 0, .int .u64 0, .slice none 0 0, .int .i64 0, .int .i64 0, .int .i64 0, .int .i64 0, .int .i64 0, .int .i64 0, .slice none 0 0, .nilFunc, .int .u64 (tok : Int), (.slice Ao pages.length co), .slice none 0 0, .int .i64 0, .slice none 0 0] = _ from rfl) (by repeat (first | exact Upd.head | apply Upd.tail | apply Upd.tailS)) ?_; refine WP.nil ?_; refine WP.sub [(0, _), (1, _), (8, _), (9, _), (18, _), (19, _), (20, _), (21, _)] ?_ ⟨rfl, rfl, rfl, rfl, rfl, rfl, rfl, rfl, trivial⟩
  refine WP.next (WP.seq ?_)
  refine WP.region [0, 1, 2, 3, 4, 5, 6, 7, 8, 9, 10, 11, 12, 13, 14] rfl ?_; iterate 3 refine WP.mv rfl rfl ?_
  refine WP.vl rfl (Yld.makeFunc rfl (vs := [_]) (us := []) rfl rfl) ?_; refine WP.mv rfl rfl ?_; refine WP.vl rfl (Yld.makeFunc rfl (vs := [_]) (us := []) rfl rfl) ?_; refine WP.vl rfl (Yld.nilCheck rfl rfl) ?_; refine WP.vl rfl (Yld.fieldAddr rfl ty_fd_60_0 rfl) ?_; refine WP.vl rfl (Yld.fieldAddr rfl ty_fd_58_0 rfl) ?_; refine WP.vl rfl (Yld.fieldAddr rfl ty_fd_54_2 rfl) ?_; refine WP.loud rfl rfl ?_; refine Op.s1 rfl rfl ty_sz_23 rfl rfl rfl ?_; refine WP.vl rfl (Yld.nilCheck rfl rfl) ?_; refine WP.vl rfl (Yld.fieldAddr rfl ty_fd_60_0 rfl) ?_; refine WP.vl rfl (Yld.fieldAddr rfl ty_fd_58_5 rfl) ?_; refine WP.loud rfl rfl ?_; refine Op.s1 rfl rfl ty_sz_23 rfl rfl rfl ?_; refine WP.nil ?_; refine WP.sub [(0, _), (1, _), (8, _), (9, _), (18, _), (19, _), (20, _), (21, _)] ?_ ⟨rfl, rfl, rfl, rfl, rfl, rfl, rfl, rfl, trivial⟩
  refine WP.next (WP.seq ?_)
  refine WP.region [0, 1] rfl ?_; iterate 2 refine WP.mv rfl rfl ?_
  refine WP.nil ?_; refine WP.sub [(0, _), (1, _), (8, _), (9, _), (18, _), (19, _), (20, _), (21, _)] ?_ ⟨rfl, rfl, rfl, rfl, rfl, rfl, rfl, rfl, trivial⟩
  refine WP.next (WP.ret ?_)
  refine WP.fn .ret (.inr rfl) (res1 rfl rfl) [(g, row 60 (cmV l t (nextV g 0) (.func (.func 53) [.pointer (some ⟨g, 0, none⟩)].toArray [].toArray) cm0 (.slice none 0 0) (.slice none 0 0) (.slice none 0 0) [.int .u64 (tok : Int), .slice Ao pages.length co, .slice none 0 0, .int .i64 0, .slice none 0 0]))] (Imm.le_trans hJ hJ5) ?_; exact ⟨g, ps, _, rfl, hps2, rfl, .mk (z := ⟨0, cm0, tok, ps, [], 0, []⟩) ⟨none, 0, rfl, Nat.le_refl _, rfl, .inl rfl⟩ (RNodes.nil _) ⟨none, 0, rfl, Nat.le_refl _, rfl, .inl rfl⟩ zero_sized (by rw [← hpsl] at hpso; exact ⟨hpsl ▸ hpso, fun x hx => (hpn x hx).mono hJ5⟩) ⟨none, 0, rfl, Nat.le_refl _, rfl, .inl rfl⟩ (RPrs.nil _) (by rw [show (⟨0, cm0, tok, ps, [], 0, []⟩ : Gp).pages = ps from rfl]; omega)⟩


end Go.Hp
