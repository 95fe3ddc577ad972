import Derived.Test.YtgcbhbcmohcdpaaGreatHpQuiet
import Derived.Test.YtgcbhbcmohcdpaaGreatTy
import Derived.Test.YtgcbhbcmohcdpaaGreatHpPtr
set_option linter.unusedVariables false
set_option linter.unusedSimpArgs false
namespace Go.Hp
open Go Go.Proofs

theorem ext_store {I : Imm} {L L' : Chunks} {b k T : Nat} {cs cs' : List Value} {y : Int} (hu : Upd L b (row T cs) (row T cs') L') (hs : SetAt cs k (.int .i64 y) cs') :
  Ans Tryz.prog 65 [Value.pointer (some ⟨b, k, none⟩), .int .i64 y] I L (.tuple #[]) I L' := fun W hW => by
 obtain ⟨h1, _⟩ := hs.spec
 have hc : W.cell? ⟨b, k, none⟩ = some cs[k] := by simp [World.cell?, hW.own _ hu.mem, row, h1]
 exact ⟨_, run_call_store Tryz.func65 rfl rfl rfl rfl hc (by simp [World.frozen?, hW.own _ hu.mem, row]), hW.setCell hu hs⟩
theorem atStore {I : Imm} {b k T : Nat} {cs cs' : List Value} {y : Int} (hs : SetAt cs k (.int .i64 y) cs') : Spec Tryz.prog 57 [.pointer (some ⟨b, k, none⟩), .int .i64 y] I [(b, row T cs)] (fun v J L => v = .tuple #[] ∧ I = J ∧ L = [(b, row T cs')]) := by
 refine Spec.of Tryz.func57 rfl Tryz.ntmps57 (Nat.le_of_ble_eq_true rfl) (fun F => ?_)
 try simp only [nf]
 dsimp only [argsEnv]
 refine WP.region [0, 1, 2, 3, 4] rfl ?_; refine WP.mv rfl rfl ?_; refine WP.vl rfl (Yld.nilCheck rfl rfl) ?_; refine WP.vl rfl (Yld.fieldAddr rfl ty_fd_161_2 rfl) ?_; refine WP.mv rfl rfl ?_; refine WP.loud rfl rfl ?_; refine Op.ext (ext_store Upd.head hs) rfl rfl rfl rfl ?_; refine WP.nil ?_; refine WP.sub [(0, _), (1, _)] ?_ ⟨rfl, rfl, trivial⟩
 refine WP.fn .normal (.inl rfl) (res0 rfl) [(b, row T cs')] (Imm.le_refl _) ?_; exact ⟨rfl, rfl, rfl⟩

theorem cell_NewCount (I : Imm) : Spec Tryz.prog 56 [] I [] (fun v J L => ∃ c, v = .pointer (some ⟨c, 0, none⟩) ∧ I = J ∧ L = [(c, row 171 [.int .i64 0, .int .i64 0, .int .i64 0, .int .i64 0, .int .i64 0])]) := by
 refine Spec.of Tryz.func56 rfl Tryz.ntmps56 (Nat.le_of_ble_eq_true rfl) (fun F => ?_)
 try simp only [nf]
 dsimp only [argsEnv]
 refine WP.seq ?_; refine WP.region [0] rfl ?_; refine WP.mv rfl rfl ?_; refine WP.nil (WP.next (WP.seq ?_))
 refine WP.region [0, 1, 2] rfl ?_; refine WP.vl rfl (Yld.buildS (pl := []) rfl ty_zr_171 ty_zd_171 zK rfl (vs := []) rfl (segs := []) rfl rfl zS) ?_; refine WP.loud rfl rfl ?_; refine Op.box rfl rfl rfl rfl rfl (fun b2 => ?_)
 refine WP.mv rfl rfl ?_; refine WP.nil ?_; refine WP.sub [(0, _)] ?_ ⟨rfl, trivial⟩
 refine WP.next (WP.ret ?_)
 refine WP.fn .ret (.inr rfl) (res1 rfl rfl) [_] (Imm.le_refl _) ?_; exact ⟨_, rfl, rfl, rfl⟩

/-- A page's entry. -/
structure Ent where
 tok : Nat
 nodes : List (Bool × List UInt8)
 place : Int
 no : Int
 low : Int
 kept : Int
 txn : Int
 lead : Int
 with_ : List Int
def ndV (x : Bool × Value) : List Value := [.bool x.1, x.2]
structure NodesOk (V : Nat → Obj → Prop) (nv : List (Bool × Value)) (l : List (Bool × List UInt8)) : Prop where
 len : nv.length = l.length
 at_ : ∀ (i : Nat) (x : Bool × Value), nv[i]? = some x → ∃ d, l[i]? = some (x.1, d) ∧ SlRd V x.2 d.length 1 (bytesV d)
theorem NodesOk.mono {V V' : Nat → Obj → Prop} {nv : List (Bool × Value)} {l : List (Bool × List UInt8)} (h : NodesOk V nv l) (hV : ∀ b o, V b o → V' b o) : NodesOk V' nv l := ⟨h.len, fun i x hx => by obtain ⟨d, h1, h2⟩ := h.at_ i x hx; exact ⟨d, h1, h2.mono hV⟩⟩
def Imv (I : Imm) : Nat → Obj → Prop := fun b o => I.blk b = some o
theorem Imv.le {I J : Imm} (h : I.le J) (b : Nat) (o : Obj) (hb : Imv I b o) : Imv J b o := h.2 b o hb
def entV (e : Ent) (vn vw : Value) : List Value := [.int .u64 (e.tok : Int), vn, .int .i64 e.place, .int .i64 e.no, .int .i64 e.low, .int .i64 e.kept, .int .i64 e.txn, .int .i64 e.lead, vw]
structure REnt (I : Imm) (e : Ent) (cs : List Value) : Prop where
 ex : ∃ vn vw nv, cs = entV e vn vw ∧ SlRd (Imv I) vn e.nodes.length 2 (nv.flatMap ndV) ∧ NodesOk (Imv I) nv e.nodes ∧ SlRd (Imv I) vw e.with_.length 1 (e.with_.map (Value.int .i64))
theorem REnt.mono {I J : Imm} {e : Ent} {cs : List Value} (h : REnt I e cs) (hJ : I.le J) : REnt J e cs := by
 obtain ⟨vn, vw, nv, h1, h2, h3, h4⟩ := h.ex
 exact ⟨vn, vw, nv, h1, h2.mono (Imv.le hJ), h3.mono (Imv.le hJ), h4.mono (Imv.le hJ)⟩
structure Ent.sized (e : Ent) : Prop where
 nodes : e.nodes.length ≤ 4398046510976
 data : ∀ x ∈ e.nodes, x.2.length ≤ 140737488351232
 with_ : e.with_.length ≤ 17592186043904
def entOk (J : Imm) (x : Nat × Ent) : Prop := x.2.sized ∧ ∃ cs, J.blk x.1 = some (row 150 cs) ∧ REnt J x.2 cs
theorem entOk.mono {I J : Imm} {x : Nat × Ent} (h : entOk I x) (hJ : I.le J) : entOk J x := by
 obtain ⟨h0, cs, h1, h2⟩ := h; exact ⟨h0, cs, hJ.2 _ _ h1, h2.mono hJ⟩
theorem REnt.cells {I : Imm} {e : Ent} {cs : List Value} (h : REnt I e cs) : cs.length = 9 ∧ cs.all (·.oneCell') = true := by
 obtain ⟨vn, vw, nv, rfl, ⟨A, c, rfl, _⟩, _, ⟨A2, c2, rfl, _⟩⟩ := h.ex; exact ⟨rfl, rfl⟩
/-- A chunk: so many slots. -/
abbrev Slots := Nat → Option (Nat × Ent)
def slotP : Option (Nat × Ent) → Option Addr
 | none => none
 | some x => some ⟨x.1, 0, none⟩
abbrev slotV (o : Option (Nat × Ent)) : Value := .pointer (slotP o)
theorem slotP_none (o : Option (Nat × Ent)) : (slotP o).isNone = o.isNone := by cases o <;> rfl
def ckV (f : Slots) : List Value := (List.range 16).map fun j => slotV (f j)
def ckCh (c : Nat × Slots) : Chunks := [(c.1, row 144 (ckV c.2))]
def putSl (f : Slots) (j : Nat) (x : Option (Nat × Ent)) : Slots := fun k => if k = j then x else f k
theorem ckV_at {f : Slots} {j : Nat} (h : j < 16) : (ckV f)[0 + j * 1]? = some (slotV (f j)) := by simp [ckV, h]
structure Tb where
 tok : Nat
 cks : List (Nat × Slots)
 next : Int
def ckps (l : List (Nat × Slots)) : List Value := l.map fun c => .pointer (some ⟨c.1, 0, none⟩)
theorem ckps_len (l : List (Nat × Slots)) : (ckps l).length = l.length := List.length_map _
theorem ckps_at {l : List (Nat × Slots)} {i : Nat} (h : i < l.length) (sp : List Value) : (ckps l ++ sp)[0 + i * 1]? = some (.pointer (some ⟨l[i].1, 0, none⟩)) := by
 rw [Nat.zero_add, Nat.mul_one, List.getElem?_append_left (by rw [ckps_len]; exact h)]; simp [ckps, h]
structure Tb.ok (J : Imm) (x : Tb) : Prop where
 n1 : 1 ≤ x.cks.length
 n2 : x.cks.length ≤ 32
 ent : ∀ c ∈ x.cks, ∀ j e, c.2 j = some e → entOk J e
 nx : 1 ≤ x.next ∧ x.next ≤ 513
theorem Tb.ok.mono {I J : Imm} {x : Tb} (h : x.ok I) (hJ : I.le J) : x.ok J := ⟨h.n1, h.n2, fun c hc j e he => (h.ent c hc j e he).mono hJ, h.nx⟩
inductive IsTab (J : Imm) (t q : Nat) (x : Tb) : Chunks → Prop
 | mk {vs : Value} {Lv : Chunks} (ok : x.ok J) (ow : Own 135 1 vs (ckps x.cks) x.cks.length Lv) : IsTab J t q x ((t, row 147 [.pointer (some ⟨q, 0, none⟩), .int .u64 (x.tok : Int), vs, .int .i64 x.next]) :: (Lv ++ x.cks.flatMap ckCh))
theorem IsTab.mono {I J : Imm} {t q : Nat} {x : Tb} {L : Chunks} (h : IsTab I t q x L) (hJ : I.le J) : IsTab J t q x L := by cases h with | mk ok ow => exact .mk (ok.mono hJ) ow
/-- A page's slot: which chunk, and where in it. -/
def Tb.get (x : Tb) (p : Int) : Option (Nat × Ent) := if p < 1 then none else match x.cks[((p - 1) / 16).toNat]? with
 | some c => c.2 ((p - 1) % 16).toNat
 | none => none
def Tb.size (x : Tb) : Int := (x.cks.length : Int) * 16
def Tb.put (x : Tb) (p : Int) (e : Option (Nat × Ent)) : Tb := { x with cks := match x.cks[((p - 1) / 16).toNat]? with
 | some c => x.cks.set ((p - 1) / 16).toNat (c.1, putSl c.2 ((p - 1) % 16).toNat e)
 | none => x.cks }
theorem ext_loadP {I : Imm} {L : Chunks} {b k T : Nat} {cs : List Value} {x : Option Addr} (hm : There I L b (row T cs)) (hk : cs[k]? = some (.pointer x)) :
  Ans Tryz.prog 80 [Value.pointer (some ⟨b, k, none⟩)] I L (.pointer x) I L := fun W hW =>
 ⟨W, run_call_loadP Tryz.func80 rfl rfl rfl rfl (by simp [World.cell?, hm.heap hW, row, hk]), hW⟩
theorem slot_Load0 {I : Imm} {b k : Nat} {cs : List Value} (hk : cs[k]? = some (.pointer none)) : Spec Tryz.prog 67 [.pointer (some ⟨b, k, none⟩)] I [(b, row 144 cs)] (fun v J L => v = .pointer none ∧ I = J ∧ L = [(b, row 144 cs)]) := by
 refine Spec.of Tryz.func67 rfl Tryz.ntmps67 (Nat.le_of_ble_eq_true rfl) (fun F => ?_)
 try simp only [nf]
 dsimp only [argsEnv]
 refine WP.seq ?_; refine WP.region [0] rfl ?_; refine WP.mv rfl rfl ?_; refine WP.nil (WP.next (WP.seq ?_))
 refine WP.region [0, 1, 2, 3, 4, 5] rfl ?_; refine WP.mv rfl rfl ?_; refine WP.vl rfl (Yld.nilCheck rfl rfl) ?_; refine WP.vl rfl (Yld.fieldAddr rfl ty_fd_142_2 rfl) ?_; refine WP.loud rfl rfl ?_; refine Op.ext (ext_loadP There.h hk) rfl rfl rfl rfl ?_; refine WP.vl rfl (Yld.fromUnsafe0 rfl ty_up_140 ty_pe_136 rfl) ?_; refine WP.mv rfl rfl ?_; refine WP.nil ?_; refine WP.sub [(0, _), (2, _)] ?_ ⟨rfl, rfl, trivial⟩
 refine WP.next (WP.ret ?_)
 refine WP.fn .ret (.inr rfl) (res1 rfl rfl) [(b, row 144 cs)] (Imm.le_refl _) ?_; exact ⟨rfl, rfl, rfl⟩

theorem slot_Load1 {I : Imm} {b k b2 : Nat} {cs es : List Value} (hk : cs[k]? = some (.pointer (some ⟨b2, 0, none⟩))) (hm : I.blk b2 = some (row 150 es)) (hl : es.length = 9) : Spec Tryz.prog 67 [.pointer (some ⟨b, k, none⟩)] I [(b, row 144 cs)] (fun v J L => v = .pointer (some ⟨b2, 0, none⟩) ∧ I = J ∧ L = [(b, row 144 cs)]) := by
 refine Spec.of Tryz.func67 rfl Tryz.ntmps67 (Nat.le_of_ble_eq_true rfl) (fun F => ?_)
 try simp only [nf]
 dsimp only [argsEnv]
 refine WP.seq ?_; refine WP.region [0] rfl ?_; refine WP.mv rfl rfl ?_; refine WP.nil (WP.next (WP.seq ?_))
 refine WP.region [0, 1, 2, 3, 4, 5] rfl ?_; refine WP.mv rfl rfl ?_; refine WP.vl rfl (Yld.nilCheck rfl rfl) ?_; refine WP.vl rfl (Yld.fieldAddr rfl ty_fd_142_2 rfl) ?_; refine WP.loud rfl rfl ?_; refine Op.ext (ext_loadP There.h hk) rfl rfl rfl rfl ?_; refine WP.vl rfl (Yld.fromUnsafe (m := 9) rfl ty_up_140 ty_pe_136 ty_li_150 zK rfl (There.i hm) hl) ?_; refine WP.mv rfl rfl ?_; refine WP.nil ?_; refine WP.sub [(0, _), (2, _)] ?_ ⟨rfl, rfl, trivial⟩
 refine WP.next (WP.ret ?_)
 refine WP.fn .ret (.inr rfl) (res1 rfl rfl) [(b, row 144 cs)] (Imm.le_refl _) ?_; exact ⟨rfl, rfl, rfl⟩

theorem NodesOk.set {V : Nat → Obj → Prop} {nv : List (Bool × Value)} {l : List (Bool × List UInt8)} (h : NodesOk V nv l) {i : Nat} (hi : i < nv.length) {d : List UInt8} (hd : l[i]? = some (nv[i].1, d)) {v : Value} (hv : SlRd V v d.length 1 (bytesV d)) : NodesOk V (nv.set i (nv[i].1, v)) l := by
 refine ⟨by rw [List.length_set]; exact h.len, fun j x hx => ?_⟩
 by_cases e : j = i
 ·subst e
  rw [List.getElem?_set_self hi] at hx
  cases hx; exact ⟨d, hd, hv⟩
 ·rw [List.getElem?_set_ne (Ne.symm e)] at hx
  exact h.at_ j x hx
theorem Tb.get_at {x : Tb} {p : Int} {i j : Nat} (hp : p = (i : Int) * 16 + j + 1) (hj : j < 16) (hi : i < x.cks.length) : x.get p = x.cks[i].2 j := by
 have e1 : ((p - 1) / 16).toNat = i := by omega
 have e2 : ((p - 1) % 16).toNat = j := by omega
 rw [Tb.get, if_neg (by omega), e1, e2, List.getElem?_eq_getElem hi]
theorem Tb.get_out {x : Tb} {p : Int} (hp : p < 1 ∨ x.size < p) : x.get p = none := by
 unfold Tb.get
 split
 ·rfl
 ·have : x.cks[((p - 1) / 16).toNat]? = none := List.getElem?_eq_none (by unfold Tb.size at hp; omega)
  rw [this]
theorem Tb.in_of_get {x : Tb} {p : Int} {e : Nat × Ent} (h : x.get p = some e) : 1 ≤ p ∧ p ≤ x.size := by
 refine ⟨Int.not_lt.1 fun hh => ?_, Int.not_lt.1 fun hh => ?_⟩
 ·rw [Tb.get_out (.inl hh)] at h; cases h
 ·rw [Tb.get_out (.inr hh)] at h; cases h
theorem Tb.split {x : Tb} {p : Int} (h : 1 ≤ p ∧ p ≤ x.size) : ∃ i j : Nat, p = (i : Int) * 16 + j + 1 ∧ j < 16 ∧ i < x.cks.length :=
 ⟨((p - 1) / 16).toNat, ((p - 1) % 16).toNat, by omega, by omega, by unfold Tb.size at h; omega⟩
theorem slot_Load {I : Imm} {b k : Nat} {cs : List Value} {o : Option (Nat × Ent)} (hk : cs[k]? = some (slotV o)) (ho : ∀ e, o = some e → entOk I e) : Spec Tryz.prog 67 [.pointer (some ⟨b, k, none⟩)] I [(b, row 144 cs)] (fun v J L => v = slotV o ∧ I = J ∧ L = [(b, row 144 cs)]) := by
 cases o with
 | none => exact slot_Load0 hk
 | some e => obtain ⟨_, es, h1, h2⟩ := ho e rfl; exact slot_Load1 hk h1 h2.cells.1
theorem tab_Size {I : Imm} {t q : Nat} {x : Tb} {L : Chunks} (hd : IsTab I t q x L) : Spec Tryz.prog 79 [.pointer (some ⟨t, 0, none⟩)] I L (fun v J L' => v = .int .i64 x.size ∧ I = J ∧ L' = L) := by
 cases hd with | mk ok ow =>
 obtain ⟨bv, cv, spv, rfl, rfl, hcv, hnv⟩ := ow.get (by have := ok.n1; omega)
 have hn1 := ok.n1
 have hn2 := ok.n2
 refine Spec.of Tryz.func79 rfl Tryz.ntmps79 (Nat.le_of_ble_eq_true rfl) (fun F => ?_)
 try simp only [nf]
 dsimp only [argsEnv]
 refine WP.seq ?_; refine WP.region [0] rfl ?_; refine WP.mv rfl rfl ?_; refine WP.nil (WP.next (WP.seq ?_))
 refine WP.region [0, 1, 2, 3, 4, 5, 6] rfl ?_; refine WP.mv rfl rfl ?_; refine WP.vl rfl (Yld.nilCheck rfl rfl) ?_; refine WP.vl rfl (Yld.fieldAddr rfl ty_fd_147_2 rfl) ?_; refine WP.vl rfl (Yld.ld rfl ty_sc_145 rfl rfl) ?_; refine WP.vl rfl (Yld.len rfl ty_sl_145 rfl) ?_; refine WP.vl rfl (Yld.mul64 rfl rfl rfl (by omega)) ?_; refine WP.mv rfl rfl ?_; refine WP.nil ?_; refine WP.sub [(0, _), (2, _)] ?_ ⟨rfl, rfl, trivial⟩
 refine WP.next (WP.ret ?_)
 refine WP.fn .ret (.inr rfl) (res1 rfl rfl) ((t, row 147 [.pointer (some ⟨q, 0, none⟩), .int .u64 (x.tok : Int), .slice (some ⟨bv, 0, none⟩) x.cks.length cv, .int .i64 x.next]) :: ((bv, row 135 (ckps x.cks ++ spv)) :: x.cks.flatMap ckCh)) (Imm.le_refl _) ?_; exact ⟨rfl, rfl, rfl⟩

theorem tab_at0a {I : Imm} {t q : Nat} {x : Tb} {L : Chunks} (hd : IsTab I t q x L) {p : Int} (hp : p < 1) : Spec Tryz.prog 66 [.pointer (some ⟨t, 0, none⟩), .int .i64 p] I L (fun v J L' => v = .pointer none ∧ I = J ∧ L' = L) := by
 cases hd with | mk ok ow =>
 obtain ⟨bv, cv, spv, rfl, rfl, hcv, hnv⟩ := ow.get (by have := ok.n1; omega)
 have hn1 := ok.n1
 have hn2 := ok.n2
 refine Spec.of Tryz.func66 rfl Tryz.ntmps66 (Nat.le_of_ble_eq_true rfl) (fun F => ?_)
 try simp only [nf]
 dsimp only [argsEnv]
 refine WP.seq ?_; refine WP.region [0] rfl ?_; refine WP.mv rfl rfl ?_; refine WP.nil (WP.next (WP.seq (WP.seq ?_)))
 refine WP.region [0, 1, 2, 3, 4, 5, 6, 7] rfl ?_; refine WP.mv rfl rfl ?_; refine WP.vl rfl (Yld.lss rfl rfl rfl true (decide_eq_true (by omega))) ?_; refine WP.mv rfl rfl ?_; iterate 4 refine WP.passG rfl rfl rfl rfl rfl rfl rfl rfl ?_
 refine WP.vl rfl (Yld.pickT rfl rfl rfl) ?_; refine WP.nil ?_; refine WP.sub [(0, _), (1, _), (4, _), (12, _)] ?_ ⟨rfl, rfl, rfl, rfl, trivial⟩
 refine WP.next ?_; refine WP.condT rfl ?_; refine WP.seq ?_; refine WP.region [0] rfl ?_; refine WP.mv rfl rfl ?_; refine WP.nil (WP.next (WP.ret ?_))
 refine WP.fn .ret (.inr rfl) (res1 rfl rfl) ((t, row 147 [.pointer (some ⟨q, 0, none⟩), .int .u64 (x.tok : Int), .slice (some ⟨bv, 0, none⟩) x.cks.length cv, .int .i64 x.next]) :: ((bv, row 135 (ckps x.cks ++ spv)) :: x.cks.flatMap ckCh)) (Imm.le_refl _) ?_; exact ⟨rfl, rfl, rfl⟩

theorem tab_at0b {I : Imm} {t q : Nat} {x : Tb} {L : Chunks} (hd : IsTab I t q x L) {p : Int} (hp : ¬ p < 1) (hp2 : x.size < p) : Spec Tryz.prog 66 [.pointer (some ⟨t, 0, none⟩), .int .i64 p] I L (fun v J L' => v = .pointer none ∧ I = J ∧ L' = L) := by
 cases hd with | mk ok ow =>
 obtain ⟨bv, cv, spv, rfl, rfl, hcv, hnv⟩ := ow.get (by have := ok.n1; omega)
 have hn1 := ok.n1
 have hn2 := ok.n2
 refine Spec.of Tryz.func66 rfl Tryz.ntmps66 (Nat.le_of_ble_eq_true rfl) (fun F => ?_)
 try simp only [nf]
 dsimp only [argsEnv]
 refine WP.seq ?_; refine WP.region [0] rfl ?_; refine WP.mv rfl rfl ?_; refine WP.nil (WP.next (WP.seq (WP.seq ?_)))
 refine WP.region [0, 1, 2, 3, 4, 5, 6, 7] rfl ?_; refine WP.mv rfl rfl ?_; refine WP.vl rfl (Yld.lss rfl rfl rfl false (decide_eq_false (by omega))) ?_; refine WP.mv rfl rfl ?_; iterate 2 refine WP.valG rfl rfl rfl rfl rfl rfl rfl (Yld.move rfl rfl) ?_
 refine WP.loudG rfl rfl rfl rfl rfl ?_; refine Op.cl (tab_Size (IsTab.mk ok ow)) rfl Tryz.func79 rfl rfl rfl rfl ?_; rintro v J L1 - ⟨rfl, rfl, rfl⟩
 try simp only [nf]
 refine WP.valG rfl rfl rfl rfl rfl rfl rfl (Yld.gtr rfl rfl rfl true (decide_eq_true (by omega))) ?_; refine WP.vl rfl (Yld.pickF rfl rfl rfl) ?_; refine WP.nil ?_; refine WP.sub [(0, _), (1, _), (4, _), (12, _)] ?_ ⟨rfl, rfl, rfl, rfl, trivial⟩
 refine WP.next ?_; refine WP.condT rfl ?_; refine WP.seq ?_; refine WP.region [0] rfl ?_; refine WP.mv rfl rfl ?_; refine WP.nil (WP.next (WP.ret ?_))
 refine WP.fn .ret (.inr rfl) (res1 rfl rfl) ((t, row 147 [.pointer (some ⟨q, 0, none⟩), .int .u64 (x.tok : Int), .slice (some ⟨bv, 0, none⟩) x.cks.length cv, .int .i64 x.next]) :: ((bv, row 135 (ckps x.cks ++ spv)) :: x.cks.flatMap ckCh)) (Imm.le_refl _) ?_; exact ⟨rfl, rfl, rfl⟩

theorem tab_at1 {I : Imm} {t q : Nat} {x : Tb} {L : Chunks} (hd : IsTab I t q x L) {p : Int} {i j : Nat} (hp : p = (i : Int) * 16 + j + 1) (hj : j < 16) (hi : i < x.cks.length) : Spec Tryz.prog 66 [.pointer (some ⟨t, 0, none⟩), .int .i64 p] I L (fun v J L' => v = .pointer (some ⟨x.cks[i].1, j, none⟩) ∧ I = J ∧ L' = L) := by
 cases hd with | mk ok ow =>
 obtain ⟨bv, cv, spv, rfl, rfl, hcv, hnv⟩ := ow.get (by have := ok.n1; omega)
 have hn1 := ok.n1
 have hn2 := ok.n2
 refine Spec.of Tryz.func66 rfl Tryz.ntmps66 (Nat.le_of_ble_eq_true rfl) (fun F => ?_)
 try simp only [nf]
 dsimp only [argsEnv]
 refine WP.seq ?_; refine WP.region [0] rfl ?_; refine WP.mv rfl rfl ?_; refine WP.nil (WP.next (WP.seq (WP.seq ?_)))
 refine WP.region [0, 1, 2, 3, 4, 5, 6, 7] rfl ?_; refine WP.mv rfl rfl ?_; refine WP.vl rfl (Yld.lss rfl rfl rfl false (decide_eq_false (by omega))) ?_; refine WP.mv rfl rfl ?_; iterate 2 refine WP.valG rfl rfl rfl rfl rfl rfl rfl (Yld.move rfl rfl) ?_
 refine WP.loudG rfl rfl rfl rfl rfl ?_; refine Op.cl (tab_Size (IsTab.mk ok ow)) rfl Tryz.func79 rfl rfl rfl rfl ?_; rintro v J L1 - ⟨rfl, rfl, rfl⟩
 try simp only [nf]
 refine WP.valG rfl rfl rfl rfl rfl rfl rfl (Yld.gtr rfl rfl rfl false (decide_eq_false (by unfold Tb.size; omega))) ?_; refine WP.vl rfl (Yld.pickF rfl rfl rfl) ?_; refine WP.nil ?_; refine WP.sub [(0, _), (1, _), (4, _), (12, _)] ?_ ⟨rfl, rfl, rfl, rfl, trivial⟩
 refine WP.next ?_; refine WP.condF rfl ?_; refine WP.skip (WP.next (WP.seq ?_))
 refine WP.region [0, 1, 2, 3, 4, 5, 6, 7, 8, 9, 10, 11, 12, 13, 14] rfl ?_; refine WP.mv rfl rfl ?_; refine WP.vl rfl (Yld.nilCheck rfl rfl) ?_; refine WP.vl rfl (Yld.fieldAddr rfl ty_fd_147_2 rfl) ?_; refine WP.vl rfl (Yld.ld rfl ty_sc_145 rfl rfl) ?_; refine WP.mv rfl rfl ?_; refine WP.vl rfl (Yld.sub64 rfl rfl rfl (by omega)) ?_; refine WP.vl rfl (Yld.quo64 rfl rfl rfl (by omega)) ?_; rw [show (p - 1) / 16 = (i : Int) by omega]
 refine WP.vl rfl (Yld.indexAddr (i := i) rfl ty_sl_145 rfl rfl hi) ?_; refine WP.vl rfl (Yld.ld rfl ty_sc_135 rfl (ckps_at hi spv)) ?_; refine WP.mv rfl rfl ?_; refine WP.vl rfl (Yld.sub64 rfl rfl rfl (by omega)) ?_; refine WP.vl rfl (Yld.rem64 rfl rfl rfl (by omega)) ?_; refine WP.vl rfl (Yld.nilCheck rfl rfl) ?_; rw [show (p - 1) % 16 = (j : Int) by omega]
 refine WP.vl rfl (Yld.indexAddrA (i := j) rfl ty_ar_144 rfl rfl hj) ?_; refine WP.mv rfl rfl ?_; refine WP.nil ?_; refine WP.sub [(0, _), (1, _), (4, _), (12, _)] ?_ ⟨rfl, rfl, rfl, rfl, trivial⟩
 refine WP.next (WP.ret ?_)
 refine WP.fn .ret (.inr rfl) (res1 rfl rfl) ((t, row 147 [.pointer (some ⟨q, 0, none⟩), .int .u64 (x.tok : Int), .slice (some ⟨bv, 0, none⟩) x.cks.length cv, .int .i64 x.next]) :: ((bv, row 135 (ckps x.cks ++ spv)) :: x.cks.flatMap ckCh)) (Imm.le_refl _) ?_; refine ⟨?_, rfl, rfl⟩
 simp


theorem tab_at0 {I : Imm} {t q : Nat} {x : Tb} {L : Chunks} (hd : IsTab I t q x L) {p : Int} (hp : p < 1 ∨ x.size < p) : Spec Tryz.prog 66 [.pointer (some ⟨t, 0, none⟩), .int .i64 p] I L (fun v J L' => v = .pointer none ∧ I = J ∧ L' = L) := by
 by_cases h : p < 1
 ·exact tab_at0a hd h
 ·exact tab_at0b hd h (by omega)
theorem tab_find0 {I : Imm} {t q : Nat} {x : Tb} {L : Chunks} (hd : IsTab I t q x L) {p : Int} (hp : p < 1 ∨ x.size < p) : Spec Tryz.prog 58 [.pointer (some ⟨t, 0, none⟩), .int .i64 p] I L (fun v J L' => v = .pointer none ∧ I = J ∧ L' = L) := by
 cases hd with | mk ok ow =>
 obtain ⟨bv, cv, spv, rfl, rfl, hcv, hnv⟩ := ow.get (by have := ok.n1; omega)
 have hn1 := ok.n1
 have hn2 := ok.n2
 refine Spec.of Tryz.func58 rfl Tryz.ntmps58 (Nat.le_of_ble_eq_true rfl) (fun F => ?_)
 try simp only [nf]
 dsimp only [argsEnv]
 refine WP.seq ?_; refine WP.region [0] rfl ?_; refine WP.mv rfl rfl ?_; refine WP.nil (WP.next (WP.seq (WP.seq ?_)))
 refine WP.region [0, 1, 2, 3] rfl ?_; iterate 2 refine WP.mv rfl rfl ?_
 refine WP.loud rfl rfl ?_; refine Op.cl (tab_at0 (IsTab.mk ok ow) hp) rfl Tryz.func66 rfl rfl rfl rfl ?_; rintro v J L1 - ⟨rfl, rfl, rfl⟩
 try simp only [nf]
 refine WP.mv rfl rfl ?_; refine WP.nil ?_; refine WP.sub [(0, _), (1, _), (4, _), (5, _)] ?_ ⟨rfl, rfl, rfl, rfl, trivial⟩
 refine WP.next (WP.seq ?_)
 refine WP.region [0, 1] rfl ?_; refine WP.mv rfl rfl ?_; refine WP.vl rfl (Yld.neqNil rfl ty_pt_175 rfl rfl) ?_; refine WP.nil ?_; refine WP.sub [(0, _), (1, _), (4, _), (5, _), (10, _)] ?_ ⟨rfl, rfl, rfl, rfl, rfl, trivial⟩
 refine WP.next ?_; refine WP.condF rfl ?_; refine WP.skip (WP.next (WP.seq ?_))
 refine WP.region [0] rfl ?_; refine WP.mv rfl rfl ?_; refine WP.nil (WP.next (WP.ret ?_))
 refine WP.fn .ret (.inr rfl) (res1 rfl rfl) ((t, row 147 [.pointer (some ⟨q, 0, none⟩), .int .u64 (x.tok : Int), .slice (some ⟨bv, 0, none⟩) x.cks.length cv, .int .i64 x.next]) :: ((bv, row 135 (ckps x.cks ++ spv)) :: x.cks.flatMap ckCh)) (Imm.le_refl _) ?_; exact ⟨rfl, rfl, rfl⟩

theorem tab_find1 {I : Imm} {t q : Nat} {x : Tb} {L : Chunks} (hd : IsTab I t q x L) {p : Int} {i j : Nat} (hp : p = (i : Int) * 16 + j + 1) (hj : j < 16) (hi : i < x.cks.length) : Spec Tryz.prog 58 [.pointer (some ⟨t, 0, none⟩), .int .i64 p] I L (fun v J L' => v = slotV (x.cks[i].2 j) ∧ I = J ∧ L' = L) := by
 cases hd with | mk ok ow =>
 obtain ⟨bv, cv, spv, rfl, rfl, hcv, hnv⟩ := ow.get (by have := ok.n1; omega)
 have hn1 := ok.n1
 have hn2 := ok.n2
 refine Spec.of Tryz.func58 rfl Tryz.ntmps58 (Nat.le_of_ble_eq_true rfl) (fun F => ?_)
 try simp only [nf]
 dsimp only [argsEnv]
 refine WP.seq ?_; refine WP.region [0] rfl ?_; refine WP.mv rfl rfl ?_; refine WP.nil (WP.next (WP.seq (WP.seq ?_)))
 refine WP.region [0, 1, 2, 3] rfl ?_; iterate 2 refine WP.mv rfl rfl ?_
 refine WP.loud rfl rfl ?_; refine Op.cl (tab_at1 (IsTab.mk ok ow) hp hj hi) rfl Tryz.func66 rfl rfl rfl rfl ?_; rintro v J L1 - ⟨rfl, rfl, rfl⟩
 try simp only [nf]
 refine WP.mv rfl rfl ?_; refine WP.nil ?_; refine WP.sub [(0, _), (1, _), (4, _), (5, _)] ?_ ⟨rfl, rfl, rfl, rfl, trivial⟩
 refine WP.next (WP.seq ?_)
 refine WP.region [0, 1] rfl ?_; refine WP.mv rfl rfl ?_; refine WP.vl rfl (Yld.neqNil rfl ty_pt_175 rfl rfl) ?_; refine WP.nil ?_; refine WP.sub [(0, _), (1, _), (4, _), (5, _), (10, _)] ?_ ⟨rfl, rfl, rfl, rfl, rfl, trivial⟩
 refine WP.next ?_; refine WP.condT rfl ?_; refine WP.seq ?_; refine WP.outL (f := ckCh) (l := x.cks) i hi (by repeat (first | exact Rm.chunk | exact Rm.here | exact Rm.nil0 | apply Rm.skip | apply Rm.skipS)) ?_; simp only [ckCh, List.cons_append, List.nil_append]
 refine WP.region [0, 1, 2] rfl ?_; refine WP.mv rfl rfl ?_; refine WP.loud rfl rfl ?_; refine Op.cl (slot_Load (by rw [← Nat.zero_add j, ← Nat.mul_one j]; simp only [Nat.mul_one]; exact (by simpa using ckV_at hj)) (fun e he => ok.ent _ (List.getElem_mem hi) _ _ he)) rfl Tryz.func67 rfl rfl rfl rfl ?_; rintro v J L1 - ⟨rfl, rfl, rfl⟩
 try simp only [nf]
 refine WP.mv rfl rfl ?_; refine WP.nil ?_; refine WP.sub [(0, _), (1, _), (4, _), (5, _), (10, _)] ?_ ⟨rfl, rfl, rfl, rfl, rfl, trivial⟩
 refine WP.inL (f := ckCh) (l := x.cks) i hi zT (by repeat (first | exact Rm.chunk | exact Rm.here | exact Rm.nil0 | apply Rm.skip | apply Rm.skipS)) ?_; refine WP.next (WP.ret ?_)
 refine WP.fn .ret (.inr rfl) (res1 rfl rfl) ((t, row 147 [.pointer (some ⟨q, 0, none⟩), .int .u64 (x.tok : Int), .slice (some ⟨bv, 0, none⟩) x.cks.length cv, .int .i64 x.next]) :: ((bv, row 135 (ckps x.cks ++ spv)) :: x.cks.flatMap ckCh)) (Imm.le_refl _) ?_; exact ⟨rfl, rfl, rfl⟩


theorem tab_find {I : Imm} {t q : Nat} {x : Tb} {L : Chunks} (hd : IsTab I t q x L) {p : Int} : Spec Tryz.prog 58 [.pointer (some ⟨t, 0, none⟩), .int .i64 p] I L (fun v J L' => v = slotV (x.get p) ∧ I = J ∧ L' = L) := by
 by_cases h : 1 ≤ p ∧ p ≤ x.size
 ·obtain ⟨i, j, h1, h2, h3⟩ := Tb.split h
  rw [Tb.get_at h1 h2 h3]
  exact tab_find1 hd h1 h2 h3
 ·rw [Tb.get_out (by omega)]
  exact tab_find0 hd (by omega)

end Go.Hp
