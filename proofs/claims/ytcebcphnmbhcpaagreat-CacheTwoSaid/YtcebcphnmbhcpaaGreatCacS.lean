import Derived.Test.YtcebcphnmbhcpaaGreatCwT
import Derived.Test.YtcebcphnmbhcpaaGreatCacQ
set_option linter.unusedVariables false
set_option linter.unusedSimpArgs false
namespace Go.Hp
open Go Go.Proofs

/-- A list of texts of bytes that is read. -/
structure RBs (J : Imm) (v : Value) (l : List (Value × List UInt8)) : Prop where
 rd : SlRd (Im J) v l.length 1 (l.map (·.1))
 el : ∀ e ∈ l, SlRd (Im J) e.1 e.2.length 1 (bytesV e.2)
theorem RBs.mono {I J : Imm} {v : Value} {l : List (Value × List UInt8)} (h : RBs I v l) (hJ : I.le J) : RBs J v l := ⟨h.rd.mono fun b o q => hJ.2 b o q, fun e he => (h.el e he).mono fun b o q => hJ.2 b o q⟩
theorem RBs.at_ {J : Imm} {A : Option Addr} {m c : Nat} {l : List (Value × List UInt8)} (h : RBs J (.slice A m c) l) {i : Nat} (hi : i < l.length) : ∃ b k T fr arr, A = some ⟨b, k, none⟩ ∧ J.blk b = some (.cells arr T fr) ∧ arr[k + i * 1]? = some l[i].1 := by
 obtain ⟨b, k, c', T, fr, arr, e, hc, hb, hcd⟩ := h.rd.get (by omega)
 refine ⟨b, k, T, fr, arr, by injection e, hb, ?_⟩
 have := take_cells hcd i l[i].1 (by simp [hi]) (by rw [List.length_map]; exact hi)
 rw [Array.getElem?_toList] at this
 rwa [Nat.mul_one]
theorem ints_at {J : Imm} {A : Option Addr} {m c : Nat} {l : List Int} (h : SlRd (Im J) (.slice A m c) l.length 1 (l.map (Value.int .i64))) {i : Nat} (hi : i < l.length) : ∃ b k T fr arr, A = some ⟨b, k, none⟩ ∧ J.blk b = some (.cells arr T fr) ∧ arr[k + i * 1]? = some (.int .i64 l[i]) := by
 obtain ⟨b, k, c', T, fr, arr, e, hc, hb, hcd⟩ := h.get (by omega)
 refine ⟨b, k, T, fr, arr, by injection e, hb, ?_⟩
 have := take_cells hcd i (.int .i64 l[i]) (by simp [hi]) (by rw [List.length_map]; exact hi)
 rw [Array.getElem?_toList] at this
 rwa [Nat.mul_one]
def RBB (I : Imm) (e : Value × List UInt8) (cs : List Value) : Prop := cs = [e.1] ∧ SlRd (Im I) e.1 e.2.length 1 (bytesV e.2)
theorem elem_bb {H : Type} {enc : TypeId × Value → H} {W : World} {sp : Nat → Bool} {held : Bool} (n : Nat) (cs : List Value) (x : DataW H × List MemPlace) (h : DataW.trod enc Tryz.prog W 0 sp held n 47 cs = some x) (hl : cs.length = 1) : ∃ e, RBB (immOf W) e cs ∧ (fun (_ : Value × List UInt8) (_ : DataW H) => True) e x.1 := by
 obtain ⟨v, z, j, S, D⟩ := open_slc RB (fun _ _ => True) Tryz.underlying47 (sz := 1) zK (by decide) (elem_byte zK) h
 exact ⟨(v, z), ⟨j, Slc.bytes S⟩, trivial⟩
theorem Slc.bss {I : Imm} {v : Value} {l : List (Value × List UInt8)} (h : Slc I 1 (RBB I) v l) : RBs I v l := by
 refine ⟨Slc.flat (fun e : Value × List UInt8 => e.1) (fun x cs h => h.1) h, fun e he => ?_⟩
 obtain ⟨i, hi, rfl⟩ := List.getElem_of_mem he
 obtain ⟨A, cap, _, _, h3⟩ := h
 rcases h3 with rfl | ⟨b, kk, arr, T, fr, _, _, hel⟩
 ·cases hi
 ·exact (hel i _ (List.getElem?_eq_getElem hi)).2.2

section
variable {P : Program} {n : Nat} {E : Env} {I : Imm} {L : Chunks} {V : Nat → Obj → Prop} {o : Oper}
theorem Yld.neg64 {x : Operand} {t : TypeId} {a : Int} (hop : o.op = .unOp .neg t x) (hx : E.ev x = some (.int .i64 a)) (h : -9223372036854775807 ≤ a ∧ a ≤ 9223372036854775807) : Yld P n E V o (.int .i64 (-a)) := fun a' W ha _ => by
 simp [execOp, hop, ha.ev hx, Op.unary, Op.intArith]
 exact wrap64_id (by omega)
end

structure Mi where
 m : Nat
 z : Mx
 L : Chunks
def miP (l : List Mi) : List Value := l.map fun y => .pointer (some ⟨y.m, 0, none⟩)
theorem miP_len (l : List Mi) : (miP l).length = l.length := List.length_map _
theorem miP_at {l : List Mi} {i : Nat} (h : i < l.length) (sp : List Value) : (miP l ++ sp)[0 + i * 1]? = some (.pointer (some ⟨l[i].m, 0, none⟩)) := by
 rw [Nat.zero_add, Nat.mul_one, List.getElem?_append_left (by rw [miP_len]; exact h)]; simp [miP, h]
theorem miP_set {l : List Mi} {i : Nat} (h : i < l.length) {y : Mi} (hy : y.m = l[i].m) : miP (l.set i y) = miP l := by
 unfold miP
 apply List.ext_getElem?
 intro j
 rw [List.getElem?_map, List.getElem?_map, List.getElem?_set]
 split
 ·rename_i e; subst e; rw [List.getElem?_eq_getElem h]; simp [hy]
 ·rfl
def zsOf (l : List Mi) : List Mx := l.map (·.z)
theorem zsOf_at {l : List Mi} {i : Nat} (h : i < l.length) (h2 : i < (zsOf l).length) : (zsOf l)[i] = l[i].z := by simp [zsOf]
theorem zsOf_set {l : List Mi} {i : Nat} {y : Mi} : zsOf (l.set i y) = (zsOf l).set i y.z := by simp [zsOf, List.map_set]
/-- The machines of a list. -/
def IsMs (J : Imm) (s l : Nat) (ms : List Mi) : Prop := ∀ y ∈ ms, IsMx J s l y.m y.z y.L
theorem IsMs.mono {I J : Imm} {s l : Nat} {ms : List Mi} (h : IsMs I s l ms) (hJ : I.le J) : IsMs J s l ms := fun y hy => (h y hy).mono hJ
theorem IsMs.set {J : Imm} {s l : Nat} {ms : List Mi} (h : IsMs J s l ms) (i : Nat) {y : Mi} (hy : IsMx J s l y.m y.z y.L) : IsMs J s l (ms.set i y) := fun q hq => by
 rcases List.mem_or_eq_of_mem_set hq with hq | rfl
 ·exact h q hq
 ·exact hy
theorem tmod_nat {a : Int} {m : Nat} (h : 0 < m) : (¬ a.tmod (m : Int) < 0 → ∃ k : Nat, a.tmod (m : Int) = (k : Int) ∧ k < m) ∧ (a.tmod (m : Int) < 0 → ∃ k : Nat, -(a.tmod (m : Int)) = (k : Int) ∧ k < m) := by
 have h1 := Int.tmod_lt_of_pos a (show (0 : Int) < m by omega)
 have h2 := Int.lt_tmod_of_pos a (show (0 : Int) < m by omega)
 exact ⟨fun h => ⟨(a.tmod (m : Int)).toNat, by omega, by omega⟩, fun h => ⟨(-(a.tmod (m : Int))).toNat, by omega, by omega⟩⟩
theorem mx_Got {I : Imm} {m s l : Nat} {z : Mx} {Lm : Chunks} (hm : IsMx I s l m z Lm) : Spec Tryz.prog 23 [.pointer (some ⟨m, 0, none⟩)] I Lm (fun v J L => ∃ cs, v = .tuple #[.agg cs.toArray, .int .i64 z.c.e] ∧ REnt J z.c.out cs ∧ IsMx J s l m z L) := by
 cases z with
 | fl z =>
  obtain ⟨f, hm⟩ := hm
  cases hm with
  | @mk vr L1 hr hm => exact Spec.reorder (G := [(f, row 106 (flV m z vr))]) (cac_Got hm) (List.Perm.refl _) (by
    rintro v J L2 hJ ⟨cs, h1, h2, h3⟩
    exact ⟨_, List.Perm.refl _, cs, h1, h2, f, .mk (hr.mono hJ) h3⟩)
 | fa z =>
  obtain ⟨f, hm⟩ := hm
  cases hm with
  | @mk vr vp vN vy L1 Lo hm hx => exact Spec.reorder (G := ((f, row 114 [.pointer (some ⟨m, 0, none⟩), vr, vp, vN, vy]) :: Lo)) (cac_Got hm) (List.Perm.refl _) (by
    rintro v J L2 hJ ⟨cs, h1, h2, h3⟩
    exact ⟨_, List.Perm.refl _, cs, h1, h2, f, .mk h3 (hx.mono hJ)⟩)
 | ec z =>
  obtain ⟨a, hm⟩ := hm
  cases hm with
  | @idle vf L1 h hm => exact Spec.reorder (G := [(a, row 117 [.pointer (some ⟨m, 0, none⟩), vf])]) (cac_Got hm) (List.Perm.refl _) (by
    rintro v J L2 hJ ⟨cs, h1, h2, h3⟩
    exact ⟨_, List.Perm.refl _, cs, h1, h2, a, .idle h h3⟩)
  | @busy f1 m1 L1 Lf h hm hf => exact Spec.reorder (G := ((a, row 117 [.pointer (some ⟨m, 0, none⟩), .pointer (some ⟨m1, 0, none⟩)]) :: Lf)) (cac_Got hm) (List.Perm.refl _) (by
    rintro v J L2 hJ ⟨cs, h1, h2, h3⟩
    exact ⟨_, List.Perm.refl _, cs, h1, h2, a, .busy h h3 (hf.mono hJ)⟩)
theorem TwI.steps {N : Nds} : ∀ {n : Nat} {tb tb2 : Tb} {x x2 : Lg} {zs : List Mx} {z z2 : Mx} {k : Nat} (hk : k < zs.length), zs[k] = z → TwI N tb x zs → Steps n tb x z tb2 x2 z2 → TwI N tb2 x2 (zs.set k z2) ∧ z2.c.page = 1
 | 0, tb, tb2, x, x2, zs, z, z2, k, hk, e, h, s => by
  cases s with
  | zero =>
   subst e
   rw [List.set_getElem_self]
   exact ⟨h, (h.ms _ (List.getElem_mem hk)).2.1⟩
 | n + 1, tb, tb2, x, x2, zs, z, z2, k, hk, e, h, s => by
  cases s with
  | @succ _ _ tb1 _ _ x1 _ _ z1 _ s q =>
   obtain ⟨h1, h2⟩ := TwI.steps hk e h s
   have hk2 : k < (zs.set k z1).length := by rw [List.length_set]; exact hk
   have h3 := h1.step hk2 (z2 := z2) (c := false) (by rw [List.getElem_set_self]; exact q)
   rw [List.set_set] at h3
   exact ⟨h3, (h3.ms _ (List.mem_set hk _)).2.1⟩
theorem TwI.counts {N : Nds} {tb tb2 : Tb} {x x2 : Lg} {zs : List Mx} {z z2 : Mx} {k : Nat} {n : Int} (hk : k < zs.length) (e : zs[k] = z) (h : TwI N tb x zs) (hc : Counts tb x z n tb2 x2 z2) (hn : 1 ≤ n) : TwI N tb2 x2 (zs.set k z2) ∧ (z2.c.e = 0 ∨ z2.c.e = 131) := by
 rcases hc with ⟨j, tb1, x1, z1, _, h1, h2, _⟩ | ⟨_, rfl⟩
 ·obtain ⟨g1, g2⟩ := TwI.steps hk e h h1
  have hk2 : k < (zs.set k z1).length := by rw [List.length_set]; exact hk
  have q : MxS tb1 x1 ((zs.set k z1)[k]'hk2) true z2 tb2 x2 := by rw [List.getElem_set_self]; exact h2
  have g3 := g1.step hk2 q
  rw [List.set_set] at g3
  have hm := g1.ms _ (List.mem_set hk z1)
  have h9 : z2.at_ = 9 := (h2.step g1.w.w (by rw [g2]; exact g1.w.hW) hm.1).2.2.2.2.2.1 rfl
  have hT := (g3.ms _ (List.mem_set hk z2)).2.2
  refine ⟨g3, ?_⟩
  cases z2 with
  | fl z2 => exact (hT.2 h9).imp id fun q => q.2
  | fa z2 => exact .inl (hT h9)
  | ec z2 => exact .inl (hT.1 h9)
 ·exact absurd hn (by decide)
theorem kindM_new {k : Int} {N : Nds} {tb : Tb} {x : Lg} : MxI bdT tb x (kindM k) ∧ (kindM k).c.page = 1 ∧ MxT N tb (kindM k) ∧ (kindM k).pend tb ≤ 1 ∧ (kindM k).ful + (kindM k).bst tb ≤ 1 := by
 have hb := b2n_le (isFresh tb)
 have hfl : ∀ b, MxI bdT tb x (.fl (fl0 1 b)) ∧ (Mx.fl (fl0 1 b)).c.page = 1 ∧ MxT N tb (.fl (fl0 1 b)) ∧ (Mx.fl (fl0 1 b)).pend tb ≤ 1 ∧ (Mx.fl (fl0 1 b)).ful + (Mx.fl (fl0 1 b)).bst tb ≤ 1 := fun b => by
  refine ⟨FlI.new _ _ _ _ _, rfl, ⟨fun q => (by rcases q with q | q | q <;> cases q), fun q => (by cases q)⟩, ?_, ?_⟩
  ·show (fl0 1 b).pend tb ≤ 1; rw [pend_1 rfl]; exact b2n_le _
  ·show (if b = true ∧ (1 : Nat) ≠ 9 then 1 else 0) + (if b = false ∧ (1 : Nat) ≠ 9 then b2n (isFresh tb) else 0) ≤ 1
   cases b <;> simp <;> omega
 unfold kindM
 split
 ·exact hfl false
 ·split
  ·exact hfl true
  ·split
   ·exact ⟨FaI.new _ _ _ _, rfl, fun q => (by cases q), Nat.zero_le _, Nat.le_refl _⟩
   ·refine ⟨EcI.new _ _ _ _, rfl, ⟨fun q => (by cases q), rfl, fun q => (by cases q), fun q => (by cases q)⟩, ?_, ?_⟩
    ·rw [ec_pend1 rfl]; exact hb
    ·show 0 + (Mx.ec (ec0 1)).bst tb ≤ 1; rw [ec_bst (show (1 : Nat) ≠ 9 by decide)]; omega
theorem phi_new {tb : Tb} {zs : List Mx} (h : ∀ z ∈ zs, ∃ k, z = kindM k) (hl : zs.length ≤ 8) : phi tb zs ≤ 36 := by
 have h1 : sumN (Mx.pend tb) zs ≤ zs.length ∧ sumN Mx.ful zs + sumN (Mx.bst tb) zs ≤ zs.length := by
  clear hl
  induction zs with
  | nil => exact ⟨Nat.le_refl _, Nat.le_refl _⟩
  | cons a l ih =>
   obtain ⟨g1, g2⟩ := ih fun z hz => h z (List.mem_cons_of_mem _ hz)
   obtain ⟨k, rfl⟩ := h a List.mem_cons_self
   obtain ⟨_, _, _, g3, g4⟩ := kindM_new (k := k) (N := []) (tb := tb) (x := ⟨1, ⟨1, 1, 1⟩, 0, 8, [], 0, 0, 8⟩)
   simp only [sumN, List.length_cons]
   omega
 unfold phi
 generalize sumN (Mx.pend tb) zs = p at h1
 generalize sumN Mx.ful zs = f at h1
 generalize sumN (Mx.bst tb) zs = b at h1
 have hf : f ≤ 8 := by omega
 have hcases : f = 0 ∨ f = 1 ∨ f = 2 ∨ f = 3 ∨ f = 4 ∨ f = 5 ∨ f = 6 ∨ f = 7 ∨ f = 8 := by omega
 rcases hcases with rfl | rfl | rfl | rfl | rfl | rfl | rfl | rfl | rfl <;> simp only [tri] <;> omega
/-- While nodes are put on. -/
structure TpI (i : Nat) (N : Nds) (tb : Tb) (x : Lg) : Prop where
 nn : N ≠ []
 nl : N.length ≤ i + 1
 w : CW 60 bdT (W1 N) tb x
 en : ∃ e, tb.ent 1 = some e ∧ e.place = 0 ∧ e.kept = 0 ∧ e.nodes = N
 tok : tb.tok ≤ 2 + i
theorem TpI.skip {i : Nat} {N : Nds} {tb : Tb} {x : Lg} (h : TpI i N tb x) : TpI (i + 1) N tb x := ⟨h.nn, by have := h.nl; omega, h.w, h.en, by have := h.tok; omega⟩
theorem TpI.put {i : Nat} {N : Nds} {tb tb2 : Tb} {x : Lg} (h : TpI i N tb x) (hi : i < 20) {e : Ent} (he : tb.ent 1 = some e) {d : List UInt8} (hd : d.length ≤ 100) {c : Bool} (k : CPutR tb 1 e d c tb2) : c = true ∧ TpI (i + 1) ((false, d) :: N) tb2 x := by
 have hnl := h.nl
 obtain ⟨e', he', h1, h2, h3⟩ := h.en
 rw [he] at he'; cases he'
 have hc : c = true := by
  rcases k with ⟨_, _, k | k⟩ | ⟨k, _⟩
  ·exact absurd (h3 ▸ k) h.nn
  ·rw [h3] at k; omega
  ·exact k
 obtain ⟨_, g2, N2, _, g4, ⟨_, rfl, _, g5⟩ | ⟨q, _⟩⟩ := k.one h.w h.nn he (fun _ => by show _ ≤ 21; omega) hd
 ·have ht := h.tok
  exact ⟨hc, by simp, by rw [List.length_cons]; omega, g4, ⟨_, Swapped.tok g5, h1, h2, by show (false, d) :: e.nodes = _; rw [h3]⟩, by omega⟩
 ·rw [hc] at q; cases q
theorem TpI.on {i : Nat} {N : Nds} {tb : Tb} {x : Lg} (h : TpI i N tb x) : TwW N tb x := by
 obtain ⟨e, he, h1, h2, h3⟩ := h.en
 have hW : W1 N 1 ≠ [] := by rw [W1_1]; exact h.nn
 have hok := (h.w.held hW he).ok
 rw [W1_1] at hok
 refine ⟨h.nn, h.w, ⟨e, he, .inl ⟨h1, h2, h3⟩⟩, ?_⟩
 have hs := hok.sz
 have hk : N.length ≤ 21 := hs.1
 have hb : ∀ y ∈ N, y.2.length ≤ 100 := hs.2
 rw [small_page (by decide) (by omega) (fun y hy => by have := hb y hy; omega)]
 have : ∀ M : Nds, (∀ y ∈ M, y.2.length ≤ 100) → (M.map fun x => 2 + x.2.length).sum ≤ M.length * 102 := by
  intro M hM
  induction M with
  | nil => exact Nat.le_refl _
  | cons a l ih =>
   have q1 := ih fun y hy => hM y (List.mem_cons_of_mem _ hy)
   have q2 := hM a List.mem_cons_self
   rw [List.map_cons, List.sum_cons, List.length_cons, Nat.succ_mul]; omega
 have := this N hb
 omega
structure TvX where
 i : Nat
 N : Nds
 v : Value
 tb : Tb
 J : Imm
 Lt : Chunks
structure TmX where
 i : Nat
 ms : List Mi
 v : Value
 J : Imm
 Lo : Chunks
structure TsX where
 i : Nat
 ms : List Mi
 tb : Tb
 x : Lg
 J : Imm
 Lt : Chunks
 Ll : Chunks
set_option maxHeartbeats 2000000 in
theorem law_CacheTwo {I : Imm} {ls : List (Value × List UInt8)} {ks ps : List Int} {vl vk vp : Value} (hls : RBs I vl ls) (hks : SlRd (Im I) vk ks.length 1 (ks.map (Value.int .i64))) (hps : SlRd (Im I) vp ps.length 1 (ps.map (Value.int .i64))) (hln : ls.length ≤ 140737488351232) (hkn : ks.length ≤ 140737488351232) (hpn : ps.length ≤ 140737488351232) : Spec Tryz.prog 6 [vl, vk, vp] I [] (fun v J L => v = .bool true ∧ L = []) := by
 obtain ⟨Al, cl, rfl, _, _⟩ := id hls.rd
 obtain ⟨Ak, ck, rfl, _, _⟩ := id hks
 obtain ⟨Ap, cp, rfl, _, _⟩ := id hps
 refine Spec.of Tryz.func6 rfl Tryz.ntmps6 (Nat.le_of_ble_eq_true rfl) (fun F => ?_)
 try simp only [nf]
 dsimp only [argsEnv]
 refine WP.seq ?_; refine WP.region [0] rfl ?_; refine WP.mv rfl rfl ?_; refine WP.nil (WP.next (WP.seq ?_))
 refine WP.region [0, 1] rfl ?_; refine WP.loud rfl rfl ?_; refine Op.cl law_awake rfl Tryz.func7 rfl rfl rfl rfl ?_; rintro v JA La hJA ⟨rfl, rfl⟩
 try simp only [nf]
 refine WP.mv rfl rfl ?_; refine WP.nil ?_; refine WP.sub [(0, _), (1, _), (2, _), (6, _), (7, _)] ?_ ⟨rfl, rfl, rfl, rfl, rfl, trivial⟩
 refine WP.next (WP.seq ?_)
 refine WP.region [0, 1] rfl ?_; refine WP.loud rfl rfl ?_; refine Op.cl (txn_Begun (m := 60) (by decide) (by decide)) rfl Tryz.func8 rfl rfl rfl rfl ?_; rintro v Jb Lb hJb ⟨rfl, x, d, s, l, t, q, rt, rm, r9, tb, Ll, Lt, rfl, rfl, hl, hT, hk0, hn0, hs0, hg0⟩
 try simp only [nf]
 refine WP.mv rfl rfl ?_; refine WP.nil ?_; refine WP.sub [(0, _), (1, _), (2, _), (6, _), (7, _), (8, _)] ?_ ⟨rfl, rfl, rfl, rfl, rfl, rfl, trivial⟩
 refine WP.next (WP.seq (WP.seq ?_))
 refine WP.region [0, 1, 2, 3, 4, 5] rfl ?_; refine WP.mv rfl rfl ?_; refine WP.vl rfl (Yld.not rfl rfl) ?_; refine WP.mv rfl rfl ?_; refine WP.valG rfl rfl rfl rfl rfl rfl rfl (Yld.move rfl rfl) ?_; refine WP.valG rfl rfl rfl rfl rfl rfl rfl (Yld.eqlNil rfl ty_pt_24 rfl rfl) ?_; refine WP.vl rfl (Yld.pickF rfl rfl rfl) ?_; refine WP.nil ?_; refine WP.sub [(0, _), (1, _), (2, _), (6, _), (7, _), (8, _), (35, _)] ?_ ⟨rfl, rfl, rfl, rfl, rfl, rfl, rfl, trivial⟩
 refine WP.next ?_; refine WP.condF rfl ?_; refine WP.skip (WP.next (WP.seq ?_))
 refine WQ.start Tryzmixed 8 zK _ rfl [8, 9] rfl ?_; refine WQ.val rfl rfl rfl (Yld.move rfl rfl) ?_; refine WQ.val rfl rfl rfl (Yld.nilCheck rfl rfl) ?_; refine WQ.val rfl rfl rfl (Yld.fieldAddr rfl ty_fd_37_3 rfl) ?_; refine WQ.val rfl rfl rfl (Yld.ld (v := .pointer (some ⟨t, 0, none⟩)) rfl ty_sc_31 rfl rfl) ?_; refine WQ.val rfl rfl rfl (Yld.move rfl rfl) ?_; refine WQ.val rfl rfl rfl (Yld.nilCheck rfl rfl) ?_; refine WQ.val rfl rfl rfl (Yld.fieldAddr rfl ty_fd_37_2 rfl) ?_; refine WQ.val rfl rfl rfl (Yld.ld (v := .pointer (some ⟨l, 0, none⟩)) rfl ty_sc_30 rfl rfl) ?_; refine WQ.nil ?_; refine WP.loud rfl rfl ?_; refine Op.cl (cac_New (t := t) (l := l)) rfl Tryz.func9 rfl rfl rfl rfl ?_; rintro v J Lst - ⟨rfl, st, rfl, rfl⟩
 try simp only [nf]
 refine WP.mv rfl rfl ?_; refine WP.nil ?_; refine WP.sub [(0, _), (1, _), (2, _), (6, _), (7, _), (8, _), (9, _), (35, _)] ?_ ⟨rfl, rfl, rfl, rfl, rfl, rfl, rfl, rfl, trivial⟩
 refine WP.next (WP.seq ?_)
 refine WP.region [0, 1, 2, 3, 4, 5, 6, 7, 8, 9] rfl ?_; refine WP.mv rfl rfl ?_; refine WP.vl rfl (Yld.nilCheck rfl rfl) ?_; refine WP.vl rfl (Yld.fieldAddr rfl ty_fd_37_3 rfl) ?_; refine WP.vl rfl (Yld.ld (v := .pointer (some ⟨t, 0, none⟩)) rfl ty_sc_31 rfl rfl) ?_; refine WP.loud rfl rfl ?_; refine Op.cl (tabT_AllocN hT (by omega) (m := 0) (by decide) (upto0 hg0)) rfl Tryz.func10 rfl rfl rfl rfl ?_; rintro v J1 L1 hJ1 ⟨x1, rfl, hu1, hup1, hT1⟩
 try simp only [nf]
 have hk1 := hu1.tok
 refine WP.mv rfl rfl ?_; iterate 2 refine WP.vl rfl (Yld.extract rfl rfl rfl) ?_
 iterate 2 refine WP.mv rfl rfl ?_
 refine WP.nil ?_; refine WP.sub [(0, _), (1, _), (2, _), (6, _), (7, _), (8, _), (9, _), (10, _), (11, _), (35, _)] ?_ ⟨rfl, rfl, rfl, rfl, rfl, rfl, rfl, rfl, rfl, rfl, trivial⟩
 refine WP.next (WP.seq ?_)
 refine WD.start Tryzmixed 9 (fun c o => c = x ∧ o = row 37 [.pointer (some ⟨d, 0, none⟩), .pointer (some ⟨s, 0, none⟩), .pointer (some ⟨l, 0, none⟩), .pointer (some ⟨t, 0, none⟩), .pointer (some ⟨q, 0, none⟩), .pointer (some ⟨rt, 0, none⟩), .pointer (some ⟨rm, 0, none⟩), .pointer (some ⟨r9, 0, none⟩)]) (fun _ _ => False) (by rintro _ _ ⟨rfl, rfl⟩; exact zM) (fun _ _ h => h.elim) 11 [false, false, false, false, false, false, false, false, false, false, false] rfl rfl ?_; refine WD.vl (i := 0) rfl (Yld.move rfl rfl) ?_; refine WD.vl (i := 1) rfl (Yld.nilCheck rfl rfl) ?_; refine WD.vl (i := 2) rfl (Yld.fieldAddr rfl ty_fd_37_3 rfl) ?_; refine WD.val1 (i := 3) rfl rfl rfl rfl zK rfl zK (Yld.load (v := .pointer (some ⟨t, 0, none⟩)) rfl ty_sc_31 rfl (.inl ⟨rfl, rfl⟩) rfl) ?_; refine WD.vl (i := 4) rfl (Yld.move rfl rfl) ?_; refine WD.loud (i := 5) zK rfl rfl rfl ?_; refine Op.buildSlice rfl ty_sl_47 ty_el2_47 rfl rfl rfl rfl (vs := [_, _, _, _]) rfl (segs := [(0, [_]), (1, [_]), (2, [_]), (3, [_])]) (cs := bytesV [98, 97, 115, 101]) rfl rfl zS (fun bl => ?_)
 refine WD.gR ?_; refine WD.loud (i := 6) zK rfl rfl rfl ?_; refine Op.mark (cs := bytesV [98, 97, 115, 101]) rfl Tryz.underlying47 zK rfl rfl rfl (by repeat (first | exact Rm.chunk | exact Rm.here | exact Rm.nil0 | apply Rm.skip | apply Rm.skipS)) (fun J5 hJ5 hm5 => ?_)
 have hs5 := Im_lit' (c := 4) hm5 (Nat.le_refl _)
 refine WD.gR ?_; refine WD.loud (i := 7) zK rfl rfl rfl ?_; refine Op.cl (txn_Page (d := [98, 97, 115, 101]) hs5) rfl Tryz.func12 rfl rfl rfl rfl ?_; rintro v J7 L7 hJ7 ⟨rfl, hr7⟩
 try simp only [nf]
 obtain ⟨A7, c7, rfl⟩ := hr7.sl
 obtain ⟨nv7, hp7, hq7⟩ := id hr7.ex
 have hJ17 := Imm.le_trans hJ5 hJ7
 have hre7 : REnt J7 (newE [(true, [98, 97, 115, 101])]) [.int .u64 0, .slice A7 1 c7, .int .i64 0, .int .i64 0, .int .i64 0, .int .i64 0, .int .i64 0, .int .i64 0, .slice none 0 0] := ⟨_, _, nv7, rfl, hp7, hq7, ⟨none, 0, rfl, Nat.le_refl _, rfl, .inl rfl⟩⟩
 refine WD.gR ?_; refine WD.vl (i := 8) rfl (Yld.buildS (pl := [(1, 1, 1)]) rfl ty_zr_50 ty_zd_50 zK rfl (vs := [_]) rfl (segs := [(1, [_])]) rfl rfl zS) ?_; refine WD.loud (i := 9) zK rfl rfl rfl ?_; refine Op.cl (tabT_SwapX (hT1.mono hJ17) (p := 1) (tk := 1) (e := newE [(true, [98, 97, 115, 101])]) hre7 ⟨(by show 1 ≤ _; decide), (fun y hy => by cases List.mem_singleton.1 hy; show 4 ≤ _; decide), Nat.zero_le _⟩ (by omega)) rfl Tryz.func11 rfl rfl rfl rfl ?_; rintro v J8 L8 hJ8 ⟨r8, tb_0, rfl, hsw8, hT8⟩
 try simp only [nf]
 obtain ⟨hr8, w_0, he_0, htk_0⟩ := CW.one (m := 60) (B := bdT) (by decide) (by decide) hk0 hu1 (by decide) hsw8
 subst hr8
 have hJ18 := Imm.le_trans hJ17 hJ8
 obtain ⟨xx_0, hxx0⟩ : ∃ u, u = (⟨1, ⟨60, 1, 1⟩, 0, 8, [], 0, 0, 8⟩ : Lg) := ⟨_, rfl⟩
 rw [← hxx0] at w_0 hl
 refine WD.go (.inl rfl) (fun _ _ h => h.elim) ?_; refine WD.vl (i := 10) rfl (Yld.assign rfl rfl) ?_; refine WD.done zK ?_; refine WP.sub [(0, _), (1, _), (2, _), (6, _), (7, _), (8, _), (9, _), (10, _), (11, _), (12, _), (35, _)] ?_ ⟨rfl, rfl, rfl, rfl, rfl, rfl, rfl, rfl, rfl, rfl, rfl, trivial⟩
 refine WP.next (WP.seq (WP.seq ?_))
 refine WP.region [0, 1, 2, 3, 4, 5, 6, 7, 8, 9] rfl ?_; refine WP.mv rfl rfl ?_; refine WP.vl rfl (Yld.eqlNil rfl ty_pt_26 rfl rfl) ?_; refine WP.mv rfl rfl ?_; refine WP.valG rfl rfl rfl rfl rfl rfl rfl (Yld.move rfl rfl) ?_; refine WP.valG rfl rfl rfl rfl rfl rfl rfl (Yld.neq rfl rfl rfl false (decide_eq_false (by simp))) ?_; refine WP.vl rfl (Yld.pickF rfl rfl rfl) ?_; refine WP.mv rfl rfl ?_; refine WP.valG rfl rfl rfl rfl rfl rfl rfl (Yld.move rfl rfl) ?_; refine WP.valG rfl rfl rfl rfl rfl rfl rfl (Yld.neq rfl rfl rfl false (decide_eq_false (by simp))) ?_; refine WP.vl rfl (Yld.pickF rfl rfl rfl) ?_; refine WP.nil ?_; refine WP.sub [(0, _), (1, _), (2, _), (6, _), (7, _), (8, _), (9, _), (10, _), (11, _), (12, _), (35, _), (72, _)] ?_ ⟨rfl, rfl, rfl, rfl, rfl, rfl, rfl, rfl, rfl, rfl, rfl, rfl, trivial⟩
 refine WP.next ?_; refine WP.condF rfl ?_; refine WP.skip (WP.next (WP.seq ?_))
 refine WP.region [0, 1] rfl ?_; refine WP.loud rfl rfl ?_; refine Op.buildSlice rfl ty_sl_38 ty_el2_38 rfl rfl rfl rfl (vs := [_]) rfl (segs := [(0, [_])]) (cs := [strV [98, 97, 115, 101]]) rfl rfl zS (fun bs => ?_)
 refine WP.mv rfl rfl ?_; refine WP.nil ?_; refine WP.sub [(0, _), (1, _), (2, _), (6, _), (7, _), (8, _), (9, _), (10, _), (11, _), (12, _), (13, _), (35, _), (72, _)] ?_ ⟨rfl, rfl, rfl, rfl, rfl, rfl, rfl, rfl, rfl, rfl, rfl, rfl, rfl, trivial⟩
 refine WP.next (WP.seq (WP.seq ?_))
 refine WP.perm _ (show Take _ [(st, _)] _ from zT).perm ?_; refine WP.share (fun Ja hJa hst_a => ?_)
 try simp only [nf]
 refine WP.perm _ (show Take _ [(x, _)] _ from zT).perm ?_; refine WP.share (fun J_0 hJb_0 hrg_0 => ?_)
 try simp only [nf]
 have hst_0 := hJb_0.2 _ _ hst_a
 have hJ80 := Imm.le_trans hJa hJb_0
 have hT_0 := hT8.mono hJ80
 have hlg_0 := hl.mono (Imm.le_trans hJ1 (Imm.le_trans hJ18 hJ80))
 have hJ_0 := Imm.le_trans hJA (Imm.le_trans hJ1 (Imm.le_trans hJ18 hJ80))
 have hsl_0 := hls
 refine WP.shO (Own.blk (T := 9) (sz := 1) (b := bs) (cap := 1) (n := 1) (xs := [strV [98, 97, 115, 101]]) (sp := []) rfl rfl (Nat.le_refl _)) (fun J_1 hJ_01 hws_0 => ?_)
 have hJ_1 := Imm.le_trans hJ_0 hJ_01
 have hT_1 := hT_0.mono hJ_01
 have hlg_1 := hlg_0.mono hJ_01
 have hst_1 := hJ_01.2 _ _ hst_0
 have hrg_1 := hJ_01.2 _ _ hrg_0
 refine WP.region [0] rfl ?_; refine WP.mv rfl rfl ?_; refine WP.nil (WP.next (WP.block ?_))
 refine WP.loop (X := TvX) (fun u : TvX => [(0, .slice Al ls.length cl), (1, .slice Ak ks.length ck), (2, .slice Ap ps.length cp), (8, .pointer (some ⟨x, 0, none⟩)), (9, .pointer (some ⟨st, 0, none⟩)), (13, u.v), (14, .int .i64 (u.i : Int))]) (fun u => u.J) (fun u : TvX => u.Lt ++ (Ll ++ F)) (fun u : TvX => u.i ≤ ls.length ∧ u.i ≤ 20 ∧ J_1.le u.J ∧ TpI u.i u.N u.tb xx_0 ∧ SlRd (Imv u.J) u.v (u.N.map (·.2)).length 1 ((u.N.map (·.2)).map strV) ∧ IsT u.J t u.tb u.Lt) (fun u => ls.length - u.i) ⟨0, [(true, [98, 97, 115, 101])], .slice (some ⟨bs, 0, none⟩) 1 1, tb_0, J_1, L8⟩ ⟨Nat.zero_le _, Nat.zero_le _, Imm.le_refl _, ⟨by simp, (by show 1 ≤ 0 + 1; decide), w_0, ⟨_, he_0, rfl, rfl, rfl⟩, (by show tb_0.tok ≤ 2 + 0; omega)⟩, hws_0, hT_1⟩ ⟨rfl, rfl, rfl, rfl, rfl, rfl, rfl, trivial⟩ rfl zA ?_
 rintro ⟨i, N, vws, tb2, J, Lt2⟩ ⟨hle, hle20, hJ, hch, hws, hT⟩; dsimp only at hle hle20 hJ hch hws hT; obtain ⟨Aws, cws, rfl, _⟩ := id hws
 try dsimp only
 try simp only [nf]
 refine WP.seq (WP.seq ?_)
 refine WP.region [0, 1, 2, 3, 4, 5, 6, 7] rfl ?_; iterate 2 refine WP.mv rfl rfl ?_
 refine WP.vl rfl (Yld.len rfl ty_sl_65 rfl) ?_; refine WP.split rfl rfl rfl rfl (Yld.lss rfl rfl rfl) (fun hlt => ?_) (fun hlt => ?_)
 ·refine WP.mv rfl rfl ?_
  refine WP.valG rfl rfl rfl rfl rfl rfl rfl (Yld.move rfl rfl) ?_; refine WP.splitG rfl rfl rfl rfl rfl rfl rfl (Yld.lss rfl rfl rfl) (fun hlt20 => ?_) (fun hlt20 => ?_)
  ·have hi : i < ls.length := by omega
   obtain ⟨bl, kl, Tl, fl_, arl, eAl, hbl0, hc4⟩ := hsl_0.at_ hi
   have hcb := hsl_0.el _ (List.getElem_mem hi)
   have hbl := (Imm.le_trans hJ_1 hJ).2 _ _ hbl0
   obtain ⟨Ab, cb, hvb, _⟩ := id hcb
   rw [hvb] at hc4 hcb
   have hcbJ := hcb.mono (fun b o q => (Imm.le_trans hJ_1 hJ).2 b o q)
   refine WP.vl rfl (Yld.pickT rfl rfl rfl) ?_; refine WP.nil ?_; refine WP.sub [(0, _), (1, _), (2, _), (8, _), (9, _), (13, _), (14, _), (81, _)] ?_ ⟨rfl, rfl, rfl, rfl, rfl, rfl, rfl, rfl, trivial⟩
   refine WP.next ?_; refine WP.condT rfl ?_; refine WP.skip (WP.next (WP.seq (WP.block (WP.seq (WP.seq ?_)))))
   refine WP.region [0, 1, 2, 3, 4, 5] rfl ?_; iterate 2 refine WP.mv rfl rfl ?_
   refine WP.vl rfl (Yld.indexAddr (i := i) rfl ty_sl_65 (congrArg (fun a => some (Value.slice a ls.length cl)) eAl) rfl hi) ?_; refine WP.vl rfl (Yld.loadC (v := .slice Ab ls[i].2.length cb) rfl ty_sc_47 rfl (There.i hbl) hc4) ?_; refine WP.vl rfl (Yld.len rfl ty_sl_47 rfl) ?_; refine WP.split rfl rfl rfl rfl (Yld.gtr rfl rfl rfl) (fun h100 => ?_) (fun h100 => ?_)
   ·refine WP.nil ?_
    refine WP.sub [(0, _), (1, _), (2, _), (8, _), (9, _), (13, _), (14, _), (81, _), (89, _)] ?_ ⟨rfl, rfl, rfl, rfl, rfl, rfl, rfl, rfl, rfl, trivial⟩
    refine WP.next ?_; refine WP.condT rfl ?_; refine WP.exit (WP.thenE (WP.hit (WP.next ?_)))
    refine WP.region [0, 1, 2] rfl ?_; refine WP.mv rfl rfl ?_; refine WP.vl rfl (Yld.add64 rfl rfl rfl (by omega)) ?_; refine WP.mv rfl rfl ?_; refine WP.nil ?_; refine WP.sub [(0, _), (1, _), (2, _), (8, _), (9, _), (13, _), (14, _), (81, _), (89, _)] ?_ ⟨rfl, rfl, rfl, rfl, rfl, rfl, rfl, rfl, rfl, trivial⟩
    exact WP.again ⟨i + 1, N, .slice Aws (N.map (·.2)).length cws, tb2, J, Lt2⟩ ⟨(show i + 1 ≤ ls.length by omega), (show i + 1 ≤ 20 by omega), hJ, hch.skip, hws, hT⟩ (show ls.length - (i + 1) < ls.length - i by omega) ⟨rfl, rfl, rfl, rfl, rfl, rfl, rfl, trivial⟩ rfl zA
   ·have hW : W1 N 1 ≠ [] := by rw [W1_1]; exact hch.nn
    have hnl := hch.nl; have htk := hch.tok
    obtain ⟨e, he, he1, he2, he3⟩ := hch.en
    have hmy := put_may (d := ls[i].2) hch.w hW he (fun h => by rw [W1_1] at h ⊢; show _ ≤ 21; omega) (by decide) (by show _ ≤ 100; omega)
    refine WP.nil ?_; refine WP.sub [(0, _), (1, _), (2, _), (8, _), (9, _), (13, _), (14, _), (81, _), (89, _)] ?_ ⟨rfl, rfl, rfl, rfl, rfl, rfl, rfl, rfl, rfl, trivial⟩
    refine WP.next ?_; refine WP.condF rfl ?_; refine WP.skip (WP.next (WP.seq ?_))
    refine WP.region [0, 1, 2, 3, 4, 5, 6] rfl ?_; iterate 3 refine WP.mv rfl rfl ?_
    refine WP.vl rfl (Yld.indexAddr (i := i) rfl ty_sl_65 (congrArg (fun a => some (Value.slice a ls.length cl)) eAl) rfl hi) ?_; refine WP.vl rfl (Yld.loadC (v := .slice Ab ls[i].2.length cb) rfl ty_sc_47 rfl (There.i hbl) hc4) ?_; refine WP.loud rfl rfl ?_; refine Op.cl (law_put hT ((Imm.le_trans hJ_01 hJ).2 _ _ hrg_0) (d := ls[i].2) he hcbJ hmy.1 (by omega) hmy.2.1 hmy.2.2) rfl Tryz.func13 rfl rfl rfl rfl ?_; rintro v JP L155 hJP ⟨c, tbP, rfl, hput, hTP⟩
    try simp only [nf]
    obtain ⟨hctrue, hP⟩ := hch.put (by omega) he (by omega) hput
    subst hctrue
    have hblP := hJP.2 _ _ hbl
    refine WP.mv rfl rfl ?_; refine WP.nil ?_; refine WP.sub [(0, _), (1, _), (2, _), (8, _), (9, _), (13, _), (14, _), (15, _), (81, _), (89, _)] ?_ ⟨rfl, rfl, rfl, rfl, rfl, rfl, rfl, rfl, rfl, rfl, trivial⟩
    refine WP.next (WP.seq (WP.seq ?_))
    refine WP.region [0, 1] rfl ?_; refine WP.mv rfl rfl ?_; refine WP.vl rfl (Yld.not rfl rfl) ?_; refine WP.nil ?_; refine WP.sub [(0, _), (1, _), (2, _), (8, _), (9, _), (13, _), (14, _), (15, _), (81, _), (89, _), (97, _)] ?_ ⟨rfl, rfl, rfl, rfl, rfl, rfl, rfl, rfl, rfl, rfl, rfl, trivial⟩
    refine WP.next ?_; refine WP.condF rfl ?_; refine WP.skip (WP.next ?_)
    refine WP.region [0, 1, 2, 3, 4, 5, 6, 7, 8] rfl ?_; iterate 2 refine WP.mv rfl rfl ?_
    refine WP.vl rfl (Yld.indexAddr (i := i) rfl ty_sl_65 (congrArg (fun a => some (Value.slice a ls.length cl)) eAl) rfl hi) ?_; refine WP.vl rfl (Yld.loadC (v := .slice Ab ls[i].2.length cb) rfl ty_sc_47 rfl (There.i hblP) hc4) ?_; refine WP.vl rfl (Yld.str (e := 5) rfl zK zK zK rfl (hcbJ.mono (fun b o h => There.i (hJP.2 _ _ h)))) ?_; refine WP.loud rfl rfl ?_; refine Op.buildSlice rfl ty_sl_38 ty_el2_38 rfl rfl rfl rfl (vs := [_]) rfl (segs := [(0, [_])]) (cs := [strV ls[i].2]) rfl rfl zS (fun bq => ?_)
    refine WP.mv rfl rfl ?_; refine WP.loud rfl rfl ?_; refine Op.append (m := (N.map (·.2)).length) rfl ty_sl_38 ty_el_38 rfl rfl rfl rfl rfl (Own.blk (T := 9) (sz := 1) (b := bq) (cap := 1) (n := 1) (xs := [strV ls[i].2]) (sp := []) rfl rfl (Nat.le_refl _)) (hws.mono (fun b o h => There.i (hJP.2 _ _ h))) zT (strs_one _) (by rw [List.length_map]; omega) (by rw [List.length_map]; omega) (fun vu Lu hu => ?_)
    try simp only [nf]
    rw [Nat.add_comm 1 ((N.map (·.2)).length)] at hu
    obtain ⟨Av, cv, rfl, _⟩ := hu.slice
    refine WP.mv rfl rfl ?_; refine WP.nil ?_; refine WP.sub [(0, _), (1, _), (2, _), (8, _), (9, _), (13, _), (14, _), (15, _), (81, _), (89, _), (97, _)] ?_ ⟨rfl, rfl, rfl, rfl, rfl, rfl, rfl, rfl, rfl, rfl, rfl, trivial⟩
    refine WP.shO hu (fun J18 hJ18 hwsP => ?_)
    have hJP18 := Imm.le_trans hJP hJ18
    have hwsP : SlRd (Imv J18) (.slice Av ((((false, ls[i].2) :: N).map (·.2)).length) cv) (((false, ls[i].2) :: N).map (·.2)).length 1 ((((false, ls[i].2) :: N).map (·.2)).map strV) := hwsP
    refine WP.leave (WP.next ?_)
    refine WP.region [0, 1, 2] rfl ?_; refine WP.mv rfl rfl ?_; refine WP.vl rfl (Yld.add64 rfl rfl rfl (by omega)) ?_; refine WP.mv rfl rfl ?_; refine WP.nil ?_; refine WP.sub [(0, _), (1, _), (2, _), (8, _), (9, _), (13, _), (14, _), (15, _), (81, _), (89, _), (97, _)] ?_ ⟨rfl, rfl, rfl, rfl, rfl, rfl, rfl, rfl, rfl, rfl, rfl, trivial⟩
    exact WP.again ⟨i + 1, ((false, ls[i].2) :: N), .slice Av ((((false, ls[i].2) :: N).map (·.2)).length) cv, tbP, J18, L155⟩ ⟨(show i + 1 ≤ ls.length by omega), (show i + 1 ≤ 20 by omega), Imm.le_trans hJ hJP18, hP, hwsP, hTP.mono hJ18⟩ (show ls.length - (i + 1) < ls.length - i by omega) ⟨rfl, rfl, rfl, rfl, rfl, rfl, rfl, trivial⟩ rfl zA
  ·refine WP.vl rfl (Yld.pickT rfl rfl rfl) ?_
   refine WP.nil ?_; refine WP.sub [(0, _), (1, _), (2, _), (8, _), (9, _), (13, _), (14, _), (81, _)] ?_ ⟨rfl, rfl, rfl, rfl, rfl, rfl, rfl, rfl, trivial⟩
   refine WP.next ?_; refine WP.condF rfl ?_; refine WP.exit (WP.thenE (WP.thenE (WP.hit (WP.next (WP.seq ?_)))))
   have hW : W1 N 1 ≠ [] := by rw [W1_1]; exact hch.nn
   have htw := hch.on
   have htk := hch.tok
   have hJ1J := Imm.le_trans hJ_1 hJ
   have hlgJ := hlg_1.mono hJ
   refine WP.region [0] rfl ?_; refine WP.mv rfl rfl ?_; refine WP.nil (WP.next (WP.seq (WP.seq ?_)))
   refine WP.region [0] rfl ?_; refine WP.mv rfl rfl ?_; refine WP.nil (WP.next (WP.block ?_))
   refine WP.loop (X := TmX) (fun u : TmX => [(1, .slice Ak ks.length ck), (2, .slice Ap ps.length cp), (8, .pointer (some ⟨x, 0, none⟩)), (9, .pointer (some ⟨st, 0, none⟩)), (13, .slice Aws (N.map (·.2)).length cws), (16, u.v), (17, .int .i64 (u.i : Int))]) (fun u => u.J) (fun u : TmX => u.ms.flatMap Mi.L ++ (u.Lo ++ (Lt2 ++ (Ll ++ F)))) (fun u : TmX => u.i ≤ ks.length ∧ u.i ≤ 8 ∧ J.le u.J ∧ u.ms.length = u.i ∧ Own 55 1 u.v (miP u.ms) u.i u.Lo ∧ IsMs u.J st l u.ms ∧ ∀ y ∈ u.ms, ∃ k, y.z = kindM k) (fun u => ks.length - u.i) ⟨0, [], .slice none 0 0, J, []⟩ ⟨Nat.zero_le _, Nat.zero_le _, Imm.le_refl _, rfl, .none0, (fun y hy => by cases hy), (fun y hy => by cases hy)⟩ ⟨rfl, rfl, rfl, rfl, rfl, rfl, rfl, trivial⟩ rfl zA ?_
   rintro ⟨i1, ms, vms, J1', Lo⟩ ⟨hle1, hle8, hJm, hmn, hoo, hms, hkm⟩; dsimp only at hle1 hle8 hJm hmn hoo hms hkm; obtain ⟨Ao, co, rfl, _⟩ := hoo.slice
   try dsimp only
   try simp only [nf]
   refine WP.seq (WP.seq ?_)
   refine WP.region [0, 1, 2, 3, 4, 5, 6, 7] rfl ?_; iterate 2 refine WP.mv rfl rfl ?_
   refine WP.vl rfl (Yld.len rfl ty_sl_48 rfl) ?_; refine WP.split rfl rfl rfl rfl (Yld.lss rfl rfl rfl) (fun hlt1 => ?_) (fun hlt1 => ?_)
   ·refine WP.mv rfl rfl ?_
    refine WP.valG rfl rfl rfl rfl rfl rfl rfl (Yld.move rfl rfl) ?_; refine WP.splitG rfl rfl rfl rfl rfl rfl rfl (Yld.lss rfl rfl rfl) (fun hlt8 => ?_) (fun hlt8 => ?_)
    ·have hi1 : i1 < ks.length := by omega
     obtain ⟨bk, kk_, Tk, fk, ark, eAk, hbk0, hck⟩ := ints_at hks hi1
     have hbk := (Imm.le_trans hJ1J hJm).2 _ _ hbk0
     refine WP.vl rfl (Yld.pickT rfl rfl rfl) ?_; refine WP.nil ?_; refine WP.sub [(1, _), (2, _), (8, _), (9, _), (13, _), (16, _), (17, _), (113, _)] ?_ ⟨rfl, rfl, rfl, rfl, rfl, rfl, rfl, rfl, trivial⟩
     refine WP.next ?_; refine WP.condT rfl ?_; refine WP.skip (WP.next (WP.seq (WP.block (WP.seq ?_))))
     refine WP.region [0, 1, 2, 3, 4, 5, 6] rfl ?_; iterate 3 refine WP.mv rfl rfl ?_
     refine WP.vl rfl (Yld.indexAddr (i := i1) rfl ty_sl_48 (congrArg (fun a => some (Value.slice a ks.length ck)) eAk) rfl hi1) ?_; refine WP.vl rfl (Yld.loadC (v := .int .i64 ks[i1]) rfl ty_sc_3 rfl (There.i hbk) hck) ?_; refine WP.loud rfl rfl ?_; refine Op.cl (law_kind (s := st) (l := l) (k := ks[i1])) rfl Tryz.func22 rfl rfl rfl rfl ?_; rintro v J2' Lk hJ2' ⟨m, rfl, hmk⟩
     try simp only [nf]
     refine WP.mv rfl rfl ?_; refine WP.nil ?_; refine WP.sub [(1, _), (2, _), (8, _), (9, _), (13, _), (16, _), (17, _), (18, _), (113, _)] ?_ ⟨rfl, rfl, rfl, rfl, rfl, rfl, rfl, rfl, rfl, trivial⟩
     refine WP.next (WP.seq (WP.seq ?_))
     refine WP.region [0, 1] rfl ?_; refine WP.mv rfl rfl ?_; refine WP.vl rfl (Yld.eqlNil rfl ty_pt_55 rfl rfl) ?_; refine WP.nil ?_; refine WP.sub [(1, _), (2, _), (8, _), (9, _), (13, _), (16, _), (17, _), (18, _), (113, _), (123, _)] ?_ ⟨rfl, rfl, rfl, rfl, rfl, rfl, rfl, rfl, rfl, rfl, trivial⟩
     refine WP.next ?_; refine WP.condF rfl ?_; refine WP.skip (WP.next ?_)
     refine WP.region [0, 1, 2, 3, 4] rfl ?_; iterate 2 refine WP.mv rfl rfl ?_
     refine WP.loud rfl rfl ?_; refine Op.buildSlice rfl ty_sl_51 ty_el2_51 rfl rfl rfl rfl (vs := [_]) rfl (segs := [(0, [_])]) (cs := [.pointer (some ⟨m, 0, none⟩)]) rfl rfl zS (fun bq => ?_)
     refine WP.loud rfl rfl ?_; refine Op.append (m := 1) rfl ty_sl_51 ty_el_51 rfl rfl rfl rfl rfl hoo (SlRd.lit (m := 1) zM rfl (Nat.le_refl _)) zT rfl (by omega) (by omega) (fun vn Ln hn2 => ?_)
     try simp only [nf]
     obtain ⟨An, cn, rfl, _⟩ := hn2.slice
     refine WP.mv rfl rfl ?_; refine WP.nil ?_; refine WP.sub [(1, _), (2, _), (8, _), (9, _), (13, _), (16, _), (17, _), (18, _), (113, _), (123, _)] ?_ ⟨rfl, rfl, rfl, rfl, rfl, rfl, rfl, rfl, rfl, rfl, trivial⟩
     refine WP.pushL (f := Mi.L) (l := ms) ⟨m, kindM ks[i1], Lk⟩ zT (by repeat (first | exact Rm.chunk | exact Rm.here | exact Rm.nil0 | apply Rm.skip | apply Rm.skipS)) ?_; try simp only [nf]
     refine WP.leave (WP.next ?_)
     refine WP.region [0, 1, 2] rfl ?_; refine WP.mv rfl rfl ?_; refine WP.vl rfl (Yld.add64 rfl rfl rfl (by omega)) ?_; refine WP.mv rfl rfl ?_; refine WP.nil ?_; refine WP.sub [(1, _), (2, _), (8, _), (9, _), (13, _), (16, _), (17, _), (18, _), (113, _), (123, _)] ?_ ⟨rfl, rfl, rfl, rfl, rfl, rfl, rfl, rfl, rfl, rfl, trivial⟩
     exact WP.again ⟨i1 + 1, ms ++ [⟨m, kindM ks[i1], Lk⟩], .slice An (i1 + 1) cn, J2', Ln⟩ ⟨(show i1 + 1 ≤ ks.length by omega), (show i1 + 1 ≤ 8 by omega), Imm.le_trans hJm hJ2', (by rw [List.length_append]; show ms.length + 1 = _; rw [hmn]), (by show Own _ _ _ (miP (ms ++ [_])) _ _; rw [show miP (ms ++ [⟨m, kindM ks[i1], Lk⟩]) = miP ms ++ [.pointer (some ⟨m, 0, none⟩)] from by simp [miP]]; exact hn2), (fun y hy => by rcases List.mem_append.1 hy with hy | hy; exact (hms y hy).mono hJ2'; cases List.mem_singleton.1 hy; exact hmk), (fun y hy => by rcases List.mem_append.1 hy with hy | hy; exact hkm y hy; cases List.mem_singleton.1 hy; exact ⟨_, rfl⟩)⟩ (show ks.length - (i1 + 1) < ks.length - i1 by omega) ⟨rfl, rfl, rfl, rfl, rfl, rfl, rfl, trivial⟩ rfl zA
    ·refine WP.vl rfl (Yld.pickT rfl rfl rfl) ?_
     refine WP.nil ?_; refine WP.sub [(1, _), (2, _), (8, _), (9, _), (13, _), (16, _), (17, _), (113, _)] ?_ ⟨rfl, rfl, rfl, rfl, rfl, rfl, rfl, rfl, trivial⟩
     refine WP.next ?_; refine WP.condF rfl ?_; refine WP.exit (WP.thenE (WP.thenE (WP.hit (WP.next (WP.seq (WP.seq ?_))))))
     have htwi : TwI N tb2 xx_0 (zsOf ms) := ⟨htw, fun z hz => by obtain ⟨y, hy, rfl⟩ := List.mem_map.1 hz; obtain ⟨k, hk⟩ := hkm y hy; rw [hk]; obtain ⟨a1, a2, a3, _⟩ := kindM_new (k := k) (N := N) (tb := tb2) (x := xx_0); exact ⟨a1, a2, a3⟩, by have q := phi_new (tb := tb2) (zs := zsOf ms) (fun z hz => by obtain ⟨y, hy, rfl⟩ := List.mem_map.1 hz; exact hkm y hy) (by unfold zsOf; rw [List.length_map]; omega); have q2 : xx_0.pl = 8 := (by rw [hxx0]; rfl); omega⟩
     have hJ2J := Imm.le_trans hJ1J hJm
     refine WP.region [0] rfl ?_; refine WP.mv rfl rfl ?_; refine WP.nil (WP.next (WP.block ?_))
     refine WP.loop (X := TsX) (fun u : TsX => [(2, .slice Ap ps.length cp), (8, .pointer (some ⟨x, 0, none⟩)), (9, .pointer (some ⟨st, 0, none⟩)), (13, .slice Aws (N.map (·.2)).length cws), (16, .slice Ao i1 co), (19, .int .i64 (u.i : Int))]) (fun u => u.J) (fun u : TsX => u.ms.flatMap Mi.L ++ (Lo ++ (u.Lt ++ (u.Ll ++ F)))) (fun u : TsX => u.i ≤ ps.length ∧ J1'.le u.J ∧ u.ms.length = i1 ∧ miP u.ms = miP ms ∧ TwI N u.tb u.x (zsOf u.ms) ∧ u.tb.tok ≤ 2 + i + u.i ∧ IsMs u.J st l u.ms ∧ IsT u.J t u.tb u.Lt ∧ IsLog u.J l s d (8 + 32 * 60) u.x (Dk.new (8 + 32 * 60)) u.Ll) (fun u => ps.length - u.i) ⟨0, ms, tb2, xx_0, J1', Lt2, Ll⟩ ⟨Nat.zero_le _, Imm.le_refl _, hmn, rfl, htwi, (by show tb2.tok ≤ 2 + i + 0; omega), hms, hT.mono hJm, hlgJ.mono hJm⟩ ⟨rfl, rfl, rfl, rfl, rfl, rfl, trivial⟩ rfl zA ?_
     rintro ⟨i2, m2, tb3, x3, J3, Lt3, Ll3⟩ ⟨hle2, hJ3, hmn3, hpp3, htw3, htk3, hms3, hT3, hlg3⟩; dsimp only at hle2 hJ3 hmn3 hpp3 htw3 htk3 hms3 hT3 hlg3
     try dsimp only
     try simp only [nf]
     refine WP.seq (WP.seq ?_)
     refine WP.region [0, 1, 2, 3, 4, 5, 6, 7, 8] rfl ?_; iterate 2 refine WP.mv rfl rfl ?_
     refine WP.vl rfl (Yld.len rfl ty_sl_48 rfl) ?_; refine WP.split rfl rfl rfl rfl (Yld.lss rfl rfl rfl) (fun hlt2 => ?_) (fun hlt2 => ?_)
     ·refine WP.mv rfl rfl ?_
      refine WP.valG rfl rfl rfl rfl rfl rfl rfl (Yld.move rfl rfl) ?_; refine WP.valG rfl rfl rfl rfl rfl rfl rfl (Yld.len rfl ty_sl_51 rfl) ?_; refine WP.splitG rfl rfl rfl rfl rfl rfl rfl (Yld.gtr rfl rfl rfl) (fun hpos => ?_) (fun hpos => ?_)
      ·have hi2 : i2 < ps.length := by omega
       have hi0 : 0 < i1 := by omega
       obtain ⟨bp, kp, Tp, fp, arp, eAp, hbp0, hcp⟩ := ints_at hps hi2
       have hbp := (Imm.le_trans hJ2J hJ3).2 _ _ hbp0
       obtain ⟨bm, cap, sp, hve, rfl, _, _⟩ := hoo.get hi0
       cases hve
       obtain ⟨hk1, hk2⟩ := tmod_nat (a := ps[i2]) (m := i1) hi0
       try simp only [nf]
       refine WP.vl rfl (Yld.pickT rfl rfl rfl) ?_; refine WP.nil ?_; refine WP.sub [(2, _), (8, _), (9, _), (13, _), (16, _), (19, _), (136, _)] ?_ ⟨rfl, rfl, rfl, rfl, rfl, rfl, rfl, trivial⟩
       refine WP.next ?_; refine WP.condT rfl ?_; refine WP.skip (WP.next (WP.seq (WP.block (WP.seq ?_))))
       refine WP.region [0, 1, 2, 3, 4, 5, 6, 7] rfl ?_; iterate 2 refine WP.mv rfl rfl ?_
       refine WP.vl rfl (Yld.indexAddr (i := i2) rfl ty_sl_48 (congrArg (fun a => some (Value.slice a ps.length cp)) eAp) rfl hi2) ?_; refine WP.vl rfl (Yld.loadC (v := .int .i64 ps[i2]) rfl ty_sc_3 rfl (There.i hbp) hcp) ?_; refine WP.mv rfl rfl ?_; refine WP.vl rfl (Yld.len rfl ty_sl_51 rfl) ?_; refine WP.vl rfl (Yld.remT rfl rfl rfl ⟨by omega, by omega⟩) ?_; refine WP.mv rfl rfl ?_; refine WP.nil ?_; refine WP.sub [(2, _), (8, _), (9, _), (13, _), (16, _), (19, _), (20, _), (136, _)] ?_ ⟨rfl, rfl, rfl, rfl, rfl, rfl, rfl, rfl, trivial⟩
       refine WP.next (WP.seq (WP.seq ?_))
       refine WP.region [0, 1] rfl ?_; refine WP.mv rfl rfl ?_; refine WP.split rfl rfl rfl rfl (Yld.lss rfl rfl rfl) (fun hneg => ?_) (fun hneg => ?_)
       ·obtain ⟨kk, hkv, hkk⟩ := hk2 hneg
        refine WP.nil ?_; refine WP.sub [(2, _), (8, _), (9, _), (13, _), (16, _), (19, _), (20, _), (136, _), (147, _)] ?_ ⟨rfl, rfl, rfl, rfl, rfl, rfl, rfl, rfl, rfl, trivial⟩
        refine WP.next ?_; refine WP.condT rfl ?_; refine WP.region [0, 1, 2] rfl ?_; refine WP.mv rfl rfl ?_; refine WP.vl rfl (Yld.neg64 rfl rfl (by omega)) ?_; rw [hkv]
        refine WP.mv rfl rfl ?_; refine WP.nil ?_; refine WP.sub [(2, _), (8, _), (9, _), (13, _), (16, _), (19, _), (20, _), (136, _), (147, _)] ?_ ⟨rfl, rfl, rfl, rfl, rfl, rfl, rfl, rfl, rfl, trivial⟩
        refine WP.next (WP.seq ?_)
        have hkm3 : kk < m2.length := by omega
        have hkz : kk < (zsOf m2).length := by unfold zsOf; rw [List.length_map]; exact hkm3
        have hmk3 := htw3.ms _ (List.getElem_mem hkz)
        rw [zsOf_at hkm3 hkz] at hmk3
        have hptr := miP_at hkm3 sp
        rw [hpp3] at hptr
        have hst3 := (Imm.le_trans (Imm.le_trans hJ hJm) hJ3).2 _ _ hst_1
        have hrg3 := (Imm.le_trans (Imm.le_trans hJ hJm) hJ3).2 _ _ hrg_1
        have hm3 := hms3 _ (List.getElem_mem hkm3)
        refine WP.region [0, 1, 2, 3, 4] rfl ?_; iterate 2 refine WP.mv rfl rfl ?_
        refine WP.vl rfl (Yld.indexAddr (i := kk) rfl ty_sl_51 rfl rfl hkk) ?_; refine WP.vl rfl (Yld.ld (v := .pointer (some ⟨m2[kk].m, 0, none⟩)) rfl ty_sc_55 rfl hptr) ?_; refine WP.outL (f := Mi.L) (l := m2) kk hkm3 (by repeat (first | exact Rm.chunk | exact Rm.here | exact Rm.nil0 | apply Rm.skip | apply Rm.skipS)) ?_; try simp only [nf]
        refine WP.loud rfl rfl ?_; refine Op.cl (mx_Step hst3 hT3 hlg3 hm3 htw3.w.w (by rw [hmk3.2.1]; exact htw3.w.hW) hmk3.1 (by decide : bdT.b ≤ 1099511627776) (by omega)) rfl Tryz.func17 rfl rfl rfl rfl ?_; rintro v J4 L334 hJ4 ⟨c4, z4, tb4, x4, Lm4, Lt4, Ll4, rfl, hs4, rfl, hm4, hT4, hlg4⟩
        try simp only [nf]
        have htw4 := htw3.step hkz (by rw [zsOf_at hkm3 hkz]; exact hs4)
        obtain ⟨_, _, k3, _⟩ := hs4.step htw3.w.w (by rw [hmk3.2.1]; exact htw3.w.hW) hmk3.1
        refine WP.nil ?_; refine WP.sub [(2, _), (8, _), (9, _), (13, _), (16, _), (19, _), (20, _), (136, _), (147, _)] ?_ ⟨rfl, rfl, rfl, rfl, rfl, rfl, rfl, rfl, rfl, trivial⟩
        refine WP.backL (f := Mi.L) (l := m2) kk hkm3 ⟨m2[kk].m, z4, Lm4⟩ zT (by repeat (first | exact Rm.chunk | exact Rm.here | exact Rm.nil0 | apply Rm.skip | apply Rm.skipS)) ?_; try simp only [nf]
        obtain ⟨e4, he4, hsh4⟩ := htw4.w.sh
        have hok4 := (htw4.w.w.held htw4.w.hW he4).ok
        rw [W1_1] at hok4
        have hws4 := hws.mono (Imv.le (Imm.le_trans hJm (Imm.le_trans hJ3 hJ4)))
        refine WP.next (WP.seq ?_)
        refine WP.region [0, 1, 2, 3] rfl ?_; iterate 2 refine WP.mv rfl rfl ?_
        refine WP.loud rfl rfl ?_; refine Op.cl (law_has hT4 (hJ4.2 _ _ hrg3) he4 hws4 (fun q => by rcases hsh4 with ⟨_, _, q2⟩ | ⟨q2, _⟩; exact absurd (q2 ▸ q) htw4.w.nn; exact q2) (fun q => by cases q) (fun q => by rw [hok4.nds.resolve_left q]) (fun q => by rw [hok4.nds.resolve_left q]; exact hok4.nf)) rfl Tryz.func18 rfl rfl rfl rfl ?_; rintro v J5 L342 hJ5 ⟨rfl, hT5⟩
        try simp only [nf]
        refine WP.mv rfl rfl ?_; refine WP.nil ?_; refine WP.sub [(2, _), (8, _), (9, _), (13, _), (16, _), (19, _), (20, _), (21, _), (136, _), (147, _)] ?_ ⟨rfl, rfl, rfl, rfl, rfl, rfl, rfl, rfl, rfl, rfl, trivial⟩
        refine WP.next (WP.seq ?_)
        refine WP.region [0, 1] rfl ?_; refine WP.mv rfl rfl ?_; refine WP.vl rfl (Yld.not rfl rfl) ?_; refine WP.nil ?_; refine WP.sub [(2, _), (8, _), (9, _), (13, _), (16, _), (19, _), (20, _), (21, _), (136, _), (147, _), (159, _)] ?_ ⟨rfl, rfl, rfl, rfl, rfl, rfl, rfl, rfl, rfl, rfl, rfl, trivial⟩
        refine WP.next ?_; refine WP.condF rfl ?_; refine WP.skip (WP.leave (WP.next ?_))
        refine WP.region [0, 1, 2] rfl ?_; refine WP.mv rfl rfl ?_; refine WP.vl rfl (Yld.add64 rfl rfl rfl (by omega)) ?_; refine WP.mv rfl rfl ?_; refine WP.nil ?_; refine WP.sub [(2, _), (8, _), (9, _), (13, _), (16, _), (19, _), (20, _), (21, _), (136, _), (147, _), (159, _)] ?_ ⟨rfl, rfl, rfl, rfl, rfl, rfl, rfl, rfl, rfl, rfl, rfl, trivial⟩
        exact WP.again ⟨i2 + 1, m2.set kk ⟨m2[kk].m, z4, Lm4⟩, tb4, x4, J5, L342, Ll4⟩ ⟨(show i2 + 1 ≤ ps.length by omega), Imm.le_trans hJ3 (Imm.le_trans hJ4 hJ5), (by rw [List.length_set]; exact hmn3), ((miP_set (y := ⟨m2[kk].m, z4, Lm4⟩) hkm3 rfl).trans hpp3), (by rw [zsOf_set]; exact htw4), (show tb4.tok ≤ 2 + i + (i2 + 1) by omega), ((hms3.mono hJ4).set kk hm4).mono hJ5, hT5, hlg4.mono hJ5⟩ (show ps.length - (i2 + 1) < ps.length - i2 by omega) ⟨rfl, rfl, rfl, rfl, rfl, rfl, trivial⟩ rfl zA
       ·obtain ⟨kk, hkv, hkk⟩ := hk1 hneg
        rw [hkv]
        refine WP.nil ?_; refine WP.sub [(2, _), (8, _), (9, _), (13, _), (16, _), (19, _), (20, _), (136, _), (147, _)] ?_ ⟨rfl, rfl, rfl, rfl, rfl, rfl, rfl, rfl, rfl, trivial⟩
        refine WP.next ?_; refine WP.condF rfl ?_; refine WP.skip (WP.next (WP.seq ?_))
        have hkm3 : kk < m2.length := by omega
        have hkz : kk < (zsOf m2).length := by unfold zsOf; rw [List.length_map]; exact hkm3
        have hmk3 := htw3.ms _ (List.getElem_mem hkz)
        rw [zsOf_at hkm3 hkz] at hmk3
        have hptr := miP_at hkm3 sp
        rw [hpp3] at hptr
        have hst3 := (Imm.le_trans (Imm.le_trans hJ hJm) hJ3).2 _ _ hst_1
        have hrg3 := (Imm.le_trans (Imm.le_trans hJ hJm) hJ3).2 _ _ hrg_1
        have hm3 := hms3 _ (List.getElem_mem hkm3)
        refine WP.region [0, 1, 2, 3, 4] rfl ?_; iterate 2 refine WP.mv rfl rfl ?_
        refine WP.vl rfl (Yld.indexAddr (i := kk) rfl ty_sl_51 rfl rfl hkk) ?_; refine WP.vl rfl (Yld.ld (v := .pointer (some ⟨m2[kk].m, 0, none⟩)) rfl ty_sc_55 rfl hptr) ?_; refine WP.outL (f := Mi.L) (l := m2) kk hkm3 (by repeat (first | exact Rm.chunk | exact Rm.here | exact Rm.nil0 | apply Rm.skip | apply Rm.skipS)) ?_; try simp only [nf]
        refine WP.loud rfl rfl ?_; refine Op.cl (mx_Step hst3 hT3 hlg3 hm3 htw3.w.w (by rw [hmk3.2.1]; exact htw3.w.hW) hmk3.1 (by decide : bdT.b ≤ 1099511627776) (by omega)) rfl Tryz.func17 rfl rfl rfl rfl ?_; rintro v J4 L334 hJ4 ⟨c4, z4, tb4, x4, Lm4, Lt4, Ll4, rfl, hs4, rfl, hm4, hT4, hlg4⟩
        try simp only [nf]
        have htw4 := htw3.step hkz (by rw [zsOf_at hkm3 hkz]; exact hs4)
        obtain ⟨_, _, k3, _⟩ := hs4.step htw3.w.w (by rw [hmk3.2.1]; exact htw3.w.hW) hmk3.1
        refine WP.nil ?_; refine WP.sub [(2, _), (8, _), (9, _), (13, _), (16, _), (19, _), (20, _), (136, _), (147, _)] ?_ ⟨rfl, rfl, rfl, rfl, rfl, rfl, rfl, rfl, rfl, trivial⟩
        refine WP.backL (f := Mi.L) (l := m2) kk hkm3 ⟨m2[kk].m, z4, Lm4⟩ zT (by repeat (first | exact Rm.chunk | exact Rm.here | exact Rm.nil0 | apply Rm.skip | apply Rm.skipS)) ?_; try simp only [nf]
        obtain ⟨e4, he4, hsh4⟩ := htw4.w.sh
        have hok4 := (htw4.w.w.held htw4.w.hW he4).ok
        rw [W1_1] at hok4
        have hws4 := hws.mono (Imv.le (Imm.le_trans hJm (Imm.le_trans hJ3 hJ4)))
        refine WP.next (WP.seq ?_)
        refine WP.region [0, 1, 2, 3] rfl ?_; iterate 2 refine WP.mv rfl rfl ?_
        refine WP.loud rfl rfl ?_; refine Op.cl (law_has hT4 (hJ4.2 _ _ hrg3) he4 hws4 (fun q => by rcases hsh4 with ⟨_, _, q2⟩ | ⟨q2, _⟩; exact absurd (q2 ▸ q) htw4.w.nn; exact q2) (fun q => by cases q) (fun q => by rw [hok4.nds.resolve_left q]) (fun q => by rw [hok4.nds.resolve_left q]; exact hok4.nf)) rfl Tryz.func18 rfl rfl rfl rfl ?_; rintro v J5 L342 hJ5 ⟨rfl, hT5⟩
        try simp only [nf]
        refine WP.mv rfl rfl ?_; refine WP.nil ?_; refine WP.sub [(2, _), (8, _), (9, _), (13, _), (16, _), (19, _), (20, _), (21, _), (136, _), (147, _)] ?_ ⟨rfl, rfl, rfl, rfl, rfl, rfl, rfl, rfl, rfl, rfl, trivial⟩
        refine WP.next (WP.seq ?_)
        refine WP.region [0, 1] rfl ?_; refine WP.mv rfl rfl ?_; refine WP.vl rfl (Yld.not rfl rfl) ?_; refine WP.nil ?_; refine WP.sub [(2, _), (8, _), (9, _), (13, _), (16, _), (19, _), (20, _), (21, _), (136, _), (147, _), (159, _)] ?_ ⟨rfl, rfl, rfl, rfl, rfl, rfl, rfl, rfl, rfl, rfl, rfl, trivial⟩
        refine WP.next ?_; refine WP.condF rfl ?_; refine WP.skip (WP.leave (WP.next ?_))
        refine WP.region [0, 1, 2] rfl ?_; refine WP.mv rfl rfl ?_; refine WP.vl rfl (Yld.add64 rfl rfl rfl (by omega)) ?_; refine WP.mv rfl rfl ?_; refine WP.nil ?_; refine WP.sub [(2, _), (8, _), (9, _), (13, _), (16, _), (19, _), (20, _), (21, _), (136, _), (147, _), (159, _)] ?_ ⟨rfl, rfl, rfl, rfl, rfl, rfl, rfl, rfl, rfl, rfl, rfl, trivial⟩
        exact WP.again ⟨i2 + 1, m2.set kk ⟨m2[kk].m, z4, Lm4⟩, tb4, x4, J5, L342, Ll4⟩ ⟨(show i2 + 1 ≤ ps.length by omega), Imm.le_trans hJ3 (Imm.le_trans hJ4 hJ5), (by rw [List.length_set]; exact hmn3), ((miP_set (y := ⟨m2[kk].m, z4, Lm4⟩) hkm3 rfl).trans hpp3), (by rw [zsOf_set]; exact htw4), (show tb4.tok ≤ 2 + i + (i2 + 1) by omega), ((hms3.mono hJ4).set kk hm4).mono hJ5, hT5, hlg4.mono hJ5⟩ (show ps.length - (i2 + 1) < ps.length - i2 by omega) ⟨rfl, rfl, rfl, rfl, rfl, rfl, trivial⟩ rfl zA
      ·refine WP.vl rfl (Yld.pickT rfl rfl rfl) ?_
       refine WP.nil ?_; refine WP.sub [(2, _), (8, _), (9, _), (13, _), (16, _), (19, _), (136, _)] ?_ ⟨rfl, rfl, rfl, rfl, rfl, rfl, rfl, trivial⟩
       refine WP.next ?_; refine WP.condF rfl ?_; refine WP.exit (WP.thenE (WP.thenE (WP.hit (WP.next (WP.seq (WP.seq ?_))))))
       refine WP.region [0] rfl ?_; refine WP.mv rfl rfl ?_; refine WP.nil (WP.next (WP.block ?_))
       refine WP.loop (X := TsX) (fun u : TsX => [(8, .pointer (some ⟨x, 0, none⟩)), (9, .pointer (some ⟨st, 0, none⟩)), (13, .slice Aws (N.map (·.2)).length cws), (16, .slice Ao i1 co), (22, .int .i64 (u.i : Int))]) (fun u => u.J) (fun u : TsX => u.ms.flatMap Mi.L ++ (Lo ++ (u.Lt ++ (u.Ll ++ F)))) (fun u : TsX => u.i ≤ i1 ∧ J3.le u.J ∧ u.ms.length = i1 ∧ miP u.ms = miP ms ∧ TwI N u.tb u.x (zsOf u.ms) ∧ u.tb.tok ≤ 140737488351300 + 99 * u.i ∧ IsMs u.J st l u.ms ∧ IsT u.J t u.tb u.Lt ∧ IsLog u.J l s d (8 + 32 * 60) u.x (Dk.new (8 + 32 * 60)) u.Ll) (fun u => i1 - u.i) ⟨0, m2, tb3, x3, J3, Lt3, Ll3⟩ ⟨Nat.zero_le _, Imm.le_refl _, hmn3, hpp3, htw3, (by show tb3.tok ≤ 140737488351300 + 99 * 0; omega), hms3, hT3, hlg3⟩ ⟨rfl, rfl, rfl, rfl, rfl, trivial⟩ rfl zA ?_
       have hJ3a := hJ3; rintro ⟨i3, m3, tb5, x5, J6, Lt5, Ll5⟩ ⟨hle3, hJ6, hmn5, hpp5, htw5, htk5, hms5, hT5, hlg5⟩; dsimp only at hle3 hJ6 hmn5 hpp5 htw5 htk5 hms5 hT5 hlg5; have hst5 := (Imm.le_trans (Imm.le_trans (Imm.le_trans hJ hJm) hJ3a) hJ6).2 _ _ hst_1; have hrg5 := (Imm.le_trans (Imm.le_trans (Imm.le_trans hJ hJm) hJ3a) hJ6).2 _ _ hrg_1
       try dsimp only
       try simp only [nf]
       refine WP.seq (WP.seq ?_)
       refine WP.region [0, 1, 2, 3] rfl ?_; iterate 2 refine WP.mv rfl rfl ?_
       refine WP.vl rfl (Yld.len rfl ty_sl_51 rfl) ?_; refine WP.split rfl rfl rfl rfl (Yld.lss rfl rfl rfl) (fun hlt3 => ?_) (fun hlt3 => ?_)
       ·have hi3 : i3 < i1 := by omega
        have hi5 : i3 < m3.length := by omega
        obtain ⟨bm, cap, sp, hve, rfl, _, _⟩ := hoo.get (by omega)
        cases hve
        try simp only [nf]
        have hkz5 : i3 < (zsOf m3).length := by unfold zsOf; rw [List.length_map]; exact hi5
        have hmk5 := htw5.ms _ (List.getElem_mem hkz5)
        rw [zsOf_at hi5 hkz5] at hmk5
        have hptr5 := miP_at hi5 sp
        rw [hpp5] at hptr5
        have hm5 := hms5 _ (List.getElem_mem hi5)
        refine WP.nil ?_; refine WP.sub [(8, _), (9, _), (13, _), (16, _), (22, _), (163, _)] ?_ ⟨rfl, rfl, rfl, rfl, rfl, rfl, trivial⟩
        refine WP.next ?_; refine WP.condT rfl ?_; refine WP.skip (WP.next (WP.seq (WP.block (WP.seq ?_))))
        refine WP.region [0, 1, 2, 3, 4, 5] rfl ?_; iterate 2 refine WP.mv rfl rfl ?_
        refine WP.vl rfl (Yld.indexAddr (i := i3) rfl ty_sl_51 rfl rfl hi3) ?_; refine WP.vl rfl (Yld.ld (v := .pointer (some ⟨m3[i3].m, 0, none⟩)) rfl ty_sc_55 rfl hptr5) ?_; refine WP.outL (f := Mi.L) (l := m3) i3 hi5 (by repeat (first | exact Rm.chunk | exact Rm.here | exact Rm.nil0 | apply Rm.skip | apply Rm.skipS)) ?_; try simp only [nf]
        refine WP.loud rfl rfl ?_; refine Op.cl (law_count hst5 hT5 hlg5 hm5 htw5.w.w (by rw [hmk5.2.1]; exact htw5.w.hW) hmk5.1 (by decide : bdT.b ≤ 1099511627776) (by omega)) rfl Tryz.func19 rfl rfl rfl rfl ?_; rintro v J7 L404 hJ7 ⟨n7, z7, tb7, x7, Lm7, Lt7, Ll7, rfl, hc7, rfl, hm7, hT7, hlg7, hw7, hg7_, hi7, hp7, ht7⟩
        try simp only [nf]
        have hb7 := CountsF.bound (f := 99) htw5.w.w (by rw [hmk5.2.1]; exact htw5.w.hW) hmk5.1 (Nat.le_trans (Mx.mu_bd _ _ _ _).2 (by decide)) hc7
        have hmu7 : (m3[i3].z).mu bdT tb5 x5 ≤ 52 := (Mx.mu_bd _ _ _ _).2
        obtain ⟨htw7, he7⟩ := htw5.counts hkz5 (zsOf_at hi5 hkz5) hc7 hb7.1
        refine WP.mv rfl rfl ?_; refine WP.nil ?_; refine WP.sub [(8, _), (9, _), (13, _), (16, _), (22, _), (23, _), (163, _)] ?_ ⟨rfl, rfl, rfl, rfl, rfl, rfl, rfl, trivial⟩
        refine WP.next (WP.seq ?_)
        refine WP.region [0, 1, 2, 3, 4, 5, 6, 7, 8, 9, 10] rfl ?_; iterate 2 refine WP.mv rfl rfl ?_
        refine WP.vl rfl (Yld.indexAddr (i := i3) rfl ty_sl_51 rfl rfl hi3) ?_; refine WP.vl rfl (Yld.ld (v := .pointer (some ⟨m3[i3].m, 0, none⟩)) rfl ty_sc_55 rfl hptr5) ?_; refine WP.loud rfl rfl ?_; refine Op.cl (mx_Got hm7) rfl Tryz.func23 rfl rfl rfl rfl ?_; rintro v J8 Lg7 hJ8 ⟨cs, rfl, hre, hg7⟩
        try simp only [nf]
        obtain ⟨vn, vw, nv, rfl, q1, q2, q3⟩ := id hre.ex
        obtain ⟨An, cn, rfl, _⟩ := q1.slice'
        obtain ⟨Aw, cw, rfl, _⟩ := q3.slice'
        refine WP.mv rfl rfl ?_; iterate 2 refine WP.vl rfl (Yld.extract rfl rfl rfl) ?_
        refine WP.loud rfl rfl ?_; refine Op.alloc rfl rfl rfl ty_zr_50 (fun b24 => ?_)
        refine WP.loud rfl rfl ?_; refine Op.sA rfl rfl ty_sz_50 rfl rfl rfl rfl rfl ?_; refine WP.mv rfl rfl ?_; refine WP.nil ?_; refine WP.sub [(8, _), (9, _), (13, _), (16, _), (22, _), (23, _), (25, _), (163, _)] ?_ ⟨rfl, rfl, rfl, rfl, rfl, rfl, rfl, rfl, trivial⟩
        refine WP.backL (f := Mi.L) (l := m3) i3 hi5 ⟨m3[i3].m, z7, Lg7⟩ zT (by repeat (first | exact Rm.chunk | exact Rm.here | exact Rm.nil0 | apply Rm.skip | apply Rm.skipS)) ?_; try simp only [nf]
        refine WP.next (WP.seq ?_)
        refine WP.region [0, 1, 2, 3, 4, 5, 6, 7, 8, 9, 10, 11, 12, 13] rfl ?_; refine WP.mv rfl rfl ?_; refine WP.vl rfl (Yld.lss rfl rfl rfl false (decide_eq_false (by omega))) ?_; refine WP.mv rfl rfl ?_; refine WP.valG rfl rfl rfl rfl rfl rfl rfl (Yld.move rfl rfl) ?_; refine WP.valG rfl rfl rfl rfl rfl rfl rfl (Yld.gtr rfl rfl rfl false (decide_eq_false (by omega))) ?_; refine WP.vl rfl (Yld.pickF rfl rfl rfl) ?_; refine WP.mv rfl rfl ?_; refine WP.valG rfl rfl rfl rfl rfl rfl rfl (Yld.move rfl rfl) ?_; refine WP.splitG rfl rfl rfl rfl rfl rfl rfl (Yld.neq rfl rfl rfl) (fun h428 => ?_) (fun h428 => ?_)
        ·refine WP.valG rfl rfl rfl rfl rfl rfl rfl (Yld.move rfl rfl) ?_
         refine WP.valG rfl rfl rfl rfl rfl rfl rfl (Yld.move rfl rfl) ?_; refine WP.valG rfl rfl rfl rfl rfl rfl rfl (Yld.neq rfl rfl rfl false (decide_eq_false (by exact fun q => q (he7.resolve_left h428)))) ?_; refine WP.valG rfl rfl rfl rfl rfl rfl rfl (Yld.pickT rfl rfl rfl) ?_; refine WP.vl rfl (Yld.pickF rfl rfl rfl) ?_; refine WP.nil ?_; refine WP.sub [(8, _), (9, _), (13, _), (16, _), (22, _), (23, _), (25, _), (163, _), (192, _)] ?_ ⟨rfl, rfl, rfl, rfl, rfl, rfl, rfl, rfl, rfl, trivial⟩
         refine WP.next ?_; refine WP.condF rfl ?_; refine WP.skip (WP.leave (WP.next ?_))
         refine WP.region [0, 1, 2] rfl ?_; refine WP.mv rfl rfl ?_; refine WP.vl rfl (Yld.add64 rfl rfl rfl (by omega)) ?_; refine WP.mv rfl rfl ?_; refine WP.nil ?_; refine WP.sub [(8, _), (9, _), (13, _), (16, _), (22, _), (23, _), (25, _), (163, _), (192, _)] ?_ ⟨rfl, rfl, rfl, rfl, rfl, rfl, rfl, rfl, rfl, trivial⟩
         exact WP.again ⟨i3 + 1, m3.set i3 ⟨m3[i3].m, z7, Lg7⟩, tb7, x7, J8, Lt7, Ll7⟩ ⟨(show i3 + 1 ≤ i1 by omega), Imm.le_trans hJ6 (Imm.le_trans hJ7 hJ8), (by rw [List.length_set]; exact hmn5), ((miP_set (y := ⟨m3[i3].m, z7, Lg7⟩) hi5 rfl).trans hpp5), (by rw [zsOf_set]; exact htw7), (show tb7.tok ≤ 140737488351300 + 99 * (i3 + 1) by omega), ((hms5.mono hJ7).mono hJ8).set i3 hg7, hT7.mono hJ8, hlg7.mono hJ8⟩ (show i1 - (i3 + 1) < i1 - i3 by omega) ⟨rfl, rfl, rfl, rfl, rfl, trivial⟩ rfl zA
        ·refine WP.valG rfl rfl rfl rfl rfl rfl rfl (Yld.move rfl rfl) ?_
         iterate 2 refine WP.passG rfl rfl rfl rfl rfl rfl rfl rfl ?_
         refine WP.valG rfl rfl rfl rfl rfl rfl rfl (Yld.pickF rfl rfl rfl) ?_; refine WP.vl rfl (Yld.pickF rfl rfl rfl) ?_; refine WP.nil ?_; refine WP.sub [(8, _), (9, _), (13, _), (16, _), (22, _), (23, _), (25, _), (163, _), (192, _)] ?_ ⟨rfl, rfl, rfl, rfl, rfl, rfl, rfl, rfl, rfl, trivial⟩
         refine WP.next ?_; refine WP.condF rfl ?_; refine WP.skip (WP.leave (WP.next ?_))
         refine WP.region [0, 1, 2] rfl ?_; refine WP.mv rfl rfl ?_; refine WP.vl rfl (Yld.add64 rfl rfl rfl (by omega)) ?_; refine WP.mv rfl rfl ?_; refine WP.nil ?_; refine WP.sub [(8, _), (9, _), (13, _), (16, _), (22, _), (23, _), (25, _), (163, _), (192, _)] ?_ ⟨rfl, rfl, rfl, rfl, rfl, rfl, rfl, rfl, rfl, trivial⟩
         exact WP.again ⟨i3 + 1, m3.set i3 ⟨m3[i3].m, z7, Lg7⟩, tb7, x7, J8, Lt7, Ll7⟩ ⟨(show i3 + 1 ≤ i1 by omega), Imm.le_trans hJ6 (Imm.le_trans hJ7 hJ8), (by rw [List.length_set]; exact hmn5), ((miP_set (y := ⟨m3[i3].m, z7, Lg7⟩) hi5 rfl).trans hpp5), (by rw [zsOf_set]; exact htw7), (show tb7.tok ≤ 140737488351300 + 99 * (i3 + 1) by omega), ((hms5.mono hJ7).mono hJ8).set i3 hg7, hT7.mono hJ8, hlg7.mono hJ8⟩ (show i1 - (i3 + 1) < i1 - i3 by omega) ⟨rfl, rfl, rfl, rfl, rfl, trivial⟩ rfl zA
       ·refine WP.nil ?_
        refine WP.sub [(8, _), (9, _), (13, _), (16, _), (22, _), (163, _)] ?_ ⟨rfl, rfl, rfl, rfl, rfl, rfl, trivial⟩
        refine WP.next ?_; refine WP.condF rfl ?_; refine WP.exit (WP.thenE (WP.thenE (WP.hit (WP.next (WP.seq ?_)))))
        refine WP.region [0, 1, 2, 3] rfl ?_; refine WP.mv rfl rfl ?_; refine WP.loud rfl rfl ?_; refine Op.cl (cac_NewFault (s := st) (l := l) (p := 1)) rfl Tryz.func15 rfl rfl rfl rfl ?_; rintro v J LnG - ⟨rfl, mG, fG, rfl, hfG⟩
        try simp only [nf]
        refine WP.loud rfl rfl ?_; refine Op.cl (law_count (z := .fa (fa0 1)) hst5 hT5 hlg5 ⟨fG, hfG⟩ htw5.w.w htw5.w.hW (FaI.new _ _ _ _) (by decide : bdT.b ≤ 1099511627776) (by omega)) rfl Tryz.func19 rfl rfl rfl rfl ?_; rintro v JG LcG hJG ⟨nG, zG, tbG, xxG, LmG, LtG, LlG, rfl, hcG, rfl, hmG, hTG, hlgG, wG, hgG, hiG, hpG, htG⟩
        try simp only [nf]
        have hmuG : (fa0 1).mu bdT.k tb5 ≤ 99 := Nat.le_trans (Nat.le_of_eq (Fa.mu1 rfl)) (by decide)
        have hbG := CountsF.bound (f := 99) (z := .fa (fa0 1)) htw5.w.w htw5.w.hW (FaI.new _ _ _ _) hmuG hcG
        obtain ⟨_, eG, heG, hneG, _⟩ := fa_in (f := 99) htw5.w.w htw5.w.hW (FaI.new _ _ _ _) (by decide) (fun q => absurd rfl q) hmuG hcG
        have hokG := (wG.held htw5.w.hW heG).ok
        rw [W1_1] at hokG
        have hnG := hokG.nds.resolve_left hneG
        have hwsG := hws.mono (Imv.le (Imm.le_trans (Imm.le_trans (Imm.le_trans hJm hJ3a) hJ6) hJG))
        refine WP.mv rfl rfl ?_; refine WP.nil ?_; refine WP.sub [(8, _), (9, _), (13, _), (16, _), (22, _), (26, _), (163, _)] ?_ ⟨rfl, rfl, rfl, rfl, rfl, rfl, rfl, trivial⟩
        refine WP.next (WP.seq ?_)
        refine WP.region [0, 1, 2, 3] rfl ?_; iterate 2 refine WP.mv rfl rfl ?_
        refine WP.loud rfl rfl ?_; refine Op.cl (law_has hTG (hJG.2 _ _ hrg5) heG hwsG (fun q => absurd q hneG) (fun _ => hneG) (fun _ => by rw [hnG]) (fun _ => by rw [hnG]; exact hokG.nf)) rfl Tryz.func18 rfl rfl rfl rfl ?_; rintro v J9 L45 hJ9 ⟨rfl, hT9⟩
        try simp only [nf]
        refine WP.mv rfl rfl ?_; refine WP.nil ?_; refine WP.sub [(8, _), (9, _), (13, _), (16, _), (22, _), (26, _), (27, _), (163, _)] ?_ ⟨rfl, rfl, rfl, rfl, rfl, rfl, rfl, rfl, trivial⟩
        refine WP.next (WP.seq ?_)
        refine WP.region [0, 1, 2, 3, 4, 5] rfl ?_; refine WP.mv rfl rfl ?_; refine WP.vl rfl (Yld.geq rfl rfl rfl true (decide_eq_true (by omega))) ?_; refine WP.mv rfl rfl ?_; refine WP.valG rfl rfl rfl rfl rfl rfl rfl (Yld.move rfl rfl) ?_; refine WP.vl rfl (Yld.pickT rfl rfl rfl) ?_; refine WP.mv rfl rfl ?_; refine WP.nil ?_; refine WP.sub [(6, _), (8, _), (9, _), (13, _), (16, _), (22, _), (26, _), (27, _), (163, _)] ?_ ⟨rfl, rfl, rfl, rfl, rfl, rfl, rfl, rfl, rfl, trivial⟩
        refine WP.next (WP.ret ?_)
        refine WP.fn .ret (.inr rfl) (res1 rfl rfl) [] (Imm.le_trans hJ2J (Imm.le_trans hJ3a (Imm.le_trans hJ6 (Imm.le_trans hJG hJ9)))) ?_; exact ⟨rfl, rfl⟩
     ·refine WP.mv rfl rfl ?_
      iterate 3 refine WP.passG rfl rfl rfl rfl rfl rfl rfl rfl ?_
      refine WP.vl rfl (Yld.pickF rfl rfl rfl) ?_; refine WP.nil ?_; refine WP.sub [(2, _), (8, _), (9, _), (13, _), (16, _), (19, _), (136, _)] ?_ ⟨rfl, rfl, rfl, rfl, rfl, rfl, rfl, trivial⟩
      refine WP.next ?_; refine WP.condF rfl ?_; refine WP.exit (WP.thenE (WP.thenE (WP.hit (WP.next (WP.seq (WP.seq ?_))))))
      refine WP.region [0] rfl ?_; refine WP.mv rfl rfl ?_; refine WP.nil (WP.next (WP.block ?_))
      refine WP.loop (X := TsX) (fun u : TsX => [(8, .pointer (some ⟨x, 0, none⟩)), (9, .pointer (some ⟨st, 0, none⟩)), (13, .slice Aws (N.map (·.2)).length cws), (16, .slice Ao i1 co), (22, .int .i64 (u.i : Int))]) (fun u => u.J) (fun u : TsX => u.ms.flatMap Mi.L ++ (Lo ++ (u.Lt ++ (u.Ll ++ F)))) (fun u : TsX => u.i ≤ i1 ∧ J3.le u.J ∧ u.ms.length = i1 ∧ miP u.ms = miP ms ∧ TwI N u.tb u.x (zsOf u.ms) ∧ u.tb.tok ≤ 140737488351300 + 99 * u.i ∧ IsMs u.J st l u.ms ∧ IsT u.J t u.tb u.Lt ∧ IsLog u.J l s d (8 + 32 * 60) u.x (Dk.new (8 + 32 * 60)) u.Ll) (fun u => i1 - u.i) ⟨0, m2, tb3, x3, J3, Lt3, Ll3⟩ ⟨Nat.zero_le _, Imm.le_refl _, hmn3, hpp3, htw3, (by show tb3.tok ≤ 140737488351300 + 99 * 0; omega), hms3, hT3, hlg3⟩ ⟨rfl, rfl, rfl, rfl, rfl, trivial⟩ rfl zA ?_
      have hJ3a := hJ3; rintro ⟨i3, m3, tb5, x5, J6, Lt5, Ll5⟩ ⟨hle3, hJ6, hmn5, hpp5, htw5, htk5, hms5, hT5, hlg5⟩; dsimp only at hle3 hJ6 hmn5 hpp5 htw5 htk5 hms5 hT5 hlg5; have hst5 := (Imm.le_trans (Imm.le_trans (Imm.le_trans hJ hJm) hJ3a) hJ6).2 _ _ hst_1; have hrg5 := (Imm.le_trans (Imm.le_trans (Imm.le_trans hJ hJm) hJ3a) hJ6).2 _ _ hrg_1
      try dsimp only
      try simp only [nf]
      refine WP.seq (WP.seq ?_)
      refine WP.region [0, 1, 2, 3] rfl ?_; iterate 2 refine WP.mv rfl rfl ?_
      refine WP.vl rfl (Yld.len rfl ty_sl_51 rfl) ?_; refine WP.split rfl rfl rfl rfl (Yld.lss rfl rfl rfl) (fun hlt3 => ?_) (fun hlt3 => ?_)
      ·have hi3 : i3 < i1 := by omega
       have hi5 : i3 < m3.length := by omega
       obtain ⟨bm, cap, sp, hve, rfl, _, _⟩ := hoo.get (by omega)
       cases hve
       try simp only [nf]
       have hkz5 : i3 < (zsOf m3).length := by unfold zsOf; rw [List.length_map]; exact hi5
       have hmk5 := htw5.ms _ (List.getElem_mem hkz5)
       rw [zsOf_at hi5 hkz5] at hmk5
       have hptr5 := miP_at hi5 sp
       rw [hpp5] at hptr5
       have hm5 := hms5 _ (List.getElem_mem hi5)
       refine WP.nil ?_; refine WP.sub [(8, _), (9, _), (13, _), (16, _), (22, _), (163, _)] ?_ ⟨rfl, rfl, rfl, rfl, rfl, rfl, trivial⟩
       refine WP.next ?_; refine WP.condT rfl ?_; refine WP.skip (WP.next (WP.seq (WP.block (WP.seq ?_))))
       refine WP.region [0, 1, 2, 3, 4, 5] rfl ?_; iterate 2 refine WP.mv rfl rfl ?_
       refine WP.vl rfl (Yld.indexAddr (i := i3) rfl ty_sl_51 rfl rfl hi3) ?_; refine WP.vl rfl (Yld.ld (v := .pointer (some ⟨m3[i3].m, 0, none⟩)) rfl ty_sc_55 rfl hptr5) ?_; refine WP.outL (f := Mi.L) (l := m3) i3 hi5 (by repeat (first | exact Rm.chunk | exact Rm.here | exact Rm.nil0 | apply Rm.skip | apply Rm.skipS)) ?_; try simp only [nf]
       refine WP.loud rfl rfl ?_; refine Op.cl (law_count hst5 hT5 hlg5 hm5 htw5.w.w (by rw [hmk5.2.1]; exact htw5.w.hW) hmk5.1 (by decide : bdT.b ≤ 1099511627776) (by omega)) rfl Tryz.func19 rfl rfl rfl rfl ?_; rintro v J7 L404 hJ7 ⟨n7, z7, tb7, x7, Lm7, Lt7, Ll7, rfl, hc7, rfl, hm7, hT7, hlg7, hw7, hg7_, hi7, hp7, ht7⟩
       try simp only [nf]
       have hb7 := CountsF.bound (f := 99) htw5.w.w (by rw [hmk5.2.1]; exact htw5.w.hW) hmk5.1 (Nat.le_trans (Mx.mu_bd _ _ _ _).2 (by decide)) hc7
       have hmu7 : (m3[i3].z).mu bdT tb5 x5 ≤ 52 := (Mx.mu_bd _ _ _ _).2
       obtain ⟨htw7, he7⟩ := htw5.counts hkz5 (zsOf_at hi5 hkz5) hc7 hb7.1
       refine WP.mv rfl rfl ?_; refine WP.nil ?_; refine WP.sub [(8, _), (9, _), (13, _), (16, _), (22, _), (23, _), (163, _)] ?_ ⟨rfl, rfl, rfl, rfl, rfl, rfl, rfl, trivial⟩
       refine WP.next (WP.seq ?_)
       refine WP.region [0, 1, 2, 3, 4, 5, 6, 7, 8, 9, 10] rfl ?_; iterate 2 refine WP.mv rfl rfl ?_
       refine WP.vl rfl (Yld.indexAddr (i := i3) rfl ty_sl_51 rfl rfl hi3) ?_; refine WP.vl rfl (Yld.ld (v := .pointer (some ⟨m3[i3].m, 0, none⟩)) rfl ty_sc_55 rfl hptr5) ?_; refine WP.loud rfl rfl ?_; refine Op.cl (mx_Got hm7) rfl Tryz.func23 rfl rfl rfl rfl ?_; rintro v J8 Lg7 hJ8 ⟨cs, rfl, hre, hg7⟩
       try simp only [nf]
       obtain ⟨vn, vw, nv, rfl, q1, q2, q3⟩ := id hre.ex
       obtain ⟨An, cn, rfl, _⟩ := q1.slice'
       obtain ⟨Aw, cw, rfl, _⟩ := q3.slice'
       refine WP.mv rfl rfl ?_; iterate 2 refine WP.vl rfl (Yld.extract rfl rfl rfl) ?_
       refine WP.loud rfl rfl ?_; refine Op.alloc rfl rfl rfl ty_zr_50 (fun b24 => ?_)
       refine WP.loud rfl rfl ?_; refine Op.sA rfl rfl ty_sz_50 rfl rfl rfl rfl rfl ?_; refine WP.mv rfl rfl ?_; refine WP.nil ?_; refine WP.sub [(8, _), (9, _), (13, _), (16, _), (22, _), (23, _), (25, _), (163, _)] ?_ ⟨rfl, rfl, rfl, rfl, rfl, rfl, rfl, rfl, trivial⟩
       refine WP.backL (f := Mi.L) (l := m3) i3 hi5 ⟨m3[i3].m, z7, Lg7⟩ zT (by repeat (first | exact Rm.chunk | exact Rm.here | exact Rm.nil0 | apply Rm.skip | apply Rm.skipS)) ?_; try simp only [nf]
       refine WP.next (WP.seq ?_)
       refine WP.region [0, 1, 2, 3, 4, 5, 6, 7, 8, 9, 10, 11, 12, 13] rfl ?_; refine WP.mv rfl rfl ?_; refine WP.vl rfl (Yld.lss rfl rfl rfl false (decide_eq_false (by omega))) ?_; refine WP.mv rfl rfl ?_; refine WP.valG rfl rfl rfl rfl rfl rfl rfl (Yld.move rfl rfl) ?_; refine WP.valG rfl rfl rfl rfl rfl rfl rfl (Yld.gtr rfl rfl rfl false (decide_eq_false (by omega))) ?_; refine WP.vl rfl (Yld.pickF rfl rfl rfl) ?_; refine WP.mv rfl rfl ?_; refine WP.valG rfl rfl rfl rfl rfl rfl rfl (Yld.move rfl rfl) ?_; refine WP.splitG rfl rfl rfl rfl rfl rfl rfl (Yld.neq rfl rfl rfl) (fun h428 => ?_) (fun h428 => ?_)
       ·refine WP.valG rfl rfl rfl rfl rfl rfl rfl (Yld.move rfl rfl) ?_
        refine WP.valG rfl rfl rfl rfl rfl rfl rfl (Yld.move rfl rfl) ?_; refine WP.valG rfl rfl rfl rfl rfl rfl rfl (Yld.neq rfl rfl rfl false (decide_eq_false (by exact fun q => q (he7.resolve_left h428)))) ?_; refine WP.valG rfl rfl rfl rfl rfl rfl rfl (Yld.pickT rfl rfl rfl) ?_; refine WP.vl rfl (Yld.pickF rfl rfl rfl) ?_; refine WP.nil ?_; refine WP.sub [(8, _), (9, _), (13, _), (16, _), (22, _), (23, _), (25, _), (163, _), (192, _)] ?_ ⟨rfl, rfl, rfl, rfl, rfl, rfl, rfl, rfl, rfl, trivial⟩
        refine WP.next ?_; refine WP.condF rfl ?_; refine WP.skip (WP.leave (WP.next ?_))
        refine WP.region [0, 1, 2] rfl ?_; refine WP.mv rfl rfl ?_; refine WP.vl rfl (Yld.add64 rfl rfl rfl (by omega)) ?_; refine WP.mv rfl rfl ?_; refine WP.nil ?_; refine WP.sub [(8, _), (9, _), (13, _), (16, _), (22, _), (23, _), (25, _), (163, _), (192, _)] ?_ ⟨rfl, rfl, rfl, rfl, rfl, rfl, rfl, rfl, rfl, trivial⟩
        exact WP.again ⟨i3 + 1, m3.set i3 ⟨m3[i3].m, z7, Lg7⟩, tb7, x7, J8, Lt7, Ll7⟩ ⟨(show i3 + 1 ≤ i1 by omega), Imm.le_trans hJ6 (Imm.le_trans hJ7 hJ8), (by rw [List.length_set]; exact hmn5), ((miP_set (y := ⟨m3[i3].m, z7, Lg7⟩) hi5 rfl).trans hpp5), (by rw [zsOf_set]; exact htw7), (show tb7.tok ≤ 140737488351300 + 99 * (i3 + 1) by omega), ((hms5.mono hJ7).mono hJ8).set i3 hg7, hT7.mono hJ8, hlg7.mono hJ8⟩ (show i1 - (i3 + 1) < i1 - i3 by omega) ⟨rfl, rfl, rfl, rfl, rfl, trivial⟩ rfl zA
       ·refine WP.valG rfl rfl rfl rfl rfl rfl rfl (Yld.move rfl rfl) ?_
        iterate 2 refine WP.passG rfl rfl rfl rfl rfl rfl rfl rfl ?_
        refine WP.valG rfl rfl rfl rfl rfl rfl rfl (Yld.pickF rfl rfl rfl) ?_; refine WP.vl rfl (Yld.pickF rfl rfl rfl) ?_; refine WP.nil ?_; refine WP.sub [(8, _), (9, _), (13, _), (16, _), (22, _), (23, _), (25, _), (163, _), (192, _)] ?_ ⟨rfl, rfl, rfl, rfl, rfl, rfl, rfl, rfl, rfl, trivial⟩
        refine WP.next ?_; refine WP.condF rfl ?_; refine WP.skip (WP.leave (WP.next ?_))
        refine WP.region [0, 1, 2] rfl ?_; refine WP.mv rfl rfl ?_; refine WP.vl rfl (Yld.add64 rfl rfl rfl (by omega)) ?_; refine WP.mv rfl rfl ?_; refine WP.nil ?_; refine WP.sub [(8, _), (9, _), (13, _), (16, _), (22, _), (23, _), (25, _), (163, _), (192, _)] ?_ ⟨rfl, rfl, rfl, rfl, rfl, rfl, rfl, rfl, rfl, trivial⟩
        exact WP.again ⟨i3 + 1, m3.set i3 ⟨m3[i3].m, z7, Lg7⟩, tb7, x7, J8, Lt7, Ll7⟩ ⟨(show i3 + 1 ≤ i1 by omega), Imm.le_trans hJ6 (Imm.le_trans hJ7 hJ8), (by rw [List.length_set]; exact hmn5), ((miP_set (y := ⟨m3[i3].m, z7, Lg7⟩) hi5 rfl).trans hpp5), (by rw [zsOf_set]; exact htw7), (show tb7.tok ≤ 140737488351300 + 99 * (i3 + 1) by omega), ((hms5.mono hJ7).mono hJ8).set i3 hg7, hT7.mono hJ8, hlg7.mono hJ8⟩ (show i1 - (i3 + 1) < i1 - i3 by omega) ⟨rfl, rfl, rfl, rfl, rfl, trivial⟩ rfl zA
      ·refine WP.nil ?_
       refine WP.sub [(8, _), (9, _), (13, _), (16, _), (22, _), (163, _)] ?_ ⟨rfl, rfl, rfl, rfl, rfl, rfl, trivial⟩
       refine WP.next ?_; refine WP.condF rfl ?_; refine WP.exit (WP.thenE (WP.thenE (WP.hit (WP.next (WP.seq ?_)))))
       refine WP.region [0, 1, 2, 3] rfl ?_; refine WP.mv rfl rfl ?_; refine WP.loud rfl rfl ?_; refine Op.cl (cac_NewFault (s := st) (l := l) (p := 1)) rfl Tryz.func15 rfl rfl rfl rfl ?_; rintro v J LnG - ⟨rfl, mG, fG, rfl, hfG⟩
       try simp only [nf]
       refine WP.loud rfl rfl ?_; refine Op.cl (law_count (z := .fa (fa0 1)) hst5 hT5 hlg5 ⟨fG, hfG⟩ htw5.w.w htw5.w.hW (FaI.new _ _ _ _) (by decide : bdT.b ≤ 1099511627776) (by omega)) rfl Tryz.func19 rfl rfl rfl rfl ?_; rintro v JG LcG hJG ⟨nG, zG, tbG, xxG, LmG, LtG, LlG, rfl, hcG, rfl, hmG, hTG, hlgG, wG, hgG, hiG, hpG, htG⟩
       try simp only [nf]
       have hmuG : (fa0 1).mu bdT.k tb5 ≤ 99 := Nat.le_trans (Nat.le_of_eq (Fa.mu1 rfl)) (by decide)
       have hbG := CountsF.bound (f := 99) (z := .fa (fa0 1)) htw5.w.w htw5.w.hW (FaI.new _ _ _ _) hmuG hcG
       obtain ⟨_, eG, heG, hneG, _⟩ := fa_in (f := 99) htw5.w.w htw5.w.hW (FaI.new _ _ _ _) (by decide) (fun q => absurd rfl q) hmuG hcG
       have hokG := (wG.held htw5.w.hW heG).ok
       rw [W1_1] at hokG
       have hnG := hokG.nds.resolve_left hneG
       have hwsG := hws.mono (Imv.le (Imm.le_trans (Imm.le_trans (Imm.le_trans hJm hJ3a) hJ6) hJG))
       refine WP.mv rfl rfl ?_; refine WP.nil ?_; refine WP.sub [(8, _), (9, _), (13, _), (16, _), (22, _), (26, _), (163, _)] ?_ ⟨rfl, rfl, rfl, rfl, rfl, rfl, rfl, trivial⟩
       refine WP.next (WP.seq ?_)
       refine WP.region [0, 1, 2, 3] rfl ?_; iterate 2 refine WP.mv rfl rfl ?_
       refine WP.loud rfl rfl ?_; refine Op.cl (law_has hTG (hJG.2 _ _ hrg5) heG hwsG (fun q => absurd q hneG) (fun _ => hneG) (fun _ => by rw [hnG]) (fun _ => by rw [hnG]; exact hokG.nf)) rfl Tryz.func18 rfl rfl rfl rfl ?_; rintro v J9 L45 hJ9 ⟨rfl, hT9⟩
       try simp only [nf]
       refine WP.mv rfl rfl ?_; refine WP.nil ?_; refine WP.sub [(8, _), (9, _), (13, _), (16, _), (22, _), (26, _), (27, _), (163, _)] ?_ ⟨rfl, rfl, rfl, rfl, rfl, rfl, rfl, rfl, trivial⟩
       refine WP.next (WP.seq ?_)
       refine WP.region [0, 1, 2, 3, 4, 5] rfl ?_; refine WP.mv rfl rfl ?_; refine WP.vl rfl (Yld.geq rfl rfl rfl true (decide_eq_true (by omega))) ?_; refine WP.mv rfl rfl ?_; refine WP.valG rfl rfl rfl rfl rfl rfl rfl (Yld.move rfl rfl) ?_; refine WP.vl rfl (Yld.pickT rfl rfl rfl) ?_; refine WP.mv rfl rfl ?_; refine WP.nil ?_; refine WP.sub [(6, _), (8, _), (9, _), (13, _), (16, _), (22, _), (26, _), (27, _), (163, _)] ?_ ⟨rfl, rfl, rfl, rfl, rfl, rfl, rfl, rfl, rfl, trivial⟩
       refine WP.next (WP.ret ?_)
       refine WP.fn .ret (.inr rfl) (res1 rfl rfl) [] (Imm.le_trans hJ2J (Imm.le_trans hJ3a (Imm.le_trans hJ6 (Imm.le_trans hJG hJ9)))) ?_; exact ⟨rfl, rfl⟩
   ·refine WP.mv rfl rfl ?_
    iterate 2 refine WP.passG rfl rfl rfl rfl rfl rfl rfl rfl ?_
    refine WP.vl rfl (Yld.pickF rfl rfl rfl) ?_; refine WP.nil ?_; refine WP.sub [(1, _), (2, _), (8, _), (9, _), (13, _), (16, _), (17, _), (113, _)] ?_ ⟨rfl, rfl, rfl, rfl, rfl, rfl, rfl, rfl, trivial⟩
    refine WP.next ?_; refine WP.condF rfl ?_; refine WP.exit (WP.thenE (WP.thenE (WP.hit (WP.next (WP.seq (WP.seq ?_))))))
    have htwi : TwI N tb2 xx_0 (zsOf ms) := ⟨htw, fun z hz => by obtain ⟨y, hy, rfl⟩ := List.mem_map.1 hz; obtain ⟨k, hk⟩ := hkm y hy; rw [hk]; obtain ⟨a1, a2, a3, _⟩ := kindM_new (k := k) (N := N) (tb := tb2) (x := xx_0); exact ⟨a1, a2, a3⟩, by have q := phi_new (tb := tb2) (zs := zsOf ms) (fun z hz => by obtain ⟨y, hy, rfl⟩ := List.mem_map.1 hz; exact hkm y hy) (by unfold zsOf; rw [List.length_map]; omega); have q2 : xx_0.pl = 8 := (by rw [hxx0]; rfl); omega⟩
    have hJ2J := Imm.le_trans hJ1J hJm
    refine WP.region [0] rfl ?_; refine WP.mv rfl rfl ?_; refine WP.nil (WP.next (WP.block ?_))
    refine WP.loop (X := TsX) (fun u : TsX => [(2, .slice Ap ps.length cp), (8, .pointer (some ⟨x, 0, none⟩)), (9, .pointer (some ⟨st, 0, none⟩)), (13, .slice Aws (N.map (·.2)).length cws), (16, .slice Ao i1 co), (19, .int .i64 (u.i : Int))]) (fun u => u.J) (fun u : TsX => u.ms.flatMap Mi.L ++ (Lo ++ (u.Lt ++ (u.Ll ++ F)))) (fun u : TsX => u.i ≤ ps.length ∧ J1'.le u.J ∧ u.ms.length = i1 ∧ miP u.ms = miP ms ∧ TwI N u.tb u.x (zsOf u.ms) ∧ u.tb.tok ≤ 2 + i + u.i ∧ IsMs u.J st l u.ms ∧ IsT u.J t u.tb u.Lt ∧ IsLog u.J l s d (8 + 32 * 60) u.x (Dk.new (8 + 32 * 60)) u.Ll) (fun u => ps.length - u.i) ⟨0, ms, tb2, xx_0, J1', Lt2, Ll⟩ ⟨Nat.zero_le _, Imm.le_refl _, hmn, rfl, htwi, (by show tb2.tok ≤ 2 + i + 0; omega), hms, hT.mono hJm, hlgJ.mono hJm⟩ ⟨rfl, rfl, rfl, rfl, rfl, rfl, trivial⟩ rfl zA ?_
    rintro ⟨i2, m2, tb3, x3, J3, Lt3, Ll3⟩ ⟨hle2, hJ3, hmn3, hpp3, htw3, htk3, hms3, hT3, hlg3⟩; dsimp only at hle2 hJ3 hmn3 hpp3 htw3 htk3 hms3 hT3 hlg3
    try dsimp only
    try simp only [nf]
    refine WP.seq (WP.seq ?_)
    refine WP.region [0, 1, 2, 3, 4, 5, 6, 7, 8] rfl ?_; iterate 2 refine WP.mv rfl rfl ?_
    refine WP.vl rfl (Yld.len rfl ty_sl_48 rfl) ?_; refine WP.split rfl rfl rfl rfl (Yld.lss rfl rfl rfl) (fun hlt2 => ?_) (fun hlt2 => ?_)
    ·refine WP.mv rfl rfl ?_
     refine WP.valG rfl rfl rfl rfl rfl rfl rfl (Yld.move rfl rfl) ?_; refine WP.valG rfl rfl rfl rfl rfl rfl rfl (Yld.len rfl ty_sl_51 rfl) ?_; refine WP.splitG rfl rfl rfl rfl rfl rfl rfl (Yld.gtr rfl rfl rfl) (fun hpos => ?_) (fun hpos => ?_)
     ·have hi2 : i2 < ps.length := by omega
      have hi0 : 0 < i1 := by omega
      obtain ⟨bp, kp, Tp, fp, arp, eAp, hbp0, hcp⟩ := ints_at hps hi2
      have hbp := (Imm.le_trans hJ2J hJ3).2 _ _ hbp0
      obtain ⟨bm, cap, sp, hve, rfl, _, _⟩ := hoo.get hi0
      cases hve
      obtain ⟨hk1, hk2⟩ := tmod_nat (a := ps[i2]) (m := i1) hi0
      try simp only [nf]
      refine WP.vl rfl (Yld.pickT rfl rfl rfl) ?_; refine WP.nil ?_; refine WP.sub [(2, _), (8, _), (9, _), (13, _), (16, _), (19, _), (136, _)] ?_ ⟨rfl, rfl, rfl, rfl, rfl, rfl, rfl, trivial⟩
      refine WP.next ?_; refine WP.condT rfl ?_; refine WP.skip (WP.next (WP.seq (WP.block (WP.seq ?_))))
      refine WP.region [0, 1, 2, 3, 4, 5, 6, 7] rfl ?_; iterate 2 refine WP.mv rfl rfl ?_
      refine WP.vl rfl (Yld.indexAddr (i := i2) rfl ty_sl_48 (congrArg (fun a => some (Value.slice a ps.length cp)) eAp) rfl hi2) ?_; refine WP.vl rfl (Yld.loadC (v := .int .i64 ps[i2]) rfl ty_sc_3 rfl (There.i hbp) hcp) ?_; refine WP.mv rfl rfl ?_; refine WP.vl rfl (Yld.len rfl ty_sl_51 rfl) ?_; refine WP.vl rfl (Yld.remT rfl rfl rfl ⟨by omega, by omega⟩) ?_; refine WP.mv rfl rfl ?_; refine WP.nil ?_; refine WP.sub [(2, _), (8, _), (9, _), (13, _), (16, _), (19, _), (20, _), (136, _)] ?_ ⟨rfl, rfl, rfl, rfl, rfl, rfl, rfl, rfl, trivial⟩
      refine WP.next (WP.seq (WP.seq ?_))
      refine WP.region [0, 1] rfl ?_; refine WP.mv rfl rfl ?_; refine WP.split rfl rfl rfl rfl (Yld.lss rfl rfl rfl) (fun hneg => ?_) (fun hneg => ?_)
      ·obtain ⟨kk, hkv, hkk⟩ := hk2 hneg
       refine WP.nil ?_; refine WP.sub [(2, _), (8, _), (9, _), (13, _), (16, _), (19, _), (20, _), (136, _), (147, _)] ?_ ⟨rfl, rfl, rfl, rfl, rfl, rfl, rfl, rfl, rfl, trivial⟩
       refine WP.next ?_; refine WP.condT rfl ?_; refine WP.region [0, 1, 2] rfl ?_; refine WP.mv rfl rfl ?_; refine WP.vl rfl (Yld.neg64 rfl rfl (by omega)) ?_; rw [hkv]
       refine WP.mv rfl rfl ?_; refine WP.nil ?_; refine WP.sub [(2, _), (8, _), (9, _), (13, _), (16, _), (19, _), (20, _), (136, _), (147, _)] ?_ ⟨rfl, rfl, rfl, rfl, rfl, rfl, rfl, rfl, rfl, trivial⟩
       refine WP.next (WP.seq ?_)
       have hkm3 : kk < m2.length := by omega
       have hkz : kk < (zsOf m2).length := by unfold zsOf; rw [List.length_map]; exact hkm3
       have hmk3 := htw3.ms _ (List.getElem_mem hkz)
       rw [zsOf_at hkm3 hkz] at hmk3
       have hptr := miP_at hkm3 sp
       rw [hpp3] at hptr
       have hst3 := (Imm.le_trans (Imm.le_trans hJ hJm) hJ3).2 _ _ hst_1
       have hrg3 := (Imm.le_trans (Imm.le_trans hJ hJm) hJ3).2 _ _ hrg_1
       have hm3 := hms3 _ (List.getElem_mem hkm3)
       refine WP.region [0, 1, 2, 3, 4] rfl ?_; iterate 2 refine WP.mv rfl rfl ?_
       refine WP.vl rfl (Yld.indexAddr (i := kk) rfl ty_sl_51 rfl rfl hkk) ?_; refine WP.vl rfl (Yld.ld (v := .pointer (some ⟨m2[kk].m, 0, none⟩)) rfl ty_sc_55 rfl hptr) ?_; refine WP.outL (f := Mi.L) (l := m2) kk hkm3 (by repeat (first | exact Rm.chunk | exact Rm.here | exact Rm.nil0 | apply Rm.skip | apply Rm.skipS)) ?_; try simp only [nf]
       refine WP.loud rfl rfl ?_; refine Op.cl (mx_Step hst3 hT3 hlg3 hm3 htw3.w.w (by rw [hmk3.2.1]; exact htw3.w.hW) hmk3.1 (by decide : bdT.b ≤ 1099511627776) (by omega)) rfl Tryz.func17 rfl rfl rfl rfl ?_; rintro v J4 L334 hJ4 ⟨c4, z4, tb4, x4, Lm4, Lt4, Ll4, rfl, hs4, rfl, hm4, hT4, hlg4⟩
       try simp only [nf]
       have htw4 := htw3.step hkz (by rw [zsOf_at hkm3 hkz]; exact hs4)
       obtain ⟨_, _, k3, _⟩ := hs4.step htw3.w.w (by rw [hmk3.2.1]; exact htw3.w.hW) hmk3.1
       refine WP.nil ?_; refine WP.sub [(2, _), (8, _), (9, _), (13, _), (16, _), (19, _), (20, _), (136, _), (147, _)] ?_ ⟨rfl, rfl, rfl, rfl, rfl, rfl, rfl, rfl, rfl, trivial⟩
       refine WP.backL (f := Mi.L) (l := m2) kk hkm3 ⟨m2[kk].m, z4, Lm4⟩ zT (by repeat (first | exact Rm.chunk | exact Rm.here | exact Rm.nil0 | apply Rm.skip | apply Rm.skipS)) ?_; try simp only [nf]
       obtain ⟨e4, he4, hsh4⟩ := htw4.w.sh
       have hok4 := (htw4.w.w.held htw4.w.hW he4).ok
       rw [W1_1] at hok4
       have hws4 := hws.mono (Imv.le (Imm.le_trans hJm (Imm.le_trans hJ3 hJ4)))
       refine WP.next (WP.seq ?_)
       refine WP.region [0, 1, 2, 3] rfl ?_; iterate 2 refine WP.mv rfl rfl ?_
       refine WP.loud rfl rfl ?_; refine Op.cl (law_has hT4 (hJ4.2 _ _ hrg3) he4 hws4 (fun q => by rcases hsh4 with ⟨_, _, q2⟩ | ⟨q2, _⟩; exact absurd (q2 ▸ q) htw4.w.nn; exact q2) (fun q => by cases q) (fun q => by rw [hok4.nds.resolve_left q]) (fun q => by rw [hok4.nds.resolve_left q]; exact hok4.nf)) rfl Tryz.func18 rfl rfl rfl rfl ?_; rintro v J5 L342 hJ5 ⟨rfl, hT5⟩
       try simp only [nf]
       refine WP.mv rfl rfl ?_; refine WP.nil ?_; refine WP.sub [(2, _), (8, _), (9, _), (13, _), (16, _), (19, _), (20, _), (21, _), (136, _), (147, _)] ?_ ⟨rfl, rfl, rfl, rfl, rfl, rfl, rfl, rfl, rfl, rfl, trivial⟩
       refine WP.next (WP.seq ?_)
       refine WP.region [0, 1] rfl ?_; refine WP.mv rfl rfl ?_; refine WP.vl rfl (Yld.not rfl rfl) ?_; refine WP.nil ?_; refine WP.sub [(2, _), (8, _), (9, _), (13, _), (16, _), (19, _), (20, _), (21, _), (136, _), (147, _), (159, _)] ?_ ⟨rfl, rfl, rfl, rfl, rfl, rfl, rfl, rfl, rfl, rfl, rfl, trivial⟩
       refine WP.next ?_; refine WP.condF rfl ?_; refine WP.skip (WP.leave (WP.next ?_))
       refine WP.region [0, 1, 2] rfl ?_; refine WP.mv rfl rfl ?_; refine WP.vl rfl (Yld.add64 rfl rfl rfl (by omega)) ?_; refine WP.mv rfl rfl ?_; refine WP.nil ?_; refine WP.sub [(2, _), (8, _), (9, _), (13, _), (16, _), (19, _), (20, _), (21, _), (136, _), (147, _), (159, _)] ?_ ⟨rfl, rfl, rfl, rfl, rfl, rfl, rfl, rfl, rfl, rfl, rfl, trivial⟩
       exact WP.again ⟨i2 + 1, m2.set kk ⟨m2[kk].m, z4, Lm4⟩, tb4, x4, J5, L342, Ll4⟩ ⟨(show i2 + 1 ≤ ps.length by omega), Imm.le_trans hJ3 (Imm.le_trans hJ4 hJ5), (by rw [List.length_set]; exact hmn3), ((miP_set (y := ⟨m2[kk].m, z4, Lm4⟩) hkm3 rfl).trans hpp3), (by rw [zsOf_set]; exact htw4), (show tb4.tok ≤ 2 + i + (i2 + 1) by omega), ((hms3.mono hJ4).set kk hm4).mono hJ5, hT5, hlg4.mono hJ5⟩ (show ps.length - (i2 + 1) < ps.length - i2 by omega) ⟨rfl, rfl, rfl, rfl, rfl, rfl, trivial⟩ rfl zA
      ·obtain ⟨kk, hkv, hkk⟩ := hk1 hneg
       rw [hkv]
       refine WP.nil ?_; refine WP.sub [(2, _), (8, _), (9, _), (13, _), (16, _), (19, _), (20, _), (136, _), (147, _)] ?_ ⟨rfl, rfl, rfl, rfl, rfl, rfl, rfl, rfl, rfl, trivial⟩
       refine WP.next ?_; refine WP.condF rfl ?_; refine WP.skip (WP.next (WP.seq ?_))
       have hkm3 : kk < m2.length := by omega
       have hkz : kk < (zsOf m2).length := by unfold zsOf; rw [List.length_map]; exact hkm3
       have hmk3 := htw3.ms _ (List.getElem_mem hkz)
       rw [zsOf_at hkm3 hkz] at hmk3
       have hptr := miP_at hkm3 sp
       rw [hpp3] at hptr
       have hst3 := (Imm.le_trans (Imm.le_trans hJ hJm) hJ3).2 _ _ hst_1
       have hrg3 := (Imm.le_trans (Imm.le_trans hJ hJm) hJ3).2 _ _ hrg_1
       have hm3 := hms3 _ (List.getElem_mem hkm3)
       refine WP.region [0, 1, 2, 3, 4] rfl ?_; iterate 2 refine WP.mv rfl rfl ?_
       refine WP.vl rfl (Yld.indexAddr (i := kk) rfl ty_sl_51 rfl rfl hkk) ?_; refine WP.vl rfl (Yld.ld (v := .pointer (some ⟨m2[kk].m, 0, none⟩)) rfl ty_sc_55 rfl hptr) ?_; refine WP.outL (f := Mi.L) (l := m2) kk hkm3 (by repeat (first | exact Rm.chunk | exact Rm.here | exact Rm.nil0 | apply Rm.skip | apply Rm.skipS)) ?_; try simp only [nf]
       refine WP.loud rfl rfl ?_; refine Op.cl (mx_Step hst3 hT3 hlg3 hm3 htw3.w.w (by rw [hmk3.2.1]; exact htw3.w.hW) hmk3.1 (by decide : bdT.b ≤ 1099511627776) (by omega)) rfl Tryz.func17 rfl rfl rfl rfl ?_; rintro v J4 L334 hJ4 ⟨c4, z4, tb4, x4, Lm4, Lt4, Ll4, rfl, hs4, rfl, hm4, hT4, hlg4⟩
       try simp only [nf]
       have htw4 := htw3.step hkz (by rw [zsOf_at hkm3 hkz]; exact hs4)
       obtain ⟨_, _, k3, _⟩ := hs4.step htw3.w.w (by rw [hmk3.2.1]; exact htw3.w.hW) hmk3.1
       refine WP.nil ?_; refine WP.sub [(2, _), (8, _), (9, _), (13, _), (16, _), (19, _), (20, _), (136, _), (147, _)] ?_ ⟨rfl, rfl, rfl, rfl, rfl, rfl, rfl, rfl, rfl, trivial⟩
       refine WP.backL (f := Mi.L) (l := m2) kk hkm3 ⟨m2[kk].m, z4, Lm4⟩ zT (by repeat (first | exact Rm.chunk | exact Rm.here | exact Rm.nil0 | apply Rm.skip | apply Rm.skipS)) ?_; try simp only [nf]
       obtain ⟨e4, he4, hsh4⟩ := htw4.w.sh
       have hok4 := (htw4.w.w.held htw4.w.hW he4).ok
       rw [W1_1] at hok4
       have hws4 := hws.mono (Imv.le (Imm.le_trans hJm (Imm.le_trans hJ3 hJ4)))
       refine WP.next (WP.seq ?_)
       refine WP.region [0, 1, 2, 3] rfl ?_; iterate 2 refine WP.mv rfl rfl ?_
       refine WP.loud rfl rfl ?_; refine Op.cl (law_has hT4 (hJ4.2 _ _ hrg3) he4 hws4 (fun q => by rcases hsh4 with ⟨_, _, q2⟩ | ⟨q2, _⟩; exact absurd (q2 ▸ q) htw4.w.nn; exact q2) (fun q => by cases q) (fun q => by rw [hok4.nds.resolve_left q]) (fun q => by rw [hok4.nds.resolve_left q]; exact hok4.nf)) rfl Tryz.func18 rfl rfl rfl rfl ?_; rintro v J5 L342 hJ5 ⟨rfl, hT5⟩
       try simp only [nf]
       refine WP.mv rfl rfl ?_; refine WP.nil ?_; refine WP.sub [(2, _), (8, _), (9, _), (13, _), (16, _), (19, _), (20, _), (21, _), (136, _), (147, _)] ?_ ⟨rfl, rfl, rfl, rfl, rfl, rfl, rfl, rfl, rfl, rfl, trivial⟩
       refine WP.next (WP.seq ?_)
       refine WP.region [0, 1] rfl ?_; refine WP.mv rfl rfl ?_; refine WP.vl rfl (Yld.not rfl rfl) ?_; refine WP.nil ?_; refine WP.sub [(2, _), (8, _), (9, _), (13, _), (16, _), (19, _), (20, _), (21, _), (136, _), (147, _), (159, _)] ?_ ⟨rfl, rfl, rfl, rfl, rfl, rfl, rfl, rfl, rfl, rfl, rfl, trivial⟩
       refine WP.next ?_; refine WP.condF rfl ?_; refine WP.skip (WP.leave (WP.next ?_))
       refine WP.region [0, 1, 2] rfl ?_; refine WP.mv rfl rfl ?_; refine WP.vl rfl (Yld.add64 rfl rfl rfl (by omega)) ?_; refine WP.mv rfl rfl ?_; refine WP.nil ?_; refine WP.sub [(2, _), (8, _), (9, _), (13, _), (16, _), (19, _), (20, _), (21, _), (136, _), (147, _), (159, _)] ?_ ⟨rfl, rfl, rfl, rfl, rfl, rfl, rfl, rfl, rfl, rfl, rfl, trivial⟩
       exact WP.again ⟨i2 + 1, m2.set kk ⟨m2[kk].m, z4, Lm4⟩, tb4, x4, J5, L342, Ll4⟩ ⟨(show i2 + 1 ≤ ps.length by omega), Imm.le_trans hJ3 (Imm.le_trans hJ4 hJ5), (by rw [List.length_set]; exact hmn3), ((miP_set (y := ⟨m2[kk].m, z4, Lm4⟩) hkm3 rfl).trans hpp3), (by rw [zsOf_set]; exact htw4), (show tb4.tok ≤ 2 + i + (i2 + 1) by omega), ((hms3.mono hJ4).set kk hm4).mono hJ5, hT5, hlg4.mono hJ5⟩ (show ps.length - (i2 + 1) < ps.length - i2 by omega) ⟨rfl, rfl, rfl, rfl, rfl, rfl, trivial⟩ rfl zA
     ·refine WP.vl rfl (Yld.pickT rfl rfl rfl) ?_
      refine WP.nil ?_; refine WP.sub [(2, _), (8, _), (9, _), (13, _), (16, _), (19, _), (136, _)] ?_ ⟨rfl, rfl, rfl, rfl, rfl, rfl, rfl, trivial⟩
      refine WP.next ?_; refine WP.condF rfl ?_; refine WP.exit (WP.thenE (WP.thenE (WP.hit (WP.next (WP.seq (WP.seq ?_))))))
      refine WP.region [0] rfl ?_; refine WP.mv rfl rfl ?_; refine WP.nil (WP.next (WP.block ?_))
      refine WP.loop (X := TsX) (fun u : TsX => [(8, .pointer (some ⟨x, 0, none⟩)), (9, .pointer (some ⟨st, 0, none⟩)), (13, .slice Aws (N.map (·.2)).length cws), (16, .slice Ao i1 co), (22, .int .i64 (u.i : Int))]) (fun u => u.J) (fun u : TsX => u.ms.flatMap Mi.L ++ (Lo ++ (u.Lt ++ (u.Ll ++ F)))) (fun u : TsX => u.i ≤ i1 ∧ J3.le u.J ∧ u.ms.length = i1 ∧ miP u.ms = miP ms ∧ TwI N u.tb u.x (zsOf u.ms) ∧ u.tb.tok ≤ 140737488351300 + 99 * u.i ∧ IsMs u.J st l u.ms ∧ IsT u.J t u.tb u.Lt ∧ IsLog u.J l s d (8 + 32 * 60) u.x (Dk.new (8 + 32 * 60)) u.Ll) (fun u => i1 - u.i) ⟨0, m2, tb3, x3, J3, Lt3, Ll3⟩ ⟨Nat.zero_le _, Imm.le_refl _, hmn3, hpp3, htw3, (by show tb3.tok ≤ 140737488351300 + 99 * 0; omega), hms3, hT3, hlg3⟩ ⟨rfl, rfl, rfl, rfl, rfl, trivial⟩ rfl zA ?_
      have hJ3a := hJ3; rintro ⟨i3, m3, tb5, x5, J6, Lt5, Ll5⟩ ⟨hle3, hJ6, hmn5, hpp5, htw5, htk5, hms5, hT5, hlg5⟩; dsimp only at hle3 hJ6 hmn5 hpp5 htw5 htk5 hms5 hT5 hlg5; have hst5 := (Imm.le_trans (Imm.le_trans (Imm.le_trans hJ hJm) hJ3a) hJ6).2 _ _ hst_1; have hrg5 := (Imm.le_trans (Imm.le_trans (Imm.le_trans hJ hJm) hJ3a) hJ6).2 _ _ hrg_1
      try dsimp only
      try simp only [nf]
      refine WP.seq (WP.seq ?_)
      refine WP.region [0, 1, 2, 3] rfl ?_; iterate 2 refine WP.mv rfl rfl ?_
      refine WP.vl rfl (Yld.len rfl ty_sl_51 rfl) ?_; refine WP.split rfl rfl rfl rfl (Yld.lss rfl rfl rfl) (fun hlt3 => ?_) (fun hlt3 => ?_)
      ·have hi3 : i3 < i1 := by omega
       have hi5 : i3 < m3.length := by omega
       obtain ⟨bm, cap, sp, hve, rfl, _, _⟩ := hoo.get (by omega)
       cases hve
       try simp only [nf]
       have hkz5 : i3 < (zsOf m3).length := by unfold zsOf; rw [List.length_map]; exact hi5
       have hmk5 := htw5.ms _ (List.getElem_mem hkz5)
       rw [zsOf_at hi5 hkz5] at hmk5
       have hptr5 := miP_at hi5 sp
       rw [hpp5] at hptr5
       have hm5 := hms5 _ (List.getElem_mem hi5)
       refine WP.nil ?_; refine WP.sub [(8, _), (9, _), (13, _), (16, _), (22, _), (163, _)] ?_ ⟨rfl, rfl, rfl, rfl, rfl, rfl, trivial⟩
       refine WP.next ?_; refine WP.condT rfl ?_; refine WP.skip (WP.next (WP.seq (WP.block (WP.seq ?_))))
       refine WP.region [0, 1, 2, 3, 4, 5] rfl ?_; iterate 2 refine WP.mv rfl rfl ?_
       refine WP.vl rfl (Yld.indexAddr (i := i3) rfl ty_sl_51 rfl rfl hi3) ?_; refine WP.vl rfl (Yld.ld (v := .pointer (some ⟨m3[i3].m, 0, none⟩)) rfl ty_sc_55 rfl hptr5) ?_; refine WP.outL (f := Mi.L) (l := m3) i3 hi5 (by repeat (first | exact Rm.chunk | exact Rm.here | exact Rm.nil0 | apply Rm.skip | apply Rm.skipS)) ?_; try simp only [nf]
       refine WP.loud rfl rfl ?_; refine Op.cl (law_count hst5 hT5 hlg5 hm5 htw5.w.w (by rw [hmk5.2.1]; exact htw5.w.hW) hmk5.1 (by decide : bdT.b ≤ 1099511627776) (by omega)) rfl Tryz.func19 rfl rfl rfl rfl ?_; rintro v J7 L404 hJ7 ⟨n7, z7, tb7, x7, Lm7, Lt7, Ll7, rfl, hc7, rfl, hm7, hT7, hlg7, hw7, hg7_, hi7, hp7, ht7⟩
       try simp only [nf]
       have hb7 := CountsF.bound (f := 99) htw5.w.w (by rw [hmk5.2.1]; exact htw5.w.hW) hmk5.1 (Nat.le_trans (Mx.mu_bd _ _ _ _).2 (by decide)) hc7
       have hmu7 : (m3[i3].z).mu bdT tb5 x5 ≤ 52 := (Mx.mu_bd _ _ _ _).2
       obtain ⟨htw7, he7⟩ := htw5.counts hkz5 (zsOf_at hi5 hkz5) hc7 hb7.1
       refine WP.mv rfl rfl ?_; refine WP.nil ?_; refine WP.sub [(8, _), (9, _), (13, _), (16, _), (22, _), (23, _), (163, _)] ?_ ⟨rfl, rfl, rfl, rfl, rfl, rfl, rfl, trivial⟩
       refine WP.next (WP.seq ?_)
       refine WP.region [0, 1, 2, 3, 4, 5, 6, 7, 8, 9, 10] rfl ?_; iterate 2 refine WP.mv rfl rfl ?_
       refine WP.vl rfl (Yld.indexAddr (i := i3) rfl ty_sl_51 rfl rfl hi3) ?_; refine WP.vl rfl (Yld.ld (v := .pointer (some ⟨m3[i3].m, 0, none⟩)) rfl ty_sc_55 rfl hptr5) ?_; refine WP.loud rfl rfl ?_; refine Op.cl (mx_Got hm7) rfl Tryz.func23 rfl rfl rfl rfl ?_; rintro v J8 Lg7 hJ8 ⟨cs, rfl, hre, hg7⟩
       try simp only [nf]
       obtain ⟨vn, vw, nv, rfl, q1, q2, q3⟩ := id hre.ex
       obtain ⟨An, cn, rfl, _⟩ := q1.slice'
       obtain ⟨Aw, cw, rfl, _⟩ := q3.slice'
       refine WP.mv rfl rfl ?_; iterate 2 refine WP.vl rfl (Yld.extract rfl rfl rfl) ?_
       refine WP.loud rfl rfl ?_; refine Op.alloc rfl rfl rfl ty_zr_50 (fun b24 => ?_)
       refine WP.loud rfl rfl ?_; refine Op.sA rfl rfl ty_sz_50 rfl rfl rfl rfl rfl ?_; refine WP.mv rfl rfl ?_; refine WP.nil ?_; refine WP.sub [(8, _), (9, _), (13, _), (16, _), (22, _), (23, _), (25, _), (163, _)] ?_ ⟨rfl, rfl, rfl, rfl, rfl, rfl, rfl, rfl, trivial⟩
       refine WP.backL (f := Mi.L) (l := m3) i3 hi5 ⟨m3[i3].m, z7, Lg7⟩ zT (by repeat (first | exact Rm.chunk | exact Rm.here | exact Rm.nil0 | apply Rm.skip | apply Rm.skipS)) ?_; try simp only [nf]
       refine WP.next (WP.seq ?_)
       refine WP.region [0, 1, 2, 3, 4, 5, 6, 7, 8, 9, 10, 11, 12, 13] rfl ?_; refine WP.mv rfl rfl ?_; refine WP.vl rfl (Yld.lss rfl rfl rfl false (decide_eq_false (by omega))) ?_; refine WP.mv rfl rfl ?_; refine WP.valG rfl rfl rfl rfl rfl rfl rfl (Yld.move rfl rfl) ?_; refine WP.valG rfl rfl rfl rfl rfl rfl rfl (Yld.gtr rfl rfl rfl false (decide_eq_false (by omega))) ?_; refine WP.vl rfl (Yld.pickF rfl rfl rfl) ?_; refine WP.mv rfl rfl ?_; refine WP.valG rfl rfl rfl rfl rfl rfl rfl (Yld.move rfl rfl) ?_; refine WP.splitG rfl rfl rfl rfl rfl rfl rfl (Yld.neq rfl rfl rfl) (fun h428 => ?_) (fun h428 => ?_)
       ·refine WP.valG rfl rfl rfl rfl rfl rfl rfl (Yld.move rfl rfl) ?_
        refine WP.valG rfl rfl rfl rfl rfl rfl rfl (Yld.move rfl rfl) ?_; refine WP.valG rfl rfl rfl rfl rfl rfl rfl (Yld.neq rfl rfl rfl false (decide_eq_false (by exact fun q => q (he7.resolve_left h428)))) ?_; refine WP.valG rfl rfl rfl rfl rfl rfl rfl (Yld.pickT rfl rfl rfl) ?_; refine WP.vl rfl (Yld.pickF rfl rfl rfl) ?_; refine WP.nil ?_; refine WP.sub [(8, _), (9, _), (13, _), (16, _), (22, _), (23, _), (25, _), (163, _), (192, _)] ?_ ⟨rfl, rfl, rfl, rfl, rfl, rfl, rfl, rfl, rfl, trivial⟩
        refine WP.next ?_; refine WP.condF rfl ?_; refine WP.skip (WP.leave (WP.next ?_))
        refine WP.region [0, 1, 2] rfl ?_; refine WP.mv rfl rfl ?_; refine WP.vl rfl (Yld.add64 rfl rfl rfl (by omega)) ?_; refine WP.mv rfl rfl ?_; refine WP.nil ?_; refine WP.sub [(8, _), (9, _), (13, _), (16, _), (22, _), (23, _), (25, _), (163, _), (192, _)] ?_ ⟨rfl, rfl, rfl, rfl, rfl, rfl, rfl, rfl, rfl, trivial⟩
        exact WP.again ⟨i3 + 1, m3.set i3 ⟨m3[i3].m, z7, Lg7⟩, tb7, x7, J8, Lt7, Ll7⟩ ⟨(show i3 + 1 ≤ i1 by omega), Imm.le_trans hJ6 (Imm.le_trans hJ7 hJ8), (by rw [List.length_set]; exact hmn5), ((miP_set (y := ⟨m3[i3].m, z7, Lg7⟩) hi5 rfl).trans hpp5), (by rw [zsOf_set]; exact htw7), (show tb7.tok ≤ 140737488351300 + 99 * (i3 + 1) by omega), ((hms5.mono hJ7).mono hJ8).set i3 hg7, hT7.mono hJ8, hlg7.mono hJ8⟩ (show i1 - (i3 + 1) < i1 - i3 by omega) ⟨rfl, rfl, rfl, rfl, rfl, trivial⟩ rfl zA
       ·refine WP.valG rfl rfl rfl rfl rfl rfl rfl (Yld.move rfl rfl) ?_
        iterate 2 refine WP.passG rfl rfl rfl rfl rfl rfl rfl rfl ?_
        refine WP.valG rfl rfl rfl rfl rfl rfl rfl (Yld.pickF rfl rfl rfl) ?_; refine WP.vl rfl (Yld.pickF rfl rfl rfl) ?_; refine WP.nil ?_; refine WP.sub [(8, _), (9, _), (13, _), (16, _), (22, _), (23, _), (25, _), (163, _), (192, _)] ?_ ⟨rfl, rfl, rfl, rfl, rfl, rfl, rfl, rfl, rfl, trivial⟩
        refine WP.next ?_; refine WP.condF rfl ?_; refine WP.skip (WP.leave (WP.next ?_))
        refine WP.region [0, 1, 2] rfl ?_; refine WP.mv rfl rfl ?_; refine WP.vl rfl (Yld.add64 rfl rfl rfl (by omega)) ?_; refine WP.mv rfl rfl ?_; refine WP.nil ?_; refine WP.sub [(8, _), (9, _), (13, _), (16, _), (22, _), (23, _), (25, _), (163, _), (192, _)] ?_ ⟨rfl, rfl, rfl, rfl, rfl, rfl, rfl, rfl, rfl, trivial⟩
        exact WP.again ⟨i3 + 1, m3.set i3 ⟨m3[i3].m, z7, Lg7⟩, tb7, x7, J8, Lt7, Ll7⟩ ⟨(show i3 + 1 ≤ i1 by omega), Imm.le_trans hJ6 (Imm.le_trans hJ7 hJ8), (by rw [List.length_set]; exact hmn5), ((miP_set (y := ⟨m3[i3].m, z7, Lg7⟩) hi5 rfl).trans hpp5), (by rw [zsOf_set]; exact htw7), (show tb7.tok ≤ 140737488351300 + 99 * (i3 + 1) by omega), ((hms5.mono hJ7).mono hJ8).set i3 hg7, hT7.mono hJ8, hlg7.mono hJ8⟩ (show i1 - (i3 + 1) < i1 - i3 by omega) ⟨rfl, rfl, rfl, rfl, rfl, trivial⟩ rfl zA
      ·refine WP.nil ?_
       refine WP.sub [(8, _), (9, _), (13, _), (16, _), (22, _), (163, _)] ?_ ⟨rfl, rfl, rfl, rfl, rfl, rfl, trivial⟩
       refine WP.next ?_; refine WP.condF rfl ?_; refine WP.exit (WP.thenE (WP.thenE (WP.hit (WP.next (WP.seq ?_)))))
       refine WP.region [0, 1, 2, 3] rfl ?_; refine WP.mv rfl rfl ?_; refine WP.loud rfl rfl ?_; refine Op.cl (cac_NewFault (s := st) (l := l) (p := 1)) rfl Tryz.func15 rfl rfl rfl rfl ?_; rintro v J LnG - ⟨rfl, mG, fG, rfl, hfG⟩
       try simp only [nf]
       refine WP.loud rfl rfl ?_; refine Op.cl (law_count (z := .fa (fa0 1)) hst5 hT5 hlg5 ⟨fG, hfG⟩ htw5.w.w htw5.w.hW (FaI.new _ _ _ _) (by decide : bdT.b ≤ 1099511627776) (by omega)) rfl Tryz.func19 rfl rfl rfl rfl ?_; rintro v JG LcG hJG ⟨nG, zG, tbG, xxG, LmG, LtG, LlG, rfl, hcG, rfl, hmG, hTG, hlgG, wG, hgG, hiG, hpG, htG⟩
       try simp only [nf]
       have hmuG : (fa0 1).mu bdT.k tb5 ≤ 99 := Nat.le_trans (Nat.le_of_eq (Fa.mu1 rfl)) (by decide)
       have hbG := CountsF.bound (f := 99) (z := .fa (fa0 1)) htw5.w.w htw5.w.hW (FaI.new _ _ _ _) hmuG hcG
       obtain ⟨_, eG, heG, hneG, _⟩ := fa_in (f := 99) htw5.w.w htw5.w.hW (FaI.new _ _ _ _) (by decide) (fun q => absurd rfl q) hmuG hcG
       have hokG := (wG.held htw5.w.hW heG).ok
       rw [W1_1] at hokG
       have hnG := hokG.nds.resolve_left hneG
       have hwsG := hws.mono (Imv.le (Imm.le_trans (Imm.le_trans (Imm.le_trans hJm hJ3a) hJ6) hJG))
       refine WP.mv rfl rfl ?_; refine WP.nil ?_; refine WP.sub [(8, _), (9, _), (13, _), (16, _), (22, _), (26, _), (163, _)] ?_ ⟨rfl, rfl, rfl, rfl, rfl, rfl, rfl, trivial⟩
       refine WP.next (WP.seq ?_)
       refine WP.region [0, 1, 2, 3] rfl ?_; iterate 2 refine WP.mv rfl rfl ?_
       refine WP.loud rfl rfl ?_; refine Op.cl (law_has hTG (hJG.2 _ _ hrg5) heG hwsG (fun q => absurd q hneG) (fun _ => hneG) (fun _ => by rw [hnG]) (fun _ => by rw [hnG]; exact hokG.nf)) rfl Tryz.func18 rfl rfl rfl rfl ?_; rintro v J9 L45 hJ9 ⟨rfl, hT9⟩
       try simp only [nf]
       refine WP.mv rfl rfl ?_; refine WP.nil ?_; refine WP.sub [(8, _), (9, _), (13, _), (16, _), (22, _), (26, _), (27, _), (163, _)] ?_ ⟨rfl, rfl, rfl, rfl, rfl, rfl, rfl, rfl, trivial⟩
       refine WP.next (WP.seq ?_)
       refine WP.region [0, 1, 2, 3, 4, 5] rfl ?_; refine WP.mv rfl rfl ?_; refine WP.vl rfl (Yld.geq rfl rfl rfl true (decide_eq_true (by omega))) ?_; refine WP.mv rfl rfl ?_; refine WP.valG rfl rfl rfl rfl rfl rfl rfl (Yld.move rfl rfl) ?_; refine WP.vl rfl (Yld.pickT rfl rfl rfl) ?_; refine WP.mv rfl rfl ?_; refine WP.nil ?_; refine WP.sub [(6, _), (8, _), (9, _), (13, _), (16, _), (22, _), (26, _), (27, _), (163, _)] ?_ ⟨rfl, rfl, rfl, rfl, rfl, rfl, rfl, rfl, rfl, trivial⟩
       refine WP.next (WP.ret ?_)
       refine WP.fn .ret (.inr rfl) (res1 rfl rfl) [] (Imm.le_trans hJ2J (Imm.le_trans hJ3a (Imm.le_trans hJ6 (Imm.le_trans hJG hJ9)))) ?_; exact ⟨rfl, rfl⟩
    ·refine WP.mv rfl rfl ?_
     iterate 3 refine WP.passG rfl rfl rfl rfl rfl rfl rfl rfl ?_
     refine WP.vl rfl (Yld.pickF rfl rfl rfl) ?_; refine WP.nil ?_; refine WP.sub [(2, _), (8, _), (9, _), (13, _), (16, _), (19, _), (136, _)] ?_ ⟨rfl, rfl, rfl, rfl, rfl, rfl, rfl, trivial⟩
     refine WP.next ?_; refine WP.condF rfl ?_; refine WP.exit (WP.thenE (WP.thenE (WP.hit (WP.next (WP.seq (WP.seq ?_))))))
     refine WP.region [0] rfl ?_; refine WP.mv rfl rfl ?_; refine WP.nil (WP.next (WP.block ?_))
     refine WP.loop (X := TsX) (fun u : TsX => [(8, .pointer (some ⟨x, 0, none⟩)), (9, .pointer (some ⟨st, 0, none⟩)), (13, .slice Aws (N.map (·.2)).length cws), (16, .slice Ao i1 co), (22, .int .i64 (u.i : Int))]) (fun u => u.J) (fun u : TsX => u.ms.flatMap Mi.L ++ (Lo ++ (u.Lt ++ (u.Ll ++ F)))) (fun u : TsX => u.i ≤ i1 ∧ J3.le u.J ∧ u.ms.length = i1 ∧ miP u.ms = miP ms ∧ TwI N u.tb u.x (zsOf u.ms) ∧ u.tb.tok ≤ 140737488351300 + 99 * u.i ∧ IsMs u.J st l u.ms ∧ IsT u.J t u.tb u.Lt ∧ IsLog u.J l s d (8 + 32 * 60) u.x (Dk.new (8 + 32 * 60)) u.Ll) (fun u => i1 - u.i) ⟨0, m2, tb3, x3, J3, Lt3, Ll3⟩ ⟨Nat.zero_le _, Imm.le_refl _, hmn3, hpp3, htw3, (by show tb3.tok ≤ 140737488351300 + 99 * 0; omega), hms3, hT3, hlg3⟩ ⟨rfl, rfl, rfl, rfl, rfl, trivial⟩ rfl zA ?_
     have hJ3a := hJ3; rintro ⟨i3, m3, tb5, x5, J6, Lt5, Ll5⟩ ⟨hle3, hJ6, hmn5, hpp5, htw5, htk5, hms5, hT5, hlg5⟩; dsimp only at hle3 hJ6 hmn5 hpp5 htw5 htk5 hms5 hT5 hlg5; have hst5 := (Imm.le_trans (Imm.le_trans (Imm.le_trans hJ hJm) hJ3a) hJ6).2 _ _ hst_1; have hrg5 := (Imm.le_trans (Imm.le_trans (Imm.le_trans hJ hJm) hJ3a) hJ6).2 _ _ hrg_1
     try dsimp only
     try simp only [nf]
     refine WP.seq (WP.seq ?_)
     refine WP.region [0, 1, 2, 3] rfl ?_; iterate 2 refine WP.mv rfl rfl ?_
     refine WP.vl rfl (Yld.len rfl ty_sl_51 rfl) ?_; refine WP.split rfl rfl rfl rfl (Yld.lss rfl rfl rfl) (fun hlt3 => ?_) (fun hlt3 => ?_)
     ·have hi3 : i3 < i1 := by omega
      have hi5 : i3 < m3.length := by omega
      obtain ⟨bm, cap, sp, hve, rfl, _, _⟩ := hoo.get (by omega)
      cases hve
      try simp only [nf]
      have hkz5 : i3 < (zsOf m3).length := by unfold zsOf; rw [List.length_map]; exact hi5
      have hmk5 := htw5.ms _ (List.getElem_mem hkz5)
      rw [zsOf_at hi5 hkz5] at hmk5
      have hptr5 := miP_at hi5 sp
      rw [hpp5] at hptr5
      have hm5 := hms5 _ (List.getElem_mem hi5)
      refine WP.nil ?_; refine WP.sub [(8, _), (9, _), (13, _), (16, _), (22, _), (163, _)] ?_ ⟨rfl, rfl, rfl, rfl, rfl, rfl, trivial⟩
      refine WP.next ?_; refine WP.condT rfl ?_; refine WP.skip (WP.next (WP.seq (WP.block (WP.seq ?_))))
      refine WP.region [0, 1, 2, 3, 4, 5] rfl ?_; iterate 2 refine WP.mv rfl rfl ?_
      refine WP.vl rfl (Yld.indexAddr (i := i3) rfl ty_sl_51 rfl rfl hi3) ?_; refine WP.vl rfl (Yld.ld (v := .pointer (some ⟨m3[i3].m, 0, none⟩)) rfl ty_sc_55 rfl hptr5) ?_; refine WP.outL (f := Mi.L) (l := m3) i3 hi5 (by repeat (first | exact Rm.chunk | exact Rm.here | exact Rm.nil0 | apply Rm.skip | apply Rm.skipS)) ?_; try simp only [nf]
      refine WP.loud rfl rfl ?_; refine Op.cl (law_count hst5 hT5 hlg5 hm5 htw5.w.w (by rw [hmk5.2.1]; exact htw5.w.hW) hmk5.1 (by decide : bdT.b ≤ 1099511627776) (by omega)) rfl Tryz.func19 rfl rfl rfl rfl ?_; rintro v J7 L404 hJ7 ⟨n7, z7, tb7, x7, Lm7, Lt7, Ll7, rfl, hc7, rfl, hm7, hT7, hlg7, hw7, hg7_, hi7, hp7, ht7⟩
      try simp only [nf]
      have hb7 := CountsF.bound (f := 99) htw5.w.w (by rw [hmk5.2.1]; exact htw5.w.hW) hmk5.1 (Nat.le_trans (Mx.mu_bd _ _ _ _).2 (by decide)) hc7
      have hmu7 : (m3[i3].z).mu bdT tb5 x5 ≤ 52 := (Mx.mu_bd _ _ _ _).2
      obtain ⟨htw7, he7⟩ := htw5.counts hkz5 (zsOf_at hi5 hkz5) hc7 hb7.1
      refine WP.mv rfl rfl ?_; refine WP.nil ?_; refine WP.sub [(8, _), (9, _), (13, _), (16, _), (22, _), (23, _), (163, _)] ?_ ⟨rfl, rfl, rfl, rfl, rfl, rfl, rfl, trivial⟩
      refine WP.next (WP.seq ?_)
      refine WP.region [0, 1, 2, 3, 4, 5, 6, 7, 8, 9, 10] rfl ?_; iterate 2 refine WP.mv rfl rfl ?_
      refine WP.vl rfl (Yld.indexAddr (i := i3) rfl ty_sl_51 rfl rfl hi3) ?_; refine WP.vl rfl (Yld.ld (v := .pointer (some ⟨m3[i3].m, 0, none⟩)) rfl ty_sc_55 rfl hptr5) ?_; refine WP.loud rfl rfl ?_; refine Op.cl (mx_Got hm7) rfl Tryz.func23 rfl rfl rfl rfl ?_; rintro v J8 Lg7 hJ8 ⟨cs, rfl, hre, hg7⟩
      try simp only [nf]
      obtain ⟨vn, vw, nv, rfl, q1, q2, q3⟩ := id hre.ex
      obtain ⟨An, cn, rfl, _⟩ := q1.slice'
      obtain ⟨Aw, cw, rfl, _⟩ := q3.slice'
      refine WP.mv rfl rfl ?_; iterate 2 refine WP.vl rfl (Yld.extract rfl rfl rfl) ?_
      refine WP.loud rfl rfl ?_; refine Op.alloc rfl rfl rfl ty_zr_50 (fun b24 => ?_)
      refine WP.loud rfl rfl ?_; refine Op.sA rfl rfl ty_sz_50 rfl rfl rfl rfl rfl ?_; refine WP.mv rfl rfl ?_; refine WP.nil ?_; refine WP.sub [(8, _), (9, _), (13, _), (16, _), (22, _), (23, _), (25, _), (163, _)] ?_ ⟨rfl, rfl, rfl, rfl, rfl, rfl, rfl, rfl, trivial⟩
      refine WP.backL (f := Mi.L) (l := m3) i3 hi5 ⟨m3[i3].m, z7, Lg7⟩ zT (by repeat (first | exact Rm.chunk | exact Rm.here | exact Rm.nil0 | apply Rm.skip | apply Rm.skipS)) ?_; try simp only [nf]
      refine WP.next (WP.seq ?_)
      refine WP.region [0, 1, 2, 3, 4, 5, 6, 7, 8, 9, 10, 11, 12, 13] rfl ?_; refine WP.mv rfl rfl ?_; refine WP.vl rfl (Yld.lss rfl rfl rfl false (decide_eq_false (by omega))) ?_; refine WP.mv rfl rfl ?_; refine WP.valG rfl rfl rfl rfl rfl rfl rfl (Yld.move rfl rfl) ?_; refine WP.valG rfl rfl rfl rfl rfl rfl rfl (Yld.gtr rfl rfl rfl false (decide_eq_false (by omega))) ?_; refine WP.vl rfl (Yld.pickF rfl rfl rfl) ?_; refine WP.mv rfl rfl ?_; refine WP.valG rfl rfl rfl rfl rfl rfl rfl (Yld.move rfl rfl) ?_; refine WP.splitG rfl rfl rfl rfl rfl rfl rfl (Yld.neq rfl rfl rfl) (fun h428 => ?_) (fun h428 => ?_)
      ·refine WP.valG rfl rfl rfl rfl rfl rfl rfl (Yld.move rfl rfl) ?_
       refine WP.valG rfl rfl rfl rfl rfl rfl rfl (Yld.move rfl rfl) ?_; refine WP.valG rfl rfl rfl rfl rfl rfl rfl (Yld.neq rfl rfl rfl false (decide_eq_false (by exact fun q => q (he7.resolve_left h428)))) ?_; refine WP.valG rfl rfl rfl rfl rfl rfl rfl (Yld.pickT rfl rfl rfl) ?_; refine WP.vl rfl (Yld.pickF rfl rfl rfl) ?_; refine WP.nil ?_; refine WP.sub [(8, _), (9, _), (13, _), (16, _), (22, _), (23, _), (25, _), (163, _), (192, _)] ?_ ⟨rfl, rfl, rfl, rfl, rfl, rfl, rfl, rfl, rfl, trivial⟩
       refine WP.next ?_; refine WP.condF rfl ?_; refine WP.skip (WP.leave (WP.next ?_))
       refine WP.region [0, 1, 2] rfl ?_; refine WP.mv rfl rfl ?_; refine WP.vl rfl (Yld.add64 rfl rfl rfl (by omega)) ?_; refine WP.mv rfl rfl ?_; refine WP.nil ?_; refine WP.sub [(8, _), (9, _), (13, _), (16, _), (22, _), (23, _), (25, _), (163, _), (192, _)] ?_ ⟨rfl, rfl, rfl, rfl, rfl, rfl, rfl, rfl, rfl, trivial⟩
       exact WP.again ⟨i3 + 1, m3.set i3 ⟨m3[i3].m, z7, Lg7⟩, tb7, x7, J8, Lt7, Ll7⟩ ⟨(show i3 + 1 ≤ i1 by omega), Imm.le_trans hJ6 (Imm.le_trans hJ7 hJ8), (by rw [List.length_set]; exact hmn5), ((miP_set (y := ⟨m3[i3].m, z7, Lg7⟩) hi5 rfl).trans hpp5), (by rw [zsOf_set]; exact htw7), (show tb7.tok ≤ 140737488351300 + 99 * (i3 + 1) by omega), ((hms5.mono hJ7).mono hJ8).set i3 hg7, hT7.mono hJ8, hlg7.mono hJ8⟩ (show i1 - (i3 + 1) < i1 - i3 by omega) ⟨rfl, rfl, rfl, rfl, rfl, trivial⟩ rfl zA
      ·refine WP.valG rfl rfl rfl rfl rfl rfl rfl (Yld.move rfl rfl) ?_
       iterate 2 refine WP.passG rfl rfl rfl rfl rfl rfl rfl rfl ?_
       refine WP.valG rfl rfl rfl rfl rfl rfl rfl (Yld.pickF rfl rfl rfl) ?_; refine WP.vl rfl (Yld.pickF rfl rfl rfl) ?_; refine WP.nil ?_; refine WP.sub [(8, _), (9, _), (13, _), (16, _), (22, _), (23, _), (25, _), (163, _), (192, _)] ?_ ⟨rfl, rfl, rfl, rfl, rfl, rfl, rfl, rfl, rfl, trivial⟩
       refine WP.next ?_; refine WP.condF rfl ?_; refine WP.skip (WP.leave (WP.next ?_))
       refine WP.region [0, 1, 2] rfl ?_; refine WP.mv rfl rfl ?_; refine WP.vl rfl (Yld.add64 rfl rfl rfl (by omega)) ?_; refine WP.mv rfl rfl ?_; refine WP.nil ?_; refine WP.sub [(8, _), (9, _), (13, _), (16, _), (22, _), (23, _), (25, _), (163, _), (192, _)] ?_ ⟨rfl, rfl, rfl, rfl, rfl, rfl, rfl, rfl, rfl, trivial⟩
       exact WP.again ⟨i3 + 1, m3.set i3 ⟨m3[i3].m, z7, Lg7⟩, tb7, x7, J8, Lt7, Ll7⟩ ⟨(show i3 + 1 ≤ i1 by omega), Imm.le_trans hJ6 (Imm.le_trans hJ7 hJ8), (by rw [List.length_set]; exact hmn5), ((miP_set (y := ⟨m3[i3].m, z7, Lg7⟩) hi5 rfl).trans hpp5), (by rw [zsOf_set]; exact htw7), (show tb7.tok ≤ 140737488351300 + 99 * (i3 + 1) by omega), ((hms5.mono hJ7).mono hJ8).set i3 hg7, hT7.mono hJ8, hlg7.mono hJ8⟩ (show i1 - (i3 + 1) < i1 - i3 by omega) ⟨rfl, rfl, rfl, rfl, rfl, trivial⟩ rfl zA
     ·refine WP.nil ?_
      refine WP.sub [(8, _), (9, _), (13, _), (16, _), (22, _), (163, _)] ?_ ⟨rfl, rfl, rfl, rfl, rfl, rfl, trivial⟩
      refine WP.next ?_; refine WP.condF rfl ?_; refine WP.exit (WP.thenE (WP.thenE (WP.hit (WP.next (WP.seq ?_)))))
      refine WP.region [0, 1, 2, 3] rfl ?_; refine WP.mv rfl rfl ?_; refine WP.loud rfl rfl ?_; refine Op.cl (cac_NewFault (s := st) (l := l) (p := 1)) rfl Tryz.func15 rfl rfl rfl rfl ?_; rintro v J LnG - ⟨rfl, mG, fG, rfl, hfG⟩
      try simp only [nf]
      refine WP.loud rfl rfl ?_; refine Op.cl (law_count (z := .fa (fa0 1)) hst5 hT5 hlg5 ⟨fG, hfG⟩ htw5.w.w htw5.w.hW (FaI.new _ _ _ _) (by decide : bdT.b ≤ 1099511627776) (by omega)) rfl Tryz.func19 rfl rfl rfl rfl ?_; rintro v JG LcG hJG ⟨nG, zG, tbG, xxG, LmG, LtG, LlG, rfl, hcG, rfl, hmG, hTG, hlgG, wG, hgG, hiG, hpG, htG⟩
      try simp only [nf]
      have hmuG : (fa0 1).mu bdT.k tb5 ≤ 99 := Nat.le_trans (Nat.le_of_eq (Fa.mu1 rfl)) (by decide)
      have hbG := CountsF.bound (f := 99) (z := .fa (fa0 1)) htw5.w.w htw5.w.hW (FaI.new _ _ _ _) hmuG hcG
      obtain ⟨_, eG, heG, hneG, _⟩ := fa_in (f := 99) htw5.w.w htw5.w.hW (FaI.new _ _ _ _) (by decide) (fun q => absurd rfl q) hmuG hcG
      have hokG := (wG.held htw5.w.hW heG).ok
      rw [W1_1] at hokG
      have hnG := hokG.nds.resolve_left hneG
      have hwsG := hws.mono (Imv.le (Imm.le_trans (Imm.le_trans (Imm.le_trans hJm hJ3a) hJ6) hJG))
      refine WP.mv rfl rfl ?_; refine WP.nil ?_; refine WP.sub [(8, _), (9, _), (13, _), (16, _), (22, _), (26, _), (163, _)] ?_ ⟨rfl, rfl, rfl, rfl, rfl, rfl, rfl, trivial⟩
      refine WP.next (WP.seq ?_)
      refine WP.region [0, 1, 2, 3] rfl ?_; iterate 2 refine WP.mv rfl rfl ?_
      refine WP.loud rfl rfl ?_; refine Op.cl (law_has hTG (hJG.2 _ _ hrg5) heG hwsG (fun q => absurd q hneG) (fun _ => hneG) (fun _ => by rw [hnG]) (fun _ => by rw [hnG]; exact hokG.nf)) rfl Tryz.func18 rfl rfl rfl rfl ?_; rintro v J9 L45 hJ9 ⟨rfl, hT9⟩
      try simp only [nf]
      refine WP.mv rfl rfl ?_; refine WP.nil ?_; refine WP.sub [(8, _), (9, _), (13, _), (16, _), (22, _), (26, _), (27, _), (163, _)] ?_ ⟨rfl, rfl, rfl, rfl, rfl, rfl, rfl, rfl, trivial⟩
      refine WP.next (WP.seq ?_)
      refine WP.region [0, 1, 2, 3, 4, 5] rfl ?_; refine WP.mv rfl rfl ?_; refine WP.vl rfl (Yld.geq rfl rfl rfl true (decide_eq_true (by omega))) ?_; refine WP.mv rfl rfl ?_; refine WP.valG rfl rfl rfl rfl rfl rfl rfl (Yld.move rfl rfl) ?_; refine WP.vl rfl (Yld.pickT rfl rfl rfl) ?_; refine WP.mv rfl rfl ?_; refine WP.nil ?_; refine WP.sub [(6, _), (8, _), (9, _), (13, _), (16, _), (22, _), (26, _), (27, _), (163, _)] ?_ ⟨rfl, rfl, rfl, rfl, rfl, rfl, rfl, rfl, rfl, trivial⟩
      refine WP.next (WP.ret ?_)
      refine WP.fn .ret (.inr rfl) (res1 rfl rfl) [] (Imm.le_trans hJ2J (Imm.le_trans hJ3a (Imm.le_trans hJ6 (Imm.le_trans hJG hJ9)))) ?_; exact ⟨rfl, rfl⟩
 ·refine WP.mv rfl rfl ?_
  iterate 2 refine WP.passG rfl rfl rfl rfl rfl rfl rfl rfl ?_
  refine WP.vl rfl (Yld.pickF rfl rfl rfl) ?_; refine WP.nil ?_; refine WP.sub [(0, _), (1, _), (2, _), (8, _), (9, _), (13, _), (14, _), (81, _)] ?_ ⟨rfl, rfl, rfl, rfl, rfl, rfl, rfl, rfl, trivial⟩
  refine WP.next ?_; refine WP.condF rfl ?_; refine WP.exit (WP.thenE (WP.thenE (WP.hit (WP.next (WP.seq ?_)))))
  have hW : W1 N 1 ≠ [] := by rw [W1_1]; exact hch.nn
  have htw := hch.on
  have htk := hch.tok
  have hJ1J := Imm.le_trans hJ_1 hJ
  have hlgJ := hlg_1.mono hJ
  refine WP.region [0] rfl ?_; refine WP.mv rfl rfl ?_; refine WP.nil (WP.next (WP.seq (WP.seq ?_)))
  refine WP.region [0] rfl ?_; refine WP.mv rfl rfl ?_; refine WP.nil (WP.next (WP.block ?_))
  refine WP.loop (X := TmX) (fun u : TmX => [(1, .slice Ak ks.length ck), (2, .slice Ap ps.length cp), (8, .pointer (some ⟨x, 0, none⟩)), (9, .pointer (some ⟨st, 0, none⟩)), (13, .slice Aws (N.map (·.2)).length cws), (16, u.v), (17, .int .i64 (u.i : Int))]) (fun u => u.J) (fun u : TmX => u.ms.flatMap Mi.L ++ (u.Lo ++ (Lt2 ++ (Ll ++ F)))) (fun u : TmX => u.i ≤ ks.length ∧ u.i ≤ 8 ∧ J.le u.J ∧ u.ms.length = u.i ∧ Own 55 1 u.v (miP u.ms) u.i u.Lo ∧ IsMs u.J st l u.ms ∧ ∀ y ∈ u.ms, ∃ k, y.z = kindM k) (fun u => ks.length - u.i) ⟨0, [], .slice none 0 0, J, []⟩ ⟨Nat.zero_le _, Nat.zero_le _, Imm.le_refl _, rfl, .none0, (fun y hy => by cases hy), (fun y hy => by cases hy)⟩ ⟨rfl, rfl, rfl, rfl, rfl, rfl, rfl, trivial⟩ rfl zA ?_
  rintro ⟨i1, ms, vms, J1', Lo⟩ ⟨hle1, hle8, hJm, hmn, hoo, hms, hkm⟩; dsimp only at hle1 hle8 hJm hmn hoo hms hkm; obtain ⟨Ao, co, rfl, _⟩ := hoo.slice
  try dsimp only
  try simp only [nf]
  refine WP.seq (WP.seq ?_)
  refine WP.region [0, 1, 2, 3, 4, 5, 6, 7] rfl ?_; iterate 2 refine WP.mv rfl rfl ?_
  refine WP.vl rfl (Yld.len rfl ty_sl_48 rfl) ?_; refine WP.split rfl rfl rfl rfl (Yld.lss rfl rfl rfl) (fun hlt1 => ?_) (fun hlt1 => ?_)
  ·refine WP.mv rfl rfl ?_
   refine WP.valG rfl rfl rfl rfl rfl rfl rfl (Yld.move rfl rfl) ?_; refine WP.splitG rfl rfl rfl rfl rfl rfl rfl (Yld.lss rfl rfl rfl) (fun hlt8 => ?_) (fun hlt8 => ?_)
   ·have hi1 : i1 < ks.length := by omega
    obtain ⟨bk, kk_, Tk, fk, ark, eAk, hbk0, hck⟩ := ints_at hks hi1
    have hbk := (Imm.le_trans hJ1J hJm).2 _ _ hbk0
    refine WP.vl rfl (Yld.pickT rfl rfl rfl) ?_; refine WP.nil ?_; refine WP.sub [(1, _), (2, _), (8, _), (9, _), (13, _), (16, _), (17, _), (113, _)] ?_ ⟨rfl, rfl, rfl, rfl, rfl, rfl, rfl, rfl, trivial⟩
    refine WP.next ?_; refine WP.condT rfl ?_; refine WP.skip (WP.next (WP.seq (WP.block (WP.seq ?_))))
    refine WP.region [0, 1, 2, 3, 4, 5, 6] rfl ?_; iterate 3 refine WP.mv rfl rfl ?_
    refine WP.vl rfl (Yld.indexAddr (i := i1) rfl ty_sl_48 (congrArg (fun a => some (Value.slice a ks.length ck)) eAk) rfl hi1) ?_; refine WP.vl rfl (Yld.loadC (v := .int .i64 ks[i1]) rfl ty_sc_3 rfl (There.i hbk) hck) ?_; refine WP.loud rfl rfl ?_; refine Op.cl (law_kind (s := st) (l := l) (k := ks[i1])) rfl Tryz.func22 rfl rfl rfl rfl ?_; rintro v J2' Lk hJ2' ⟨m, rfl, hmk⟩
    try simp only [nf]
    refine WP.mv rfl rfl ?_; refine WP.nil ?_; refine WP.sub [(1, _), (2, _), (8, _), (9, _), (13, _), (16, _), (17, _), (18, _), (113, _)] ?_ ⟨rfl, rfl, rfl, rfl, rfl, rfl, rfl, rfl, rfl, trivial⟩
    refine WP.next (WP.seq (WP.seq ?_))
    refine WP.region [0, 1] rfl ?_; refine WP.mv rfl rfl ?_; refine WP.vl rfl (Yld.eqlNil rfl ty_pt_55 rfl rfl) ?_; refine WP.nil ?_; refine WP.sub [(1, _), (2, _), (8, _), (9, _), (13, _), (16, _), (17, _), (18, _), (113, _), (123, _)] ?_ ⟨rfl, rfl, rfl, rfl, rfl, rfl, rfl, rfl, rfl, rfl, trivial⟩
    refine WP.next ?_; refine WP.condF rfl ?_; refine WP.skip (WP.next ?_)
    refine WP.region [0, 1, 2, 3, 4] rfl ?_; iterate 2 refine WP.mv rfl rfl ?_
    refine WP.loud rfl rfl ?_; refine Op.buildSlice rfl ty_sl_51 ty_el2_51 rfl rfl rfl rfl (vs := [_]) rfl (segs := [(0, [_])]) (cs := [.pointer (some ⟨m, 0, none⟩)]) rfl rfl zS (fun bq => ?_)
    refine WP.loud rfl rfl ?_; refine Op.append (m := 1) rfl ty_sl_51 ty_el_51 rfl rfl rfl rfl rfl hoo (SlRd.lit (m := 1) zM rfl (Nat.le_refl _)) zT rfl (by omega) (by omega) (fun vn Ln hn2 => ?_)
    try simp only [nf]
    obtain ⟨An, cn, rfl, _⟩ := hn2.slice
    refine WP.mv rfl rfl ?_; refine WP.nil ?_; refine WP.sub [(1, _), (2, _), (8, _), (9, _), (13, _), (16, _), (17, _), (18, _), (113, _), (123, _)] ?_ ⟨rfl, rfl, rfl, rfl, rfl, rfl, rfl, rfl, rfl, rfl, trivial⟩
    refine WP.pushL (f := Mi.L) (l := ms) ⟨m, kindM ks[i1], Lk⟩ zT (by repeat (first | exact Rm.chunk | exact Rm.here | exact Rm.nil0 | apply Rm.skip | apply Rm.skipS)) ?_; try simp only [nf]
    refine WP.leave (WP.next ?_)
    refine WP.region [0, 1, 2] rfl ?_; refine WP.mv rfl rfl ?_; refine WP.vl rfl (Yld.add64 rfl rfl rfl (by omega)) ?_; refine WP.mv rfl rfl ?_; refine WP.nil ?_; refine WP.sub [(1, _), (2, _), (8, _), (9, _), (13, _), (16, _), (17, _), (18, _), (113, _), (123, _)] ?_ ⟨rfl, rfl, rfl, rfl, rfl, rfl, rfl, rfl, rfl, rfl, trivial⟩
    exact WP.again ⟨i1 + 1, ms ++ [⟨m, kindM ks[i1], Lk⟩], .slice An (i1 + 1) cn, J2', Ln⟩ ⟨(show i1 + 1 ≤ ks.length by omega), (show i1 + 1 ≤ 8 by omega), Imm.le_trans hJm hJ2', (by rw [List.length_append]; show ms.length + 1 = _; rw [hmn]), (by show Own _ _ _ (miP (ms ++ [_])) _ _; rw [show miP (ms ++ [⟨m, kindM ks[i1], Lk⟩]) = miP ms ++ [.pointer (some ⟨m, 0, none⟩)] from by simp [miP]]; exact hn2), (fun y hy => by rcases List.mem_append.1 hy with hy | hy; exact (hms y hy).mono hJ2'; cases List.mem_singleton.1 hy; exact hmk), (fun y hy => by rcases List.mem_append.1 hy with hy | hy; exact hkm y hy; cases List.mem_singleton.1 hy; exact ⟨_, rfl⟩)⟩ (show ks.length - (i1 + 1) < ks.length - i1 by omega) ⟨rfl, rfl, rfl, rfl, rfl, rfl, rfl, trivial⟩ rfl zA
   ·refine WP.vl rfl (Yld.pickT rfl rfl rfl) ?_
    refine WP.nil ?_; refine WP.sub [(1, _), (2, _), (8, _), (9, _), (13, _), (16, _), (17, _), (113, _)] ?_ ⟨rfl, rfl, rfl, rfl, rfl, rfl, rfl, rfl, trivial⟩
    refine WP.next ?_; refine WP.condF rfl ?_; refine WP.exit (WP.thenE (WP.thenE (WP.hit (WP.next (WP.seq (WP.seq ?_))))))
    have htwi : TwI N tb2 xx_0 (zsOf ms) := ⟨htw, fun z hz => by obtain ⟨y, hy, rfl⟩ := List.mem_map.1 hz; obtain ⟨k, hk⟩ := hkm y hy; rw [hk]; obtain ⟨a1, a2, a3, _⟩ := kindM_new (k := k) (N := N) (tb := tb2) (x := xx_0); exact ⟨a1, a2, a3⟩, by have q := phi_new (tb := tb2) (zs := zsOf ms) (fun z hz => by obtain ⟨y, hy, rfl⟩ := List.mem_map.1 hz; exact hkm y hy) (by unfold zsOf; rw [List.length_map]; omega); have q2 : xx_0.pl = 8 := (by rw [hxx0]; rfl); omega⟩
    have hJ2J := Imm.le_trans hJ1J hJm
    refine WP.region [0] rfl ?_; refine WP.mv rfl rfl ?_; refine WP.nil (WP.next (WP.block ?_))
    refine WP.loop (X := TsX) (fun u : TsX => [(2, .slice Ap ps.length cp), (8, .pointer (some ⟨x, 0, none⟩)), (9, .pointer (some ⟨st, 0, none⟩)), (13, .slice Aws (N.map (·.2)).length cws), (16, .slice Ao i1 co), (19, .int .i64 (u.i : Int))]) (fun u => u.J) (fun u : TsX => u.ms.flatMap Mi.L ++ (Lo ++ (u.Lt ++ (u.Ll ++ F)))) (fun u : TsX => u.i ≤ ps.length ∧ J1'.le u.J ∧ u.ms.length = i1 ∧ miP u.ms = miP ms ∧ TwI N u.tb u.x (zsOf u.ms) ∧ u.tb.tok ≤ 2 + i + u.i ∧ IsMs u.J st l u.ms ∧ IsT u.J t u.tb u.Lt ∧ IsLog u.J l s d (8 + 32 * 60) u.x (Dk.new (8 + 32 * 60)) u.Ll) (fun u => ps.length - u.i) ⟨0, ms, tb2, xx_0, J1', Lt2, Ll⟩ ⟨Nat.zero_le _, Imm.le_refl _, hmn, rfl, htwi, (by show tb2.tok ≤ 2 + i + 0; omega), hms, hT.mono hJm, hlgJ.mono hJm⟩ ⟨rfl, rfl, rfl, rfl, rfl, rfl, trivial⟩ rfl zA ?_
    rintro ⟨i2, m2, tb3, x3, J3, Lt3, Ll3⟩ ⟨hle2, hJ3, hmn3, hpp3, htw3, htk3, hms3, hT3, hlg3⟩; dsimp only at hle2 hJ3 hmn3 hpp3 htw3 htk3 hms3 hT3 hlg3
    try dsimp only
    try simp only [nf]
    refine WP.seq (WP.seq ?_)
    refine WP.region [0, 1, 2, 3, 4, 5, 6, 7, 8] rfl ?_; iterate 2 refine WP.mv rfl rfl ?_
    refine WP.vl rfl (Yld.len rfl ty_sl_48 rfl) ?_; refine WP.split rfl rfl rfl rfl (Yld.lss rfl rfl rfl) (fun hlt2 => ?_) (fun hlt2 => ?_)
    ·refine WP.mv rfl rfl ?_
     refine WP.valG rfl rfl rfl rfl rfl rfl rfl (Yld.move rfl rfl) ?_; refine WP.valG rfl rfl rfl rfl rfl rfl rfl (Yld.len rfl ty_sl_51 rfl) ?_; refine WP.splitG rfl rfl rfl rfl rfl rfl rfl (Yld.gtr rfl rfl rfl) (fun hpos => ?_) (fun hpos => ?_)
     ·have hi2 : i2 < ps.length := by omega
      have hi0 : 0 < i1 := by omega
      obtain ⟨bp, kp, Tp, fp, arp, eAp, hbp0, hcp⟩ := ints_at hps hi2
      have hbp := (Imm.le_trans hJ2J hJ3).2 _ _ hbp0
      obtain ⟨bm, cap, sp, hve, rfl, _, _⟩ := hoo.get hi0
      cases hve
      obtain ⟨hk1, hk2⟩ := tmod_nat (a := ps[i2]) (m := i1) hi0
      try simp only [nf]
      refine WP.vl rfl (Yld.pickT rfl rfl rfl) ?_; refine WP.nil ?_; refine WP.sub [(2, _), (8, _), (9, _), (13, _), (16, _), (19, _), (136, _)] ?_ ⟨rfl, rfl, rfl, rfl, rfl, rfl, rfl, trivial⟩
      refine WP.next ?_; refine WP.condT rfl ?_; refine WP.skip (WP.next (WP.seq (WP.block (WP.seq ?_))))
      refine WP.region [0, 1, 2, 3, 4, 5, 6, 7] rfl ?_; iterate 2 refine WP.mv rfl rfl ?_
      refine WP.vl rfl (Yld.indexAddr (i := i2) rfl ty_sl_48 (congrArg (fun a => some (Value.slice a ps.length cp)) eAp) rfl hi2) ?_; refine WP.vl rfl (Yld.loadC (v := .int .i64 ps[i2]) rfl ty_sc_3 rfl (There.i hbp) hcp) ?_; refine WP.mv rfl rfl ?_; refine WP.vl rfl (Yld.len rfl ty_sl_51 rfl) ?_; refine WP.vl rfl (Yld.remT rfl rfl rfl ⟨by omega, by omega⟩) ?_; refine WP.mv rfl rfl ?_; refine WP.nil ?_; refine WP.sub [(2, _), (8, _), (9, _), (13, _), (16, _), (19, _), (20, _), (136, _)] ?_ ⟨rfl, rfl, rfl, rfl, rfl, rfl, rfl, rfl, trivial⟩
      refine WP.next (WP.seq (WP.seq ?_))
      refine WP.region [0, 1] rfl ?_; refine WP.mv rfl rfl ?_; refine WP.split rfl rfl rfl rfl (Yld.lss rfl rfl rfl) (fun hneg => ?_) (fun hneg => ?_)
      ·obtain ⟨kk, hkv, hkk⟩ := hk2 hneg
       refine WP.nil ?_; refine WP.sub [(2, _), (8, _), (9, _), (13, _), (16, _), (19, _), (20, _), (136, _), (147, _)] ?_ ⟨rfl, rfl, rfl, rfl, rfl, rfl, rfl, rfl, rfl, trivial⟩
       refine WP.next ?_; refine WP.condT rfl ?_; refine WP.region [0, 1, 2] rfl ?_; refine WP.mv rfl rfl ?_; refine WP.vl rfl (Yld.neg64 rfl rfl (by omega)) ?_; rw [hkv]
       refine WP.mv rfl rfl ?_; refine WP.nil ?_; refine WP.sub [(2, _), (8, _), (9, _), (13, _), (16, _), (19, _), (20, _), (136, _), (147, _)] ?_ ⟨rfl, rfl, rfl, rfl, rfl, rfl, rfl, rfl, rfl, trivial⟩
       refine WP.next (WP.seq ?_)
       have hkm3 : kk < m2.length := by omega
       have hkz : kk < (zsOf m2).length := by unfold zsOf; rw [List.length_map]; exact hkm3
       have hmk3 := htw3.ms _ (List.getElem_mem hkz)
       rw [zsOf_at hkm3 hkz] at hmk3
       have hptr := miP_at hkm3 sp
       rw [hpp3] at hptr
       have hst3 := (Imm.le_trans (Imm.le_trans hJ hJm) hJ3).2 _ _ hst_1
       have hrg3 := (Imm.le_trans (Imm.le_trans hJ hJm) hJ3).2 _ _ hrg_1
       have hm3 := hms3 _ (List.getElem_mem hkm3)
       refine WP.region [0, 1, 2, 3, 4] rfl ?_; iterate 2 refine WP.mv rfl rfl ?_
       refine WP.vl rfl (Yld.indexAddr (i := kk) rfl ty_sl_51 rfl rfl hkk) ?_; refine WP.vl rfl (Yld.ld (v := .pointer (some ⟨m2[kk].m, 0, none⟩)) rfl ty_sc_55 rfl hptr) ?_; refine WP.outL (f := Mi.L) (l := m2) kk hkm3 (by repeat (first | exact Rm.chunk | exact Rm.here | exact Rm.nil0 | apply Rm.skip | apply Rm.skipS)) ?_; try simp only [nf]
       refine WP.loud rfl rfl ?_; refine Op.cl (mx_Step hst3 hT3 hlg3 hm3 htw3.w.w (by rw [hmk3.2.1]; exact htw3.w.hW) hmk3.1 (by decide : bdT.b ≤ 1099511627776) (by omega)) rfl Tryz.func17 rfl rfl rfl rfl ?_; rintro v J4 L334 hJ4 ⟨c4, z4, tb4, x4, Lm4, Lt4, Ll4, rfl, hs4, rfl, hm4, hT4, hlg4⟩
       try simp only [nf]
       have htw4 := htw3.step hkz (by rw [zsOf_at hkm3 hkz]; exact hs4)
       obtain ⟨_, _, k3, _⟩ := hs4.step htw3.w.w (by rw [hmk3.2.1]; exact htw3.w.hW) hmk3.1
       refine WP.nil ?_; refine WP.sub [(2, _), (8, _), (9, _), (13, _), (16, _), (19, _), (20, _), (136, _), (147, _)] ?_ ⟨rfl, rfl, rfl, rfl, rfl, rfl, rfl, rfl, rfl, trivial⟩
       refine WP.backL (f := Mi.L) (l := m2) kk hkm3 ⟨m2[kk].m, z4, Lm4⟩ zT (by repeat (first | exact Rm.chunk | exact Rm.here | exact Rm.nil0 | apply Rm.skip | apply Rm.skipS)) ?_; try simp only [nf]
       obtain ⟨e4, he4, hsh4⟩ := htw4.w.sh
       have hok4 := (htw4.w.w.held htw4.w.hW he4).ok
       rw [W1_1] at hok4
       have hws4 := hws.mono (Imv.le (Imm.le_trans hJm (Imm.le_trans hJ3 hJ4)))
       refine WP.next (WP.seq ?_)
       refine WP.region [0, 1, 2, 3] rfl ?_; iterate 2 refine WP.mv rfl rfl ?_
       refine WP.loud rfl rfl ?_; refine Op.cl (law_has hT4 (hJ4.2 _ _ hrg3) he4 hws4 (fun q => by rcases hsh4 with ⟨_, _, q2⟩ | ⟨q2, _⟩; exact absurd (q2 ▸ q) htw4.w.nn; exact q2) (fun q => by cases q) (fun q => by rw [hok4.nds.resolve_left q]) (fun q => by rw [hok4.nds.resolve_left q]; exact hok4.nf)) rfl Tryz.func18 rfl rfl rfl rfl ?_; rintro v J5 L342 hJ5 ⟨rfl, hT5⟩
       try simp only [nf]
       refine WP.mv rfl rfl ?_; refine WP.nil ?_; refine WP.sub [(2, _), (8, _), (9, _), (13, _), (16, _), (19, _), (20, _), (21, _), (136, _), (147, _)] ?_ ⟨rfl, rfl, rfl, rfl, rfl, rfl, rfl, rfl, rfl, rfl, trivial⟩
       refine WP.next (WP.seq ?_)
       refine WP.region [0, 1] rfl ?_; refine WP.mv rfl rfl ?_; refine WP.vl rfl (Yld.not rfl rfl) ?_; refine WP.nil ?_; refine WP.sub [(2, _), (8, _), (9, _), (13, _), (16, _), (19, _), (20, _), (21, _), (136, _), (147, _), (159, _)] ?_ ⟨rfl, rfl, rfl, rfl, rfl, rfl, rfl, rfl, rfl, rfl, rfl, trivial⟩
       refine WP.next ?_; refine WP.condF rfl ?_; refine WP.skip (WP.leave (WP.next ?_))
       refine WP.region [0, 1, 2] rfl ?_; refine WP.mv rfl rfl ?_; refine WP.vl rfl (Yld.add64 rfl rfl rfl (by omega)) ?_; refine WP.mv rfl rfl ?_; refine WP.nil ?_; refine WP.sub [(2, _), (8, _), (9, _), (13, _), (16, _), (19, _), (20, _), (21, _), (136, _), (147, _), (159, _)] ?_ ⟨rfl, rfl, rfl, rfl, rfl, rfl, rfl, rfl, rfl, rfl, rfl, trivial⟩
       exact WP.again ⟨i2 + 1, m2.set kk ⟨m2[kk].m, z4, Lm4⟩, tb4, x4, J5, L342, Ll4⟩ ⟨(show i2 + 1 ≤ ps.length by omega), Imm.le_trans hJ3 (Imm.le_trans hJ4 hJ5), (by rw [List.length_set]; exact hmn3), ((miP_set (y := ⟨m2[kk].m, z4, Lm4⟩) hkm3 rfl).trans hpp3), (by rw [zsOf_set]; exact htw4), (show tb4.tok ≤ 2 + i + (i2 + 1) by omega), ((hms3.mono hJ4).set kk hm4).mono hJ5, hT5, hlg4.mono hJ5⟩ (show ps.length - (i2 + 1) < ps.length - i2 by omega) ⟨rfl, rfl, rfl, rfl, rfl, rfl, trivial⟩ rfl zA
      ·obtain ⟨kk, hkv, hkk⟩ := hk1 hneg
       rw [hkv]
       refine WP.nil ?_; refine WP.sub [(2, _), (8, _), (9, _), (13, _), (16, _), (19, _), (20, _), (136, _), (147, _)] ?_ ⟨rfl, rfl, rfl, rfl, rfl, rfl, rfl, rfl, rfl, trivial⟩
       refine WP.next ?_; refine WP.condF rfl ?_; refine WP.skip (WP.next (WP.seq ?_))
       have hkm3 : kk < m2.length := by omega
       have hkz : kk < (zsOf m2).length := by unfold zsOf; rw [List.length_map]; exact hkm3
       have hmk3 := htw3.ms _ (List.getElem_mem hkz)
       rw [zsOf_at hkm3 hkz] at hmk3
       have hptr := miP_at hkm3 sp
       rw [hpp3] at hptr
       have hst3 := (Imm.le_trans (Imm.le_trans hJ hJm) hJ3).2 _ _ hst_1
       have hrg3 := (Imm.le_trans (Imm.le_trans hJ hJm) hJ3).2 _ _ hrg_1
       have hm3 := hms3 _ (List.getElem_mem hkm3)
       refine WP.region [0, 1, 2, 3, 4] rfl ?_; iterate 2 refine WP.mv rfl rfl ?_
       refine WP.vl rfl (Yld.indexAddr (i := kk) rfl ty_sl_51 rfl rfl hkk) ?_; refine WP.vl rfl (Yld.ld (v := .pointer (some ⟨m2[kk].m, 0, none⟩)) rfl ty_sc_55 rfl hptr) ?_; refine WP.outL (f := Mi.L) (l := m2) kk hkm3 (by repeat (first | exact Rm.chunk | exact Rm.here | exact Rm.nil0 | apply Rm.skip | apply Rm.skipS)) ?_; try simp only [nf]
       refine WP.loud rfl rfl ?_; refine Op.cl (mx_Step hst3 hT3 hlg3 hm3 htw3.w.w (by rw [hmk3.2.1]; exact htw3.w.hW) hmk3.1 (by decide : bdT.b ≤ 1099511627776) (by omega)) rfl Tryz.func17 rfl rfl rfl rfl ?_; rintro v J4 L334 hJ4 ⟨c4, z4, tb4, x4, Lm4, Lt4, Ll4, rfl, hs4, rfl, hm4, hT4, hlg4⟩
       try simp only [nf]
       have htw4 := htw3.step hkz (by rw [zsOf_at hkm3 hkz]; exact hs4)
       obtain ⟨_, _, k3, _⟩ := hs4.step htw3.w.w (by rw [hmk3.2.1]; exact htw3.w.hW) hmk3.1
       refine WP.nil ?_; refine WP.sub [(2, _), (8, _), (9, _), (13, _), (16, _), (19, _), (20, _), (136, _), (147, _)] ?_ ⟨rfl, rfl, rfl, rfl, rfl, rfl, rfl, rfl, rfl, trivial⟩
       refine WP.backL (f := Mi.L) (l := m2) kk hkm3 ⟨m2[kk].m, z4, Lm4⟩ zT (by repeat (first | exact Rm.chunk | exact Rm.here | exact Rm.nil0 | apply Rm.skip | apply Rm.skipS)) ?_; try simp only [nf]
       obtain ⟨e4, he4, hsh4⟩ := htw4.w.sh
       have hok4 := (htw4.w.w.held htw4.w.hW he4).ok
       rw [W1_1] at hok4
       have hws4 := hws.mono (Imv.le (Imm.le_trans hJm (Imm.le_trans hJ3 hJ4)))
       refine WP.next (WP.seq ?_)
       refine WP.region [0, 1, 2, 3] rfl ?_; iterate 2 refine WP.mv rfl rfl ?_
       refine WP.loud rfl rfl ?_; refine Op.cl (law_has hT4 (hJ4.2 _ _ hrg3) he4 hws4 (fun q => by rcases hsh4 with ⟨_, _, q2⟩ | ⟨q2, _⟩; exact absurd (q2 ▸ q) htw4.w.nn; exact q2) (fun q => by cases q) (fun q => by rw [hok4.nds.resolve_left q]) (fun q => by rw [hok4.nds.resolve_left q]; exact hok4.nf)) rfl Tryz.func18 rfl rfl rfl rfl ?_; rintro v J5 L342 hJ5 ⟨rfl, hT5⟩
       try simp only [nf]
       refine WP.mv rfl rfl ?_; refine WP.nil ?_; refine WP.sub [(2, _), (8, _), (9, _), (13, _), (16, _), (19, _), (20, _), (21, _), (136, _), (147, _)] ?_ ⟨rfl, rfl, rfl, rfl, rfl, rfl, rfl, rfl, rfl, rfl, trivial⟩
       refine WP.next (WP.seq ?_)
       refine WP.region [0, 1] rfl ?_; refine WP.mv rfl rfl ?_; refine WP.vl rfl (Yld.not rfl rfl) ?_; refine WP.nil ?_; refine WP.sub [(2, _), (8, _), (9, _), (13, _), (16, _), (19, _), (20, _), (21, _), (136, _), (147, _), (159, _)] ?_ ⟨rfl, rfl, rfl, rfl, rfl, rfl, rfl, rfl, rfl, rfl, rfl, trivial⟩
       refine WP.next ?_; refine WP.condF rfl ?_; refine WP.skip (WP.leave (WP.next ?_))
       refine WP.region [0, 1, 2] rfl ?_; refine WP.mv rfl rfl ?_; refine WP.vl rfl (Yld.add64 rfl rfl rfl (by omega)) ?_; refine WP.mv rfl rfl ?_; refine WP.nil ?_; refine WP.sub [(2, _), (8, _), (9, _), (13, _), (16, _), (19, _), (20, _), (21, _), (136, _), (147, _), (159, _)] ?_ ⟨rfl, rfl, rfl, rfl, rfl, rfl, rfl, rfl, rfl, rfl, rfl, trivial⟩
       exact WP.again ⟨i2 + 1, m2.set kk ⟨m2[kk].m, z4, Lm4⟩, tb4, x4, J5, L342, Ll4⟩ ⟨(show i2 + 1 ≤ ps.length by omega), Imm.le_trans hJ3 (Imm.le_trans hJ4 hJ5), (by rw [List.length_set]; exact hmn3), ((miP_set (y := ⟨m2[kk].m, z4, Lm4⟩) hkm3 rfl).trans hpp3), (by rw [zsOf_set]; exact htw4), (show tb4.tok ≤ 2 + i + (i2 + 1) by omega), ((hms3.mono hJ4).set kk hm4).mono hJ5, hT5, hlg4.mono hJ5⟩ (show ps.length - (i2 + 1) < ps.length - i2 by omega) ⟨rfl, rfl, rfl, rfl, rfl, rfl, trivial⟩ rfl zA
     ·refine WP.vl rfl (Yld.pickT rfl rfl rfl) ?_
      refine WP.nil ?_; refine WP.sub [(2, _), (8, _), (9, _), (13, _), (16, _), (19, _), (136, _)] ?_ ⟨rfl, rfl, rfl, rfl, rfl, rfl, rfl, trivial⟩
      refine WP.next ?_; refine WP.condF rfl ?_; refine WP.exit (WP.thenE (WP.thenE (WP.hit (WP.next (WP.seq (WP.seq ?_))))))
      refine WP.region [0] rfl ?_; refine WP.mv rfl rfl ?_; refine WP.nil (WP.next (WP.block ?_))
      refine WP.loop (X := TsX) (fun u : TsX => [(8, .pointer (some ⟨x, 0, none⟩)), (9, .pointer (some ⟨st, 0, none⟩)), (13, .slice Aws (N.map (·.2)).length cws), (16, .slice Ao i1 co), (22, .int .i64 (u.i : Int))]) (fun u => u.J) (fun u : TsX => u.ms.flatMap Mi.L ++ (Lo ++ (u.Lt ++ (u.Ll ++ F)))) (fun u : TsX => u.i ≤ i1 ∧ J3.le u.J ∧ u.ms.length = i1 ∧ miP u.ms = miP ms ∧ TwI N u.tb u.x (zsOf u.ms) ∧ u.tb.tok ≤ 140737488351300 + 99 * u.i ∧ IsMs u.J st l u.ms ∧ IsT u.J t u.tb u.Lt ∧ IsLog u.J l s d (8 + 32 * 60) u.x (Dk.new (8 + 32 * 60)) u.Ll) (fun u => i1 - u.i) ⟨0, m2, tb3, x3, J3, Lt3, Ll3⟩ ⟨Nat.zero_le _, Imm.le_refl _, hmn3, hpp3, htw3, (by show tb3.tok ≤ 140737488351300 + 99 * 0; omega), hms3, hT3, hlg3⟩ ⟨rfl, rfl, rfl, rfl, rfl, trivial⟩ rfl zA ?_
      have hJ3a := hJ3; rintro ⟨i3, m3, tb5, x5, J6, Lt5, Ll5⟩ ⟨hle3, hJ6, hmn5, hpp5, htw5, htk5, hms5, hT5, hlg5⟩; dsimp only at hle3 hJ6 hmn5 hpp5 htw5 htk5 hms5 hT5 hlg5; have hst5 := (Imm.le_trans (Imm.le_trans (Imm.le_trans hJ hJm) hJ3a) hJ6).2 _ _ hst_1; have hrg5 := (Imm.le_trans (Imm.le_trans (Imm.le_trans hJ hJm) hJ3a) hJ6).2 _ _ hrg_1
      try dsimp only
      try simp only [nf]
      refine WP.seq (WP.seq ?_)
      refine WP.region [0, 1, 2, 3] rfl ?_; iterate 2 refine WP.mv rfl rfl ?_
      refine WP.vl rfl (Yld.len rfl ty_sl_51 rfl) ?_; refine WP.split rfl rfl rfl rfl (Yld.lss rfl rfl rfl) (fun hlt3 => ?_) (fun hlt3 => ?_)
      ·have hi3 : i3 < i1 := by omega
       have hi5 : i3 < m3.length := by omega
       obtain ⟨bm, cap, sp, hve, rfl, _, _⟩ := hoo.get (by omega)
       cases hve
       try simp only [nf]
       have hkz5 : i3 < (zsOf m3).length := by unfold zsOf; rw [List.length_map]; exact hi5
       have hmk5 := htw5.ms _ (List.getElem_mem hkz5)
       rw [zsOf_at hi5 hkz5] at hmk5
       have hptr5 := miP_at hi5 sp
       rw [hpp5] at hptr5
       have hm5 := hms5 _ (List.getElem_mem hi5)
       refine WP.nil ?_; refine WP.sub [(8, _), (9, _), (13, _), (16, _), (22, _), (163, _)] ?_ ⟨rfl, rfl, rfl, rfl, rfl, rfl, trivial⟩
       refine WP.next ?_; refine WP.condT rfl ?_; refine WP.skip (WP.next (WP.seq (WP.block (WP.seq ?_))))
       refine WP.region [0, 1, 2, 3, 4, 5] rfl ?_; iterate 2 refine WP.mv rfl rfl ?_
       refine WP.vl rfl (Yld.indexAddr (i := i3) rfl ty_sl_51 rfl rfl hi3) ?_; refine WP.vl rfl (Yld.ld (v := .pointer (some ⟨m3[i3].m, 0, none⟩)) rfl ty_sc_55 rfl hptr5) ?_; refine WP.outL (f := Mi.L) (l := m3) i3 hi5 (by repeat (first | exact Rm.chunk | exact Rm.here | exact Rm.nil0 | apply Rm.skip | apply Rm.skipS)) ?_; try simp only [nf]
       refine WP.loud rfl rfl ?_; refine Op.cl (law_count hst5 hT5 hlg5 hm5 htw5.w.w (by rw [hmk5.2.1]; exact htw5.w.hW) hmk5.1 (by decide : bdT.b ≤ 1099511627776) (by omega)) rfl Tryz.func19 rfl rfl rfl rfl ?_; rintro v J7 L404 hJ7 ⟨n7, z7, tb7, x7, Lm7, Lt7, Ll7, rfl, hc7, rfl, hm7, hT7, hlg7, hw7, hg7_, hi7, hp7, ht7⟩
       try simp only [nf]
       have hb7 := CountsF.bound (f := 99) htw5.w.w (by rw [hmk5.2.1]; exact htw5.w.hW) hmk5.1 (Nat.le_trans (Mx.mu_bd _ _ _ _).2 (by decide)) hc7
       have hmu7 : (m3[i3].z).mu bdT tb5 x5 ≤ 52 := (Mx.mu_bd _ _ _ _).2
       obtain ⟨htw7, he7⟩ := htw5.counts hkz5 (zsOf_at hi5 hkz5) hc7 hb7.1
       refine WP.mv rfl rfl ?_; refine WP.nil ?_; refine WP.sub [(8, _), (9, _), (13, _), (16, _), (22, _), (23, _), (163, _)] ?_ ⟨rfl, rfl, rfl, rfl, rfl, rfl, rfl, trivial⟩
       refine WP.next (WP.seq ?_)
       refine WP.region [0, 1, 2, 3, 4, 5, 6, 7, 8, 9, 10] rfl ?_; iterate 2 refine WP.mv rfl rfl ?_
       refine WP.vl rfl (Yld.indexAddr (i := i3) rfl ty_sl_51 rfl rfl hi3) ?_; refine WP.vl rfl (Yld.ld (v := .pointer (some ⟨m3[i3].m, 0, none⟩)) rfl ty_sc_55 rfl hptr5) ?_; refine WP.loud rfl rfl ?_; refine Op.cl (mx_Got hm7) rfl Tryz.func23 rfl rfl rfl rfl ?_; rintro v J8 Lg7 hJ8 ⟨cs, rfl, hre, hg7⟩
       try simp only [nf]
       obtain ⟨vn, vw, nv, rfl, q1, q2, q3⟩ := id hre.ex
       obtain ⟨An, cn, rfl, _⟩ := q1.slice'
       obtain ⟨Aw, cw, rfl, _⟩ := q3.slice'
       refine WP.mv rfl rfl ?_; iterate 2 refine WP.vl rfl (Yld.extract rfl rfl rfl) ?_
       refine WP.loud rfl rfl ?_; refine Op.alloc rfl rfl rfl ty_zr_50 (fun b24 => ?_)
       refine WP.loud rfl rfl ?_; refine Op.sA rfl rfl ty_sz_50 rfl rfl rfl rfl rfl ?_; refine WP.mv rfl rfl ?_; refine WP.nil ?_; refine WP.sub [(8, _), (9, _), (13, _), (16, _), (22, _), (23, _), (25, _), (163, _)] ?_ ⟨rfl, rfl, rfl, rfl, rfl, rfl, rfl, rfl, trivial⟩
       refine WP.backL (f := Mi.L) (l := m3) i3 hi5 ⟨m3[i3].m, z7, Lg7⟩ zT (by repeat (first | exact Rm.chunk | exact Rm.here | exact Rm.nil0 | apply Rm.skip | apply Rm.skipS)) ?_; try simp only [nf]
       refine WP.next (WP.seq ?_)
       refine WP.region [0, 1, 2, 3, 4, 5, 6, 7, 8, 9, 10, 11, 12, 13] rfl ?_; refine WP.mv rfl rfl ?_; refine WP.vl rfl (Yld.lss rfl rfl rfl false (decide_eq_false (by omega))) ?_; refine WP.mv rfl rfl ?_; refine WP.valG rfl rfl rfl rfl rfl rfl rfl (Yld.move rfl rfl) ?_; refine WP.valG rfl rfl rfl rfl rfl rfl rfl (Yld.gtr rfl rfl rfl false (decide_eq_false (by omega))) ?_; refine WP.vl rfl (Yld.pickF rfl rfl rfl) ?_; refine WP.mv rfl rfl ?_; refine WP.valG rfl rfl rfl rfl rfl rfl rfl (Yld.move rfl rfl) ?_; refine WP.splitG rfl rfl rfl rfl rfl rfl rfl (Yld.neq rfl rfl rfl) (fun h428 => ?_) (fun h428 => ?_)
       ·refine WP.valG rfl rfl rfl rfl rfl rfl rfl (Yld.move rfl rfl) ?_
        refine WP.valG rfl rfl rfl rfl rfl rfl rfl (Yld.move rfl rfl) ?_; refine WP.valG rfl rfl rfl rfl rfl rfl rfl (Yld.neq rfl rfl rfl false (decide_eq_false (by exact fun q => q (he7.resolve_left h428)))) ?_; refine WP.valG rfl rfl rfl rfl rfl rfl rfl (Yld.pickT rfl rfl rfl) ?_; refine WP.vl rfl (Yld.pickF rfl rfl rfl) ?_; refine WP.nil ?_; refine WP.sub [(8, _), (9, _), (13, _), (16, _), (22, _), (23, _), (25, _), (163, _), (192, _)] ?_ ⟨rfl, rfl, rfl, rfl, rfl, rfl, rfl, rfl, rfl, trivial⟩
        refine WP.next ?_; refine WP.condF rfl ?_; refine WP.skip (WP.leave (WP.next ?_))
        refine WP.region [0, 1, 2] rfl ?_; refine WP.mv rfl rfl ?_; refine WP.vl rfl (Yld.add64 rfl rfl rfl (by omega)) ?_; refine WP.mv rfl rfl ?_; refine WP.nil ?_; refine WP.sub [(8, _), (9, _), (13, _), (16, _), (22, _), (23, _), (25, _), (163, _), (192, _)] ?_ ⟨rfl, rfl, rfl, rfl, rfl, rfl, rfl, rfl, rfl, trivial⟩
        exact WP.again ⟨i3 + 1, m3.set i3 ⟨m3[i3].m, z7, Lg7⟩, tb7, x7, J8, Lt7, Ll7⟩ ⟨(show i3 + 1 ≤ i1 by omega), Imm.le_trans hJ6 (Imm.le_trans hJ7 hJ8), (by rw [List.length_set]; exact hmn5), ((miP_set (y := ⟨m3[i3].m, z7, Lg7⟩) hi5 rfl).trans hpp5), (by rw [zsOf_set]; exact htw7), (show tb7.tok ≤ 140737488351300 + 99 * (i3 + 1) by omega), ((hms5.mono hJ7).mono hJ8).set i3 hg7, hT7.mono hJ8, hlg7.mono hJ8⟩ (show i1 - (i3 + 1) < i1 - i3 by omega) ⟨rfl, rfl, rfl, rfl, rfl, trivial⟩ rfl zA
       ·refine WP.valG rfl rfl rfl rfl rfl rfl rfl (Yld.move rfl rfl) ?_
        iterate 2 refine WP.passG rfl rfl rfl rfl rfl rfl rfl rfl ?_
        refine WP.valG rfl rfl rfl rfl rfl rfl rfl (Yld.pickF rfl rfl rfl) ?_; refine WP.vl rfl (Yld.pickF rfl rfl rfl) ?_; refine WP.nil ?_; refine WP.sub [(8, _), (9, _), (13, _), (16, _), (22, _), (23, _), (25, _), (163, _), (192, _)] ?_ ⟨rfl, rfl, rfl, rfl, rfl, rfl, rfl, rfl, rfl, trivial⟩
        refine WP.next ?_; refine WP.condF rfl ?_; refine WP.skip (WP.leave (WP.next ?_))
        refine WP.region [0, 1, 2] rfl ?_; refine WP.mv rfl rfl ?_; refine WP.vl rfl (Yld.add64 rfl rfl rfl (by omega)) ?_; refine WP.mv rfl rfl ?_; refine WP.nil ?_; refine WP.sub [(8, _), (9, _), (13, _), (16, _), (22, _), (23, _), (25, _), (163, _), (192, _)] ?_ ⟨rfl, rfl, rfl, rfl, rfl, rfl, rfl, rfl, rfl, trivial⟩
        exact WP.again ⟨i3 + 1, m3.set i3 ⟨m3[i3].m, z7, Lg7⟩, tb7, x7, J8, Lt7, Ll7⟩ ⟨(show i3 + 1 ≤ i1 by omega), Imm.le_trans hJ6 (Imm.le_trans hJ7 hJ8), (by rw [List.length_set]; exact hmn5), ((miP_set (y := ⟨m3[i3].m, z7, Lg7⟩) hi5 rfl).trans hpp5), (by rw [zsOf_set]; exact htw7), (show tb7.tok ≤ 140737488351300 + 99 * (i3 + 1) by omega), ((hms5.mono hJ7).mono hJ8).set i3 hg7, hT7.mono hJ8, hlg7.mono hJ8⟩ (show i1 - (i3 + 1) < i1 - i3 by omega) ⟨rfl, rfl, rfl, rfl, rfl, trivial⟩ rfl zA
      ·refine WP.nil ?_
       refine WP.sub [(8, _), (9, _), (13, _), (16, _), (22, _), (163, _)] ?_ ⟨rfl, rfl, rfl, rfl, rfl, rfl, trivial⟩
       refine WP.next ?_; refine WP.condF rfl ?_; refine WP.exit (WP.thenE (WP.thenE (WP.hit (WP.next (WP.seq ?_)))))
       refine WP.region [0, 1, 2, 3] rfl ?_; refine WP.mv rfl rfl ?_; refine WP.loud rfl rfl ?_; refine Op.cl (cac_NewFault (s := st) (l := l) (p := 1)) rfl Tryz.func15 rfl rfl rfl rfl ?_; rintro v J LnG - ⟨rfl, mG, fG, rfl, hfG⟩
       try simp only [nf]
       refine WP.loud rfl rfl ?_; refine Op.cl (law_count (z := .fa (fa0 1)) hst5 hT5 hlg5 ⟨fG, hfG⟩ htw5.w.w htw5.w.hW (FaI.new _ _ _ _) (by decide : bdT.b ≤ 1099511627776) (by omega)) rfl Tryz.func19 rfl rfl rfl rfl ?_; rintro v JG LcG hJG ⟨nG, zG, tbG, xxG, LmG, LtG, LlG, rfl, hcG, rfl, hmG, hTG, hlgG, wG, hgG, hiG, hpG, htG⟩
       try simp only [nf]
       have hmuG : (fa0 1).mu bdT.k tb5 ≤ 99 := Nat.le_trans (Nat.le_of_eq (Fa.mu1 rfl)) (by decide)
       have hbG := CountsF.bound (f := 99) (z := .fa (fa0 1)) htw5.w.w htw5.w.hW (FaI.new _ _ _ _) hmuG hcG
       obtain ⟨_, eG, heG, hneG, _⟩ := fa_in (f := 99) htw5.w.w htw5.w.hW (FaI.new _ _ _ _) (by decide) (fun q => absurd rfl q) hmuG hcG
       have hokG := (wG.held htw5.w.hW heG).ok
       rw [W1_1] at hokG
       have hnG := hokG.nds.resolve_left hneG
       have hwsG := hws.mono (Imv.le (Imm.le_trans (Imm.le_trans (Imm.le_trans hJm hJ3a) hJ6) hJG))
       refine WP.mv rfl rfl ?_; refine WP.nil ?_; refine WP.sub [(8, _), (9, _), (13, _), (16, _), (22, _), (26, _), (163, _)] ?_ ⟨rfl, rfl, rfl, rfl, rfl, rfl, rfl, trivial⟩
       refine WP.next (WP.seq ?_)
       refine WP.region [0, 1, 2, 3] rfl ?_; iterate 2 refine WP.mv rfl rfl ?_
       refine WP.loud rfl rfl ?_; refine Op.cl (law_has hTG (hJG.2 _ _ hrg5) heG hwsG (fun q => absurd q hneG) (fun _ => hneG) (fun _ => by rw [hnG]) (fun _ => by rw [hnG]; exact hokG.nf)) rfl Tryz.func18 rfl rfl rfl rfl ?_; rintro v J9 L45 hJ9 ⟨rfl, hT9⟩
       try simp only [nf]
       refine WP.mv rfl rfl ?_; refine WP.nil ?_; refine WP.sub [(8, _), (9, _), (13, _), (16, _), (22, _), (26, _), (27, _), (163, _)] ?_ ⟨rfl, rfl, rfl, rfl, rfl, rfl, rfl, rfl, trivial⟩
       refine WP.next (WP.seq ?_)
       refine WP.region [0, 1, 2, 3, 4, 5] rfl ?_; refine WP.mv rfl rfl ?_; refine WP.vl rfl (Yld.geq rfl rfl rfl true (decide_eq_true (by omega))) ?_; refine WP.mv rfl rfl ?_; refine WP.valG rfl rfl rfl rfl rfl rfl rfl (Yld.move rfl rfl) ?_; refine WP.vl rfl (Yld.pickT rfl rfl rfl) ?_; refine WP.mv rfl rfl ?_; refine WP.nil ?_; refine WP.sub [(6, _), (8, _), (9, _), (13, _), (16, _), (22, _), (26, _), (27, _), (163, _)] ?_ ⟨rfl, rfl, rfl, rfl, rfl, rfl, rfl, rfl, rfl, trivial⟩
       refine WP.next (WP.ret ?_)
       refine WP.fn .ret (.inr rfl) (res1 rfl rfl) [] (Imm.le_trans hJ2J (Imm.le_trans hJ3a (Imm.le_trans hJ6 (Imm.le_trans hJG hJ9)))) ?_; exact ⟨rfl, rfl⟩
    ·refine WP.mv rfl rfl ?_
     iterate 3 refine WP.passG rfl rfl rfl rfl rfl rfl rfl rfl ?_
     refine WP.vl rfl (Yld.pickF rfl rfl rfl) ?_; refine WP.nil ?_; refine WP.sub [(2, _), (8, _), (9, _), (13, _), (16, _), (19, _), (136, _)] ?_ ⟨rfl, rfl, rfl, rfl, rfl, rfl, rfl, trivial⟩
     refine WP.next ?_; refine WP.condF rfl ?_; refine WP.exit (WP.thenE (WP.thenE (WP.hit (WP.next (WP.seq (WP.seq ?_))))))
     refine WP.region [0] rfl ?_; refine WP.mv rfl rfl ?_; refine WP.nil (WP.next (WP.block ?_))
     refine WP.loop (X := TsX) (fun u : TsX => [(8, .pointer (some ⟨x, 0, none⟩)), (9, .pointer (some ⟨st, 0, none⟩)), (13, .slice Aws (N.map (·.2)).length cws), (16, .slice Ao i1 co), (22, .int .i64 (u.i : Int))]) (fun u => u.J) (fun u : TsX => u.ms.flatMap Mi.L ++ (Lo ++ (u.Lt ++ (u.Ll ++ F)))) (fun u : TsX => u.i ≤ i1 ∧ J3.le u.J ∧ u.ms.length = i1 ∧ miP u.ms = miP ms ∧ TwI N u.tb u.x (zsOf u.ms) ∧ u.tb.tok ≤ 140737488351300 + 99 * u.i ∧ IsMs u.J st l u.ms ∧ IsT u.J t u.tb u.Lt ∧ IsLog u.J l s d (8 + 32 * 60) u.x (Dk.new (8 + 32 * 60)) u.Ll) (fun u => i1 - u.i) ⟨0, m2, tb3, x3, J3, Lt3, Ll3⟩ ⟨Nat.zero_le _, Imm.le_refl _, hmn3, hpp3, htw3, (by show tb3.tok ≤ 140737488351300 + 99 * 0; omega), hms3, hT3, hlg3⟩ ⟨rfl, rfl, rfl, rfl, rfl, trivial⟩ rfl zA ?_
     have hJ3a := hJ3; rintro ⟨i3, m3, tb5, x5, J6, Lt5, Ll5⟩ ⟨hle3, hJ6, hmn5, hpp5, htw5, htk5, hms5, hT5, hlg5⟩; dsimp only at hle3 hJ6 hmn5 hpp5 htw5 htk5 hms5 hT5 hlg5; have hst5 := (Imm.le_trans (Imm.le_trans (Imm.le_trans hJ hJm) hJ3a) hJ6).2 _ _ hst_1; have hrg5 := (Imm.le_trans (Imm.le_trans (Imm.le_trans hJ hJm) hJ3a) hJ6).2 _ _ hrg_1
     try dsimp only
     try simp only [nf]
     refine WP.seq (WP.seq ?_)
     refine WP.region [0, 1, 2, 3] rfl ?_; iterate 2 refine WP.mv rfl rfl ?_
     refine WP.vl rfl (Yld.len rfl ty_sl_51 rfl) ?_; refine WP.split rfl rfl rfl rfl (Yld.lss rfl rfl rfl) (fun hlt3 => ?_) (fun hlt3 => ?_)
     ·have hi3 : i3 < i1 := by omega
      have hi5 : i3 < m3.length := by omega
      obtain ⟨bm, cap, sp, hve, rfl, _, _⟩ := hoo.get (by omega)
      cases hve
      try simp only [nf]
      have hkz5 : i3 < (zsOf m3).length := by unfold zsOf; rw [List.length_map]; exact hi5
      have hmk5 := htw5.ms _ (List.getElem_mem hkz5)
      rw [zsOf_at hi5 hkz5] at hmk5
      have hptr5 := miP_at hi5 sp
      rw [hpp5] at hptr5
      have hm5 := hms5 _ (List.getElem_mem hi5)
      refine WP.nil ?_; refine WP.sub [(8, _), (9, _), (13, _), (16, _), (22, _), (163, _)] ?_ ⟨rfl, rfl, rfl, rfl, rfl, rfl, trivial⟩
      refine WP.next ?_; refine WP.condT rfl ?_; refine WP.skip (WP.next (WP.seq (WP.block (WP.seq ?_))))
      refine WP.region [0, 1, 2, 3, 4, 5] rfl ?_; iterate 2 refine WP.mv rfl rfl ?_
      refine WP.vl rfl (Yld.indexAddr (i := i3) rfl ty_sl_51 rfl rfl hi3) ?_; refine WP.vl rfl (Yld.ld (v := .pointer (some ⟨m3[i3].m, 0, none⟩)) rfl ty_sc_55 rfl hptr5) ?_; refine WP.outL (f := Mi.L) (l := m3) i3 hi5 (by repeat (first | exact Rm.chunk | exact Rm.here | exact Rm.nil0 | apply Rm.skip | apply Rm.skipS)) ?_; try simp only [nf]
      refine WP.loud rfl rfl ?_; refine Op.cl (law_count hst5 hT5 hlg5 hm5 htw5.w.w (by rw [hmk5.2.1]; exact htw5.w.hW) hmk5.1 (by decide : bdT.b ≤ 1099511627776) (by omega)) rfl Tryz.func19 rfl rfl rfl rfl ?_; rintro v J7 L404 hJ7 ⟨n7, z7, tb7, x7, Lm7, Lt7, Ll7, rfl, hc7, rfl, hm7, hT7, hlg7, hw7, hg7_, hi7, hp7, ht7⟩
      try simp only [nf]
      have hb7 := CountsF.bound (f := 99) htw5.w.w (by rw [hmk5.2.1]; exact htw5.w.hW) hmk5.1 (Nat.le_trans (Mx.mu_bd _ _ _ _).2 (by decide)) hc7
      have hmu7 : (m3[i3].z).mu bdT tb5 x5 ≤ 52 := (Mx.mu_bd _ _ _ _).2
      obtain ⟨htw7, he7⟩ := htw5.counts hkz5 (zsOf_at hi5 hkz5) hc7 hb7.1
      refine WP.mv rfl rfl ?_; refine WP.nil ?_; refine WP.sub [(8, _), (9, _), (13, _), (16, _), (22, _), (23, _), (163, _)] ?_ ⟨rfl, rfl, rfl, rfl, rfl, rfl, rfl, trivial⟩
      refine WP.next (WP.seq ?_)
      refine WP.region [0, 1, 2, 3, 4, 5, 6, 7, 8, 9, 10] rfl ?_; iterate 2 refine WP.mv rfl rfl ?_
      refine WP.vl rfl (Yld.indexAddr (i := i3) rfl ty_sl_51 rfl rfl hi3) ?_; refine WP.vl rfl (Yld.ld (v := .pointer (some ⟨m3[i3].m, 0, none⟩)) rfl ty_sc_55 rfl hptr5) ?_; refine WP.loud rfl rfl ?_; refine Op.cl (mx_Got hm7) rfl Tryz.func23 rfl rfl rfl rfl ?_; rintro v J8 Lg7 hJ8 ⟨cs, rfl, hre, hg7⟩
      try simp only [nf]
      obtain ⟨vn, vw, nv, rfl, q1, q2, q3⟩ := id hre.ex
      obtain ⟨An, cn, rfl, _⟩ := q1.slice'
      obtain ⟨Aw, cw, rfl, _⟩ := q3.slice'
      refine WP.mv rfl rfl ?_; iterate 2 refine WP.vl rfl (Yld.extract rfl rfl rfl) ?_
      refine WP.loud rfl rfl ?_; refine Op.alloc rfl rfl rfl ty_zr_50 (fun b24 => ?_)
      refine WP.loud rfl rfl ?_; refine Op.sA rfl rfl ty_sz_50 rfl rfl rfl rfl rfl ?_; refine WP.mv rfl rfl ?_; refine WP.nil ?_; refine WP.sub [(8, _), (9, _), (13, _), (16, _), (22, _), (23, _), (25, _), (163, _)] ?_ ⟨rfl, rfl, rfl, rfl, rfl, rfl, rfl, rfl, trivial⟩
      refine WP.backL (f := Mi.L) (l := m3) i3 hi5 ⟨m3[i3].m, z7, Lg7⟩ zT (by repeat (first | exact Rm.chunk | exact Rm.here | exact Rm.nil0 | apply Rm.skip | apply Rm.skipS)) ?_; try simp only [nf]
      refine WP.next (WP.seq ?_)
      refine WP.region [0, 1, 2, 3, 4, 5, 6, 7, 8, 9, 10, 11, 12, 13] rfl ?_; refine WP.mv rfl rfl ?_; refine WP.vl rfl (Yld.lss rfl rfl rfl false (decide_eq_false (by omega))) ?_; refine WP.mv rfl rfl ?_; refine WP.valG rfl rfl rfl rfl rfl rfl rfl (Yld.move rfl rfl) ?_; refine WP.valG rfl rfl rfl rfl rfl rfl rfl (Yld.gtr rfl rfl rfl false (decide_eq_false (by omega))) ?_; refine WP.vl rfl (Yld.pickF rfl rfl rfl) ?_; refine WP.mv rfl rfl ?_; refine WP.valG rfl rfl rfl rfl rfl rfl rfl (Yld.move rfl rfl) ?_; refine WP.splitG rfl rfl rfl rfl rfl rfl rfl (Yld.neq rfl rfl rfl) (fun h428 => ?_) (fun h428 => ?_)
      ·refine WP.valG rfl rfl rfl rfl rfl rfl rfl (Yld.move rfl rfl) ?_
       refine WP.valG rfl rfl rfl rfl rfl rfl rfl (Yld.move rfl rfl) ?_; refine WP.valG rfl rfl rfl rfl rfl rfl rfl (Yld.neq rfl rfl rfl false (decide_eq_false (by exact fun q => q (he7.resolve_left h428)))) ?_; refine WP.valG rfl rfl rfl rfl rfl rfl rfl (Yld.pickT rfl rfl rfl) ?_; refine WP.vl rfl (Yld.pickF rfl rfl rfl) ?_; refine WP.nil ?_; refine WP.sub [(8, _), (9, _), (13, _), (16, _), (22, _), (23, _), (25, _), (163, _), (192, _)] ?_ ⟨rfl, rfl, rfl, rfl, rfl, rfl, rfl, rfl, rfl, trivial⟩
       refine WP.next ?_; refine WP.condF rfl ?_; refine WP.skip (WP.leave (WP.next ?_))
       refine WP.region [0, 1, 2] rfl ?_; refine WP.mv rfl rfl ?_; refine WP.vl rfl (Yld.add64 rfl rfl rfl (by omega)) ?_; refine WP.mv rfl rfl ?_; refine WP.nil ?_; refine WP.sub [(8, _), (9, _), (13, _), (16, _), (22, _), (23, _), (25, _), (163, _), (192, _)] ?_ ⟨rfl, rfl, rfl, rfl, rfl, rfl, rfl, rfl, rfl, trivial⟩
       exact WP.again ⟨i3 + 1, m3.set i3 ⟨m3[i3].m, z7, Lg7⟩, tb7, x7, J8, Lt7, Ll7⟩ ⟨(show i3 + 1 ≤ i1 by omega), Imm.le_trans hJ6 (Imm.le_trans hJ7 hJ8), (by rw [List.length_set]; exact hmn5), ((miP_set (y := ⟨m3[i3].m, z7, Lg7⟩) hi5 rfl).trans hpp5), (by rw [zsOf_set]; exact htw7), (show tb7.tok ≤ 140737488351300 + 99 * (i3 + 1) by omega), ((hms5.mono hJ7).mono hJ8).set i3 hg7, hT7.mono hJ8, hlg7.mono hJ8⟩ (show i1 - (i3 + 1) < i1 - i3 by omega) ⟨rfl, rfl, rfl, rfl, rfl, trivial⟩ rfl zA
      ·refine WP.valG rfl rfl rfl rfl rfl rfl rfl (Yld.move rfl rfl) ?_
       iterate 2 refine WP.passG rfl rfl rfl rfl rfl rfl rfl rfl ?_
       refine WP.valG rfl rfl rfl rfl rfl rfl rfl (Yld.pickF rfl rfl rfl) ?_; refine WP.vl rfl (Yld.pickF rfl rfl rfl) ?_; refine WP.nil ?_; refine WP.sub [(8, _), (9, _), (13, _), (16, _), (22, _), (23, _), (25, _), (163, _), (192, _)] ?_ ⟨rfl, rfl, rfl, rfl, rfl, rfl, rfl, rfl, rfl, trivial⟩
       refine WP.next ?_; refine WP.condF rfl ?_; refine WP.skip (WP.leave (WP.next ?_))
       refine WP.region [0, 1, 2] rfl ?_; refine WP.mv rfl rfl ?_; refine WP.vl rfl (Yld.add64 rfl rfl rfl (by omega)) ?_; refine WP.mv rfl rfl ?_; refine WP.nil ?_; refine WP.sub [(8, _), (9, _), (13, _), (16, _), (22, _), (23, _), (25, _), (163, _), (192, _)] ?_ ⟨rfl, rfl, rfl, rfl, rfl, rfl, rfl, rfl, rfl, trivial⟩
       exact WP.again ⟨i3 + 1, m3.set i3 ⟨m3[i3].m, z7, Lg7⟩, tb7, x7, J8, Lt7, Ll7⟩ ⟨(show i3 + 1 ≤ i1 by omega), Imm.le_trans hJ6 (Imm.le_trans hJ7 hJ8), (by rw [List.length_set]; exact hmn5), ((miP_set (y := ⟨m3[i3].m, z7, Lg7⟩) hi5 rfl).trans hpp5), (by rw [zsOf_set]; exact htw7), (show tb7.tok ≤ 140737488351300 + 99 * (i3 + 1) by omega), ((hms5.mono hJ7).mono hJ8).set i3 hg7, hT7.mono hJ8, hlg7.mono hJ8⟩ (show i1 - (i3 + 1) < i1 - i3 by omega) ⟨rfl, rfl, rfl, rfl, rfl, trivial⟩ rfl zA
     ·refine WP.nil ?_
      refine WP.sub [(8, _), (9, _), (13, _), (16, _), (22, _), (163, _)] ?_ ⟨rfl, rfl, rfl, rfl, rfl, rfl, trivial⟩
      refine WP.next ?_; refine WP.condF rfl ?_; refine WP.exit (WP.thenE (WP.thenE (WP.hit (WP.next (WP.seq ?_)))))
      refine WP.region [0, 1, 2, 3] rfl ?_; refine WP.mv rfl rfl ?_; refine WP.loud rfl rfl ?_; refine Op.cl (cac_NewFault (s := st) (l := l) (p := 1)) rfl Tryz.func15 rfl rfl rfl rfl ?_; rintro v J LnG - ⟨rfl, mG, fG, rfl, hfG⟩
      try simp only [nf]
      refine WP.loud rfl rfl ?_; refine Op.cl (law_count (z := .fa (fa0 1)) hst5 hT5 hlg5 ⟨fG, hfG⟩ htw5.w.w htw5.w.hW (FaI.new _ _ _ _) (by decide : bdT.b ≤ 1099511627776) (by omega)) rfl Tryz.func19 rfl rfl rfl rfl ?_; rintro v JG LcG hJG ⟨nG, zG, tbG, xxG, LmG, LtG, LlG, rfl, hcG, rfl, hmG, hTG, hlgG, wG, hgG, hiG, hpG, htG⟩
      try simp only [nf]
      have hmuG : (fa0 1).mu bdT.k tb5 ≤ 99 := Nat.le_trans (Nat.le_of_eq (Fa.mu1 rfl)) (by decide)
      have hbG := CountsF.bound (f := 99) (z := .fa (fa0 1)) htw5.w.w htw5.w.hW (FaI.new _ _ _ _) hmuG hcG
      obtain ⟨_, eG, heG, hneG, _⟩ := fa_in (f := 99) htw5.w.w htw5.w.hW (FaI.new _ _ _ _) (by decide) (fun q => absurd rfl q) hmuG hcG
      have hokG := (wG.held htw5.w.hW heG).ok
      rw [W1_1] at hokG
      have hnG := hokG.nds.resolve_left hneG
      have hwsG := hws.mono (Imv.le (Imm.le_trans (Imm.le_trans (Imm.le_trans hJm hJ3a) hJ6) hJG))
      refine WP.mv rfl rfl ?_; refine WP.nil ?_; refine WP.sub [(8, _), (9, _), (13, _), (16, _), (22, _), (26, _), (163, _)] ?_ ⟨rfl, rfl, rfl, rfl, rfl, rfl, rfl, trivial⟩
      refine WP.next (WP.seq ?_)
      refine WP.region [0, 1, 2, 3] rfl ?_; iterate 2 refine WP.mv rfl rfl ?_
      refine WP.loud rfl rfl ?_; refine Op.cl (law_has hTG (hJG.2 _ _ hrg5) heG hwsG (fun q => absurd q hneG) (fun _ => hneG) (fun _ => by rw [hnG]) (fun _ => by rw [hnG]; exact hokG.nf)) rfl Tryz.func18 rfl rfl rfl rfl ?_; rintro v J9 L45 hJ9 ⟨rfl, hT9⟩
      try simp only [nf]
      refine WP.mv rfl rfl ?_; refine WP.nil ?_; refine WP.sub [(8, _), (9, _), (13, _), (16, _), (22, _), (26, _), (27, _), (163, _)] ?_ ⟨rfl, rfl, rfl, rfl, rfl, rfl, rfl, rfl, trivial⟩
      refine WP.next (WP.seq ?_)
      refine WP.region [0, 1, 2, 3, 4, 5] rfl ?_; refine WP.mv rfl rfl ?_; refine WP.vl rfl (Yld.geq rfl rfl rfl true (decide_eq_true (by omega))) ?_; refine WP.mv rfl rfl ?_; refine WP.valG rfl rfl rfl rfl rfl rfl rfl (Yld.move rfl rfl) ?_; refine WP.vl rfl (Yld.pickT rfl rfl rfl) ?_; refine WP.mv rfl rfl ?_; refine WP.nil ?_; refine WP.sub [(6, _), (8, _), (9, _), (13, _), (16, _), (22, _), (26, _), (27, _), (163, _)] ?_ ⟨rfl, rfl, rfl, rfl, rfl, rfl, rfl, rfl, rfl, trivial⟩
      refine WP.next (WP.ret ?_)
      refine WP.fn .ret (.inr rfl) (res1 rfl rfl) [] (Imm.le_trans hJ2J (Imm.le_trans hJ3a (Imm.le_trans hJ6 (Imm.le_trans hJG hJ9)))) ?_; exact ⟨rfl, rfl⟩
  ·refine WP.mv rfl rfl ?_
   iterate 2 refine WP.passG rfl rfl rfl rfl rfl rfl rfl rfl ?_
   refine WP.vl rfl (Yld.pickF rfl rfl rfl) ?_; refine WP.nil ?_; refine WP.sub [(1, _), (2, _), (8, _), (9, _), (13, _), (16, _), (17, _), (113, _)] ?_ ⟨rfl, rfl, rfl, rfl, rfl, rfl, rfl, rfl, trivial⟩
   refine WP.next ?_; refine WP.condF rfl ?_; refine WP.exit (WP.thenE (WP.thenE (WP.hit (WP.next (WP.seq (WP.seq ?_))))))
   have htwi : TwI N tb2 xx_0 (zsOf ms) := ⟨htw, fun z hz => by obtain ⟨y, hy, rfl⟩ := List.mem_map.1 hz; obtain ⟨k, hk⟩ := hkm y hy; rw [hk]; obtain ⟨a1, a2, a3, _⟩ := kindM_new (k := k) (N := N) (tb := tb2) (x := xx_0); exact ⟨a1, a2, a3⟩, by have q := phi_new (tb := tb2) (zs := zsOf ms) (fun z hz => by obtain ⟨y, hy, rfl⟩ := List.mem_map.1 hz; exact hkm y hy) (by unfold zsOf; rw [List.length_map]; omega); have q2 : xx_0.pl = 8 := (by rw [hxx0]; rfl); omega⟩
   have hJ2J := Imm.le_trans hJ1J hJm
   refine WP.region [0] rfl ?_; refine WP.mv rfl rfl ?_; refine WP.nil (WP.next (WP.block ?_))
   refine WP.loop (X := TsX) (fun u : TsX => [(2, .slice Ap ps.length cp), (8, .pointer (some ⟨x, 0, none⟩)), (9, .pointer (some ⟨st, 0, none⟩)), (13, .slice Aws (N.map (·.2)).length cws), (16, .slice Ao i1 co), (19, .int .i64 (u.i : Int))]) (fun u => u.J) (fun u : TsX => u.ms.flatMap Mi.L ++ (Lo ++ (u.Lt ++ (u.Ll ++ F)))) (fun u : TsX => u.i ≤ ps.length ∧ J1'.le u.J ∧ u.ms.length = i1 ∧ miP u.ms = miP ms ∧ TwI N u.tb u.x (zsOf u.ms) ∧ u.tb.tok ≤ 2 + i + u.i ∧ IsMs u.J st l u.ms ∧ IsT u.J t u.tb u.Lt ∧ IsLog u.J l s d (8 + 32 * 60) u.x (Dk.new (8 + 32 * 60)) u.Ll) (fun u => ps.length - u.i) ⟨0, ms, tb2, xx_0, J1', Lt2, Ll⟩ ⟨Nat.zero_le _, Imm.le_refl _, hmn, rfl, htwi, (by show tb2.tok ≤ 2 + i + 0; omega), hms, hT.mono hJm, hlgJ.mono hJm⟩ ⟨rfl, rfl, rfl, rfl, rfl, rfl, trivial⟩ rfl zA ?_
   rintro ⟨i2, m2, tb3, x3, J3, Lt3, Ll3⟩ ⟨hle2, hJ3, hmn3, hpp3, htw3, htk3, hms3, hT3, hlg3⟩; dsimp only at hle2 hJ3 hmn3 hpp3 htw3 htk3 hms3 hT3 hlg3
   try dsimp only
   try simp only [nf]
   refine WP.seq (WP.seq ?_)
   refine WP.region [0, 1, 2, 3, 4, 5, 6, 7, 8] rfl ?_; iterate 2 refine WP.mv rfl rfl ?_
   refine WP.vl rfl (Yld.len rfl ty_sl_48 rfl) ?_; refine WP.split rfl rfl rfl rfl (Yld.lss rfl rfl rfl) (fun hlt2 => ?_) (fun hlt2 => ?_)
   ·refine WP.mv rfl rfl ?_
    refine WP.valG rfl rfl rfl rfl rfl rfl rfl (Yld.move rfl rfl) ?_; refine WP.valG rfl rfl rfl rfl rfl rfl rfl (Yld.len rfl ty_sl_51 rfl) ?_; refine WP.splitG rfl rfl rfl rfl rfl rfl rfl (Yld.gtr rfl rfl rfl) (fun hpos => ?_) (fun hpos => ?_)
    ·have hi2 : i2 < ps.length := by omega
     have hi0 : 0 < i1 := by omega
     obtain ⟨bp, kp, Tp, fp, arp, eAp, hbp0, hcp⟩ := ints_at hps hi2
     have hbp := (Imm.le_trans hJ2J hJ3).2 _ _ hbp0
     obtain ⟨bm, cap, sp, hve, rfl, _, _⟩ := hoo.get hi0
     cases hve
     obtain ⟨hk1, hk2⟩ := tmod_nat (a := ps[i2]) (m := i1) hi0
     try simp only [nf]
     refine WP.vl rfl (Yld.pickT rfl rfl rfl) ?_; refine WP.nil ?_; refine WP.sub [(2, _), (8, _), (9, _), (13, _), (16, _), (19, _), (136, _)] ?_ ⟨rfl, rfl, rfl, rfl, rfl, rfl, rfl, trivial⟩
     refine WP.next ?_; refine WP.condT rfl ?_; refine WP.skip (WP.next (WP.seq (WP.block (WP.seq ?_))))
     refine WP.region [0, 1, 2, 3, 4, 5, 6, 7] rfl ?_; iterate 2 refine WP.mv rfl rfl ?_
     refine WP.vl rfl (Yld.indexAddr (i := i2) rfl ty_sl_48 (congrArg (fun a => some (Value.slice a ps.length cp)) eAp) rfl hi2) ?_; refine WP.vl rfl (Yld.loadC (v := .int .i64 ps[i2]) rfl ty_sc_3 rfl (There.i hbp) hcp) ?_; refine WP.mv rfl rfl ?_; refine WP.vl rfl (Yld.len rfl ty_sl_51 rfl) ?_; refine WP.vl rfl (Yld.remT rfl rfl rfl ⟨by omega, by omega⟩) ?_; refine WP.mv rfl rfl ?_; refine WP.nil ?_; refine WP.sub [(2, _), (8, _), (9, _), (13, _), (16, _), (19, _), (20, _), (136, _)] ?_ ⟨rfl, rfl, rfl, rfl, rfl, rfl, rfl, rfl, trivial⟩
     refine WP.next (WP.seq (WP.seq ?_))
     refine WP.region [0, 1] rfl ?_; refine WP.mv rfl rfl ?_; refine WP.split rfl rfl rfl rfl (Yld.lss rfl rfl rfl) (fun hneg => ?_) (fun hneg => ?_)
     ·obtain ⟨kk, hkv, hkk⟩ := hk2 hneg
      refine WP.nil ?_; refine WP.sub [(2, _), (8, _), (9, _), (13, _), (16, _), (19, _), (20, _), (136, _), (147, _)] ?_ ⟨rfl, rfl, rfl, rfl, rfl, rfl, rfl, rfl, rfl, trivial⟩
      refine WP.next ?_; refine WP.condT rfl ?_; refine WP.region [0, 1, 2] rfl ?_; refine WP.mv rfl rfl ?_; refine WP.vl rfl (Yld.neg64 rfl rfl (by omega)) ?_; rw [hkv]
      refine WP.mv rfl rfl ?_; refine WP.nil ?_; refine WP.sub [(2, _), (8, _), (9, _), (13, _), (16, _), (19, _), (20, _), (136, _), (147, _)] ?_ ⟨rfl, rfl, rfl, rfl, rfl, rfl, rfl, rfl, rfl, trivial⟩
      refine WP.next (WP.seq ?_)
      have hkm3 : kk < m2.length := by omega
      have hkz : kk < (zsOf m2).length := by unfold zsOf; rw [List.length_map]; exact hkm3
      have hmk3 := htw3.ms _ (List.getElem_mem hkz)
      rw [zsOf_at hkm3 hkz] at hmk3
      have hptr := miP_at hkm3 sp
      rw [hpp3] at hptr
      have hst3 := (Imm.le_trans (Imm.le_trans hJ hJm) hJ3).2 _ _ hst_1
      have hrg3 := (Imm.le_trans (Imm.le_trans hJ hJm) hJ3).2 _ _ hrg_1
      have hm3 := hms3 _ (List.getElem_mem hkm3)
      refine WP.region [0, 1, 2, 3, 4] rfl ?_; iterate 2 refine WP.mv rfl rfl ?_
      refine WP.vl rfl (Yld.indexAddr (i := kk) rfl ty_sl_51 rfl rfl hkk) ?_; refine WP.vl rfl (Yld.ld (v := .pointer (some ⟨m2[kk].m, 0, none⟩)) rfl ty_sc_55 rfl hptr) ?_; refine WP.outL (f := Mi.L) (l := m2) kk hkm3 (by repeat (first | exact Rm.chunk | exact Rm.here | exact Rm.nil0 | apply Rm.skip | apply Rm.skipS)) ?_; try simp only [nf]
      refine WP.loud rfl rfl ?_; refine Op.cl (mx_Step hst3 hT3 hlg3 hm3 htw3.w.w (by rw [hmk3.2.1]; exact htw3.w.hW) hmk3.1 (by decide : bdT.b ≤ 1099511627776) (by omega)) rfl Tryz.func17 rfl rfl rfl rfl ?_; rintro v J4 L334 hJ4 ⟨c4, z4, tb4, x4, Lm4, Lt4, Ll4, rfl, hs4, rfl, hm4, hT4, hlg4⟩
      try simp only [nf]
      have htw4 := htw3.step hkz (by rw [zsOf_at hkm3 hkz]; exact hs4)
      obtain ⟨_, _, k3, _⟩ := hs4.step htw3.w.w (by rw [hmk3.2.1]; exact htw3.w.hW) hmk3.1
      refine WP.nil ?_; refine WP.sub [(2, _), (8, _), (9, _), (13, _), (16, _), (19, _), (20, _), (136, _), (147, _)] ?_ ⟨rfl, rfl, rfl, rfl, rfl, rfl, rfl, rfl, rfl, trivial⟩
      refine WP.backL (f := Mi.L) (l := m2) kk hkm3 ⟨m2[kk].m, z4, Lm4⟩ zT (by repeat (first | exact Rm.chunk | exact Rm.here | exact Rm.nil0 | apply Rm.skip | apply Rm.skipS)) ?_; try simp only [nf]
      obtain ⟨e4, he4, hsh4⟩ := htw4.w.sh
      have hok4 := (htw4.w.w.held htw4.w.hW he4).ok
      rw [W1_1] at hok4
      have hws4 := hws.mono (Imv.le (Imm.le_trans hJm (Imm.le_trans hJ3 hJ4)))
      refine WP.next (WP.seq ?_)
      refine WP.region [0, 1, 2, 3] rfl ?_; iterate 2 refine WP.mv rfl rfl ?_
      refine WP.loud rfl rfl ?_; refine Op.cl (law_has hT4 (hJ4.2 _ _ hrg3) he4 hws4 (fun q => by rcases hsh4 with ⟨_, _, q2⟩ | ⟨q2, _⟩; exact absurd (q2 ▸ q) htw4.w.nn; exact q2) (fun q => by cases q) (fun q => by rw [hok4.nds.resolve_left q]) (fun q => by rw [hok4.nds.resolve_left q]; exact hok4.nf)) rfl Tryz.func18 rfl rfl rfl rfl ?_; rintro v J5 L342 hJ5 ⟨rfl, hT5⟩
      try simp only [nf]
      refine WP.mv rfl rfl ?_; refine WP.nil ?_; refine WP.sub [(2, _), (8, _), (9, _), (13, _), (16, _), (19, _), (20, _), (21, _), (136, _), (147, _)] ?_ ⟨rfl, rfl, rfl, rfl, rfl, rfl, rfl, rfl, rfl, rfl, trivial⟩
      refine WP.next (WP.seq ?_)
      refine WP.region [0, 1] rfl ?_; refine WP.mv rfl rfl ?_; refine WP.vl rfl (Yld.not rfl rfl) ?_; refine WP.nil ?_; refine WP.sub [(2, _), (8, _), (9, _), (13, _), (16, _), (19, _), (20, _), (21, _), (136, _), (147, _), (159, _)] ?_ ⟨rfl, rfl, rfl, rfl, rfl, rfl, rfl, rfl, rfl, rfl, rfl, trivial⟩
      refine WP.next ?_; refine WP.condF rfl ?_; refine WP.skip (WP.leave (WP.next ?_))
      refine WP.region [0, 1, 2] rfl ?_; refine WP.mv rfl rfl ?_; refine WP.vl rfl (Yld.add64 rfl rfl rfl (by omega)) ?_; refine WP.mv rfl rfl ?_; refine WP.nil ?_; refine WP.sub [(2, _), (8, _), (9, _), (13, _), (16, _), (19, _), (20, _), (21, _), (136, _), (147, _), (159, _)] ?_ ⟨rfl, rfl, rfl, rfl, rfl, rfl, rfl, rfl, rfl, rfl, rfl, trivial⟩
      exact WP.again ⟨i2 + 1, m2.set kk ⟨m2[kk].m, z4, Lm4⟩, tb4, x4, J5, L342, Ll4⟩ ⟨(show i2 + 1 ≤ ps.length by omega), Imm.le_trans hJ3 (Imm.le_trans hJ4 hJ5), (by rw [List.length_set]; exact hmn3), ((miP_set (y := ⟨m2[kk].m, z4, Lm4⟩) hkm3 rfl).trans hpp3), (by rw [zsOf_set]; exact htw4), (show tb4.tok ≤ 2 + i + (i2 + 1) by omega), ((hms3.mono hJ4).set kk hm4).mono hJ5, hT5, hlg4.mono hJ5⟩ (show ps.length - (i2 + 1) < ps.length - i2 by omega) ⟨rfl, rfl, rfl, rfl, rfl, rfl, trivial⟩ rfl zA
     ·obtain ⟨kk, hkv, hkk⟩ := hk1 hneg
      rw [hkv]
      refine WP.nil ?_; refine WP.sub [(2, _), (8, _), (9, _), (13, _), (16, _), (19, _), (20, _), (136, _), (147, _)] ?_ ⟨rfl, rfl, rfl, rfl, rfl, rfl, rfl, rfl, rfl, trivial⟩
      refine WP.next ?_; refine WP.condF rfl ?_; refine WP.skip (WP.next (WP.seq ?_))
      have hkm3 : kk < m2.length := by omega
      have hkz : kk < (zsOf m2).length := by unfold zsOf; rw [List.length_map]; exact hkm3
      have hmk3 := htw3.ms _ (List.getElem_mem hkz)
      rw [zsOf_at hkm3 hkz] at hmk3
      have hptr := miP_at hkm3 sp
      rw [hpp3] at hptr
      have hst3 := (Imm.le_trans (Imm.le_trans hJ hJm) hJ3).2 _ _ hst_1
      have hrg3 := (Imm.le_trans (Imm.le_trans hJ hJm) hJ3).2 _ _ hrg_1
      have hm3 := hms3 _ (List.getElem_mem hkm3)
      refine WP.region [0, 1, 2, 3, 4] rfl ?_; iterate 2 refine WP.mv rfl rfl ?_
      refine WP.vl rfl (Yld.indexAddr (i := kk) rfl ty_sl_51 rfl rfl hkk) ?_; refine WP.vl rfl (Yld.ld (v := .pointer (some ⟨m2[kk].m, 0, none⟩)) rfl ty_sc_55 rfl hptr) ?_; refine WP.outL (f := Mi.L) (l := m2) kk hkm3 (by repeat (first | exact Rm.chunk | exact Rm.here | exact Rm.nil0 | apply Rm.skip | apply Rm.skipS)) ?_; try simp only [nf]
      refine WP.loud rfl rfl ?_; refine Op.cl (mx_Step hst3 hT3 hlg3 hm3 htw3.w.w (by rw [hmk3.2.1]; exact htw3.w.hW) hmk3.1 (by decide : bdT.b ≤ 1099511627776) (by omega)) rfl Tryz.func17 rfl rfl rfl rfl ?_; rintro v J4 L334 hJ4 ⟨c4, z4, tb4, x4, Lm4, Lt4, Ll4, rfl, hs4, rfl, hm4, hT4, hlg4⟩
      try simp only [nf]
      have htw4 := htw3.step hkz (by rw [zsOf_at hkm3 hkz]; exact hs4)
      obtain ⟨_, _, k3, _⟩ := hs4.step htw3.w.w (by rw [hmk3.2.1]; exact htw3.w.hW) hmk3.1
      refine WP.nil ?_; refine WP.sub [(2, _), (8, _), (9, _), (13, _), (16, _), (19, _), (20, _), (136, _), (147, _)] ?_ ⟨rfl, rfl, rfl, rfl, rfl, rfl, rfl, rfl, rfl, trivial⟩
      refine WP.backL (f := Mi.L) (l := m2) kk hkm3 ⟨m2[kk].m, z4, Lm4⟩ zT (by repeat (first | exact Rm.chunk | exact Rm.here | exact Rm.nil0 | apply Rm.skip | apply Rm.skipS)) ?_; try simp only [nf]
      obtain ⟨e4, he4, hsh4⟩ := htw4.w.sh
      have hok4 := (htw4.w.w.held htw4.w.hW he4).ok
      rw [W1_1] at hok4
      have hws4 := hws.mono (Imv.le (Imm.le_trans hJm (Imm.le_trans hJ3 hJ4)))
      refine WP.next (WP.seq ?_)
      refine WP.region [0, 1, 2, 3] rfl ?_; iterate 2 refine WP.mv rfl rfl ?_
      refine WP.loud rfl rfl ?_; refine Op.cl (law_has hT4 (hJ4.2 _ _ hrg3) he4 hws4 (fun q => by rcases hsh4 with ⟨_, _, q2⟩ | ⟨q2, _⟩; exact absurd (q2 ▸ q) htw4.w.nn; exact q2) (fun q => by cases q) (fun q => by rw [hok4.nds.resolve_left q]) (fun q => by rw [hok4.nds.resolve_left q]; exact hok4.nf)) rfl Tryz.func18 rfl rfl rfl rfl ?_; rintro v J5 L342 hJ5 ⟨rfl, hT5⟩
      try simp only [nf]
      refine WP.mv rfl rfl ?_; refine WP.nil ?_; refine WP.sub [(2, _), (8, _), (9, _), (13, _), (16, _), (19, _), (20, _), (21, _), (136, _), (147, _)] ?_ ⟨rfl, rfl, rfl, rfl, rfl, rfl, rfl, rfl, rfl, rfl, trivial⟩
      refine WP.next (WP.seq ?_)
      refine WP.region [0, 1] rfl ?_; refine WP.mv rfl rfl ?_; refine WP.vl rfl (Yld.not rfl rfl) ?_; refine WP.nil ?_; refine WP.sub [(2, _), (8, _), (9, _), (13, _), (16, _), (19, _), (20, _), (21, _), (136, _), (147, _), (159, _)] ?_ ⟨rfl, rfl, rfl, rfl, rfl, rfl, rfl, rfl, rfl, rfl, rfl, trivial⟩
      refine WP.next ?_; refine WP.condF rfl ?_; refine WP.skip (WP.leave (WP.next ?_))
      refine WP.region [0, 1, 2] rfl ?_; refine WP.mv rfl rfl ?_; refine WP.vl rfl (Yld.add64 rfl rfl rfl (by omega)) ?_; refine WP.mv rfl rfl ?_; refine WP.nil ?_; refine WP.sub [(2, _), (8, _), (9, _), (13, _), (16, _), (19, _), (20, _), (21, _), (136, _), (147, _), (159, _)] ?_ ⟨rfl, rfl, rfl, rfl, rfl, rfl, rfl, rfl, rfl, rfl, rfl, trivial⟩
      exact WP.again ⟨i2 + 1, m2.set kk ⟨m2[kk].m, z4, Lm4⟩, tb4, x4, J5, L342, Ll4⟩ ⟨(show i2 + 1 ≤ ps.length by omega), Imm.le_trans hJ3 (Imm.le_trans hJ4 hJ5), (by rw [List.length_set]; exact hmn3), ((miP_set (y := ⟨m2[kk].m, z4, Lm4⟩) hkm3 rfl).trans hpp3), (by rw [zsOf_set]; exact htw4), (show tb4.tok ≤ 2 + i + (i2 + 1) by omega), ((hms3.mono hJ4).set kk hm4).mono hJ5, hT5, hlg4.mono hJ5⟩ (show ps.length - (i2 + 1) < ps.length - i2 by omega) ⟨rfl, rfl, rfl, rfl, rfl, rfl, trivial⟩ rfl zA
    ·refine WP.vl rfl (Yld.pickT rfl rfl rfl) ?_
     refine WP.nil ?_; refine WP.sub [(2, _), (8, _), (9, _), (13, _), (16, _), (19, _), (136, _)] ?_ ⟨rfl, rfl, rfl, rfl, rfl, rfl, rfl, trivial⟩
     refine WP.next ?_; refine WP.condF rfl ?_; refine WP.exit (WP.thenE (WP.thenE (WP.hit (WP.next (WP.seq (WP.seq ?_))))))
     refine WP.region [0] rfl ?_; refine WP.mv rfl rfl ?_; refine WP.nil (WP.next (WP.block ?_))
     refine WP.loop (X := TsX) (fun u : TsX => [(8, .pointer (some ⟨x, 0, none⟩)), (9, .pointer (some ⟨st, 0, none⟩)), (13, .slice Aws (N.map (·.2)).length cws), (16, .slice Ao i1 co), (22, .int .i64 (u.i : Int))]) (fun u => u.J) (fun u : TsX => u.ms.flatMap Mi.L ++ (Lo ++ (u.Lt ++ (u.Ll ++ F)))) (fun u : TsX => u.i ≤ i1 ∧ J3.le u.J ∧ u.ms.length = i1 ∧ miP u.ms = miP ms ∧ TwI N u.tb u.x (zsOf u.ms) ∧ u.tb.tok ≤ 140737488351300 + 99 * u.i ∧ IsMs u.J st l u.ms ∧ IsT u.J t u.tb u.Lt ∧ IsLog u.J l s d (8 + 32 * 60) u.x (Dk.new (8 + 32 * 60)) u.Ll) (fun u => i1 - u.i) ⟨0, m2, tb3, x3, J3, Lt3, Ll3⟩ ⟨Nat.zero_le _, Imm.le_refl _, hmn3, hpp3, htw3, (by show tb3.tok ≤ 140737488351300 + 99 * 0; omega), hms3, hT3, hlg3⟩ ⟨rfl, rfl, rfl, rfl, rfl, trivial⟩ rfl zA ?_
     have hJ3a := hJ3; rintro ⟨i3, m3, tb5, x5, J6, Lt5, Ll5⟩ ⟨hle3, hJ6, hmn5, hpp5, htw5, htk5, hms5, hT5, hlg5⟩; dsimp only at hle3 hJ6 hmn5 hpp5 htw5 htk5 hms5 hT5 hlg5; have hst5 := (Imm.le_trans (Imm.le_trans (Imm.le_trans hJ hJm) hJ3a) hJ6).2 _ _ hst_1; have hrg5 := (Imm.le_trans (Imm.le_trans (Imm.le_trans hJ hJm) hJ3a) hJ6).2 _ _ hrg_1
     try dsimp only
     try simp only [nf]
     refine WP.seq (WP.seq ?_)
     refine WP.region [0, 1, 2, 3] rfl ?_; iterate 2 refine WP.mv rfl rfl ?_
     refine WP.vl rfl (Yld.len rfl ty_sl_51 rfl) ?_; refine WP.split rfl rfl rfl rfl (Yld.lss rfl rfl rfl) (fun hlt3 => ?_) (fun hlt3 => ?_)
     ·have hi3 : i3 < i1 := by omega
      have hi5 : i3 < m3.length := by omega
      obtain ⟨bm, cap, sp, hve, rfl, _, _⟩ := hoo.get (by omega)
      cases hve
      try simp only [nf]
      have hkz5 : i3 < (zsOf m3).length := by unfold zsOf; rw [List.length_map]; exact hi5
      have hmk5 := htw5.ms _ (List.getElem_mem hkz5)
      rw [zsOf_at hi5 hkz5] at hmk5
      have hptr5 := miP_at hi5 sp
      rw [hpp5] at hptr5
      have hm5 := hms5 _ (List.getElem_mem hi5)
      refine WP.nil ?_; refine WP.sub [(8, _), (9, _), (13, _), (16, _), (22, _), (163, _)] ?_ ⟨rfl, rfl, rfl, rfl, rfl, rfl, trivial⟩
      refine WP.next ?_; refine WP.condT rfl ?_; refine WP.skip (WP.next (WP.seq (WP.block (WP.seq ?_))))
      refine WP.region [0, 1, 2, 3, 4, 5] rfl ?_; iterate 2 refine WP.mv rfl rfl ?_
      refine WP.vl rfl (Yld.indexAddr (i := i3) rfl ty_sl_51 rfl rfl hi3) ?_; refine WP.vl rfl (Yld.ld (v := .pointer (some ⟨m3[i3].m, 0, none⟩)) rfl ty_sc_55 rfl hptr5) ?_; refine WP.outL (f := Mi.L) (l := m3) i3 hi5 (by repeat (first | exact Rm.chunk | exact Rm.here | exact Rm.nil0 | apply Rm.skip | apply Rm.skipS)) ?_; try simp only [nf]
      refine WP.loud rfl rfl ?_; refine Op.cl (law_count hst5 hT5 hlg5 hm5 htw5.w.w (by rw [hmk5.2.1]; exact htw5.w.hW) hmk5.1 (by decide : bdT.b ≤ 1099511627776) (by omega)) rfl Tryz.func19 rfl rfl rfl rfl ?_; rintro v J7 L404 hJ7 ⟨n7, z7, tb7, x7, Lm7, Lt7, Ll7, rfl, hc7, rfl, hm7, hT7, hlg7, hw7, hg7_, hi7, hp7, ht7⟩
      try simp only [nf]
      have hb7 := CountsF.bound (f := 99) htw5.w.w (by rw [hmk5.2.1]; exact htw5.w.hW) hmk5.1 (Nat.le_trans (Mx.mu_bd _ _ _ _).2 (by decide)) hc7
      have hmu7 : (m3[i3].z).mu bdT tb5 x5 ≤ 52 := (Mx.mu_bd _ _ _ _).2
      obtain ⟨htw7, he7⟩ := htw5.counts hkz5 (zsOf_at hi5 hkz5) hc7 hb7.1
      refine WP.mv rfl rfl ?_; refine WP.nil ?_; refine WP.sub [(8, _), (9, _), (13, _), (16, _), (22, _), (23, _), (163, _)] ?_ ⟨rfl, rfl, rfl, rfl, rfl, rfl, rfl, trivial⟩
      refine WP.next (WP.seq ?_)
      refine WP.region [0, 1, 2, 3, 4, 5, 6, 7, 8, 9, 10] rfl ?_; iterate 2 refine WP.mv rfl rfl ?_
      refine WP.vl rfl (Yld.indexAddr (i := i3) rfl ty_sl_51 rfl rfl hi3) ?_; refine WP.vl rfl (Yld.ld (v := .pointer (some ⟨m3[i3].m, 0, none⟩)) rfl ty_sc_55 rfl hptr5) ?_; refine WP.loud rfl rfl ?_; refine Op.cl (mx_Got hm7) rfl Tryz.func23 rfl rfl rfl rfl ?_; rintro v J8 Lg7 hJ8 ⟨cs, rfl, hre, hg7⟩
      try simp only [nf]
      obtain ⟨vn, vw, nv, rfl, q1, q2, q3⟩ := id hre.ex
      obtain ⟨An, cn, rfl, _⟩ := q1.slice'
      obtain ⟨Aw, cw, rfl, _⟩ := q3.slice'
      refine WP.mv rfl rfl ?_; iterate 2 refine WP.vl rfl (Yld.extract rfl rfl rfl) ?_
      refine WP.loud rfl rfl ?_; refine Op.alloc rfl rfl rfl ty_zr_50 (fun b24 => ?_)
      refine WP.loud rfl rfl ?_; refine Op.sA rfl rfl ty_sz_50 rfl rfl rfl rfl rfl ?_; refine WP.mv rfl rfl ?_; refine WP.nil ?_; refine WP.sub [(8, _), (9, _), (13, _), (16, _), (22, _), (23, _), (25, _), (163, _)] ?_ ⟨rfl, rfl, rfl, rfl, rfl, rfl, rfl, rfl, trivial⟩
      refine WP.backL (f := Mi.L) (l := m3) i3 hi5 ⟨m3[i3].m, z7, Lg7⟩ zT (by repeat (first | exact Rm.chunk | exact Rm.here | exact Rm.nil0 | apply Rm.skip | apply Rm.skipS)) ?_; try simp only [nf]
      refine WP.next (WP.seq ?_)
      refine WP.region [0, 1, 2, 3, 4, 5, 6, 7, 8, 9, 10, 11, 12, 13] rfl ?_; refine WP.mv rfl rfl ?_; refine WP.vl rfl (Yld.lss rfl rfl rfl false (decide_eq_false (by omega))) ?_; refine WP.mv rfl rfl ?_; refine WP.valG rfl rfl rfl rfl rfl rfl rfl (Yld.move rfl rfl) ?_; refine WP.valG rfl rfl rfl rfl rfl rfl rfl (Yld.gtr rfl rfl rfl false (decide_eq_false (by omega))) ?_; refine WP.vl rfl (Yld.pickF rfl rfl rfl) ?_; refine WP.mv rfl rfl ?_; refine WP.valG rfl rfl rfl rfl rfl rfl rfl (Yld.move rfl rfl) ?_; refine WP.splitG rfl rfl rfl rfl rfl rfl rfl (Yld.neq rfl rfl rfl) (fun h428 => ?_) (fun h428 => ?_)
      ·refine WP.valG rfl rfl rfl rfl rfl rfl rfl (Yld.move rfl rfl) ?_
       refine WP.valG rfl rfl rfl rfl rfl rfl rfl (Yld.move rfl rfl) ?_; refine WP.valG rfl rfl rfl rfl rfl rfl rfl (Yld.neq rfl rfl rfl false (decide_eq_false (by exact fun q => q (he7.resolve_left h428)))) ?_; refine WP.valG rfl rfl rfl rfl rfl rfl rfl (Yld.pickT rfl rfl rfl) ?_; refine WP.vl rfl (Yld.pickF rfl rfl rfl) ?_; refine WP.nil ?_; refine WP.sub [(8, _), (9, _), (13, _), (16, _), (22, _), (23, _), (25, _), (163, _), (192, _)] ?_ ⟨rfl, rfl, rfl, rfl, rfl, rfl, rfl, rfl, rfl, trivial⟩
       refine WP.next ?_; refine WP.condF rfl ?_; refine WP.skip (WP.leave (WP.next ?_))
       refine WP.region [0, 1, 2] rfl ?_; refine WP.mv rfl rfl ?_; refine WP.vl rfl (Yld.add64 rfl rfl rfl (by omega)) ?_; refine WP.mv rfl rfl ?_; refine WP.nil ?_; refine WP.sub [(8, _), (9, _), (13, _), (16, _), (22, _), (23, _), (25, _), (163, _), (192, _)] ?_ ⟨rfl, rfl, rfl, rfl, rfl, rfl, rfl, rfl, rfl, trivial⟩
       exact WP.again ⟨i3 + 1, m3.set i3 ⟨m3[i3].m, z7, Lg7⟩, tb7, x7, J8, Lt7, Ll7⟩ ⟨(show i3 + 1 ≤ i1 by omega), Imm.le_trans hJ6 (Imm.le_trans hJ7 hJ8), (by rw [List.length_set]; exact hmn5), ((miP_set (y := ⟨m3[i3].m, z7, Lg7⟩) hi5 rfl).trans hpp5), (by rw [zsOf_set]; exact htw7), (show tb7.tok ≤ 140737488351300 + 99 * (i3 + 1) by omega), ((hms5.mono hJ7).mono hJ8).set i3 hg7, hT7.mono hJ8, hlg7.mono hJ8⟩ (show i1 - (i3 + 1) < i1 - i3 by omega) ⟨rfl, rfl, rfl, rfl, rfl, trivial⟩ rfl zA
      ·refine WP.valG rfl rfl rfl rfl rfl rfl rfl (Yld.move rfl rfl) ?_
       iterate 2 refine WP.passG rfl rfl rfl rfl rfl rfl rfl rfl ?_
       refine WP.valG rfl rfl rfl rfl rfl rfl rfl (Yld.pickF rfl rfl rfl) ?_; refine WP.vl rfl (Yld.pickF rfl rfl rfl) ?_; refine WP.nil ?_; refine WP.sub [(8, _), (9, _), (13, _), (16, _), (22, _), (23, _), (25, _), (163, _), (192, _)] ?_ ⟨rfl, rfl, rfl, rfl, rfl, rfl, rfl, rfl, rfl, trivial⟩
       refine WP.next ?_; refine WP.condF rfl ?_; refine WP.skip (WP.leave (WP.next ?_))
       refine WP.region [0, 1, 2] rfl ?_; refine WP.mv rfl rfl ?_; refine WP.vl rfl (Yld.add64 rfl rfl rfl (by omega)) ?_; refine WP.mv rfl rfl ?_; refine WP.nil ?_; refine WP.sub [(8, _), (9, _), (13, _), (16, _), (22, _), (23, _), (25, _), (163, _), (192, _)] ?_ ⟨rfl, rfl, rfl, rfl, rfl, rfl, rfl, rfl, rfl, trivial⟩
       exact WP.again ⟨i3 + 1, m3.set i3 ⟨m3[i3].m, z7, Lg7⟩, tb7, x7, J8, Lt7, Ll7⟩ ⟨(show i3 + 1 ≤ i1 by omega), Imm.le_trans hJ6 (Imm.le_trans hJ7 hJ8), (by rw [List.length_set]; exact hmn5), ((miP_set (y := ⟨m3[i3].m, z7, Lg7⟩) hi5 rfl).trans hpp5), (by rw [zsOf_set]; exact htw7), (show tb7.tok ≤ 140737488351300 + 99 * (i3 + 1) by omega), ((hms5.mono hJ7).mono hJ8).set i3 hg7, hT7.mono hJ8, hlg7.mono hJ8⟩ (show i1 - (i3 + 1) < i1 - i3 by omega) ⟨rfl, rfl, rfl, rfl, rfl, trivial⟩ rfl zA
     ·refine WP.nil ?_
      refine WP.sub [(8, _), (9, _), (13, _), (16, _), (22, _), (163, _)] ?_ ⟨rfl, rfl, rfl, rfl, rfl, rfl, trivial⟩
      refine WP.next ?_; refine WP.condF rfl ?_; refine WP.exit (WP.thenE (WP.thenE (WP.hit (WP.next (WP.seq ?_)))))
      refine WP.region [0, 1, 2, 3] rfl ?_; refine WP.mv rfl rfl ?_; refine WP.loud rfl rfl ?_; refine Op.cl (cac_NewFault (s := st) (l := l) (p := 1)) rfl Tryz.func15 rfl rfl rfl rfl ?_; rintro v J LnG - ⟨rfl, mG, fG, rfl, hfG⟩
      try simp only [nf]
      refine WP.loud rfl rfl ?_; refine Op.cl (law_count (z := .fa (fa0 1)) hst5 hT5 hlg5 ⟨fG, hfG⟩ htw5.w.w htw5.w.hW (FaI.new _ _ _ _) (by decide : bdT.b ≤ 1099511627776) (by omega)) rfl Tryz.func19 rfl rfl rfl rfl ?_; rintro v JG LcG hJG ⟨nG, zG, tbG, xxG, LmG, LtG, LlG, rfl, hcG, rfl, hmG, hTG, hlgG, wG, hgG, hiG, hpG, htG⟩
      try simp only [nf]
      have hmuG : (fa0 1).mu bdT.k tb5 ≤ 99 := Nat.le_trans (Nat.le_of_eq (Fa.mu1 rfl)) (by decide)
      have hbG := CountsF.bound (f := 99) (z := .fa (fa0 1)) htw5.w.w htw5.w.hW (FaI.new _ _ _ _) hmuG hcG
      obtain ⟨_, eG, heG, hneG, _⟩ := fa_in (f := 99) htw5.w.w htw5.w.hW (FaI.new _ _ _ _) (by decide) (fun q => absurd rfl q) hmuG hcG
      have hokG := (wG.held htw5.w.hW heG).ok
      rw [W1_1] at hokG
      have hnG := hokG.nds.resolve_left hneG
      have hwsG := hws.mono (Imv.le (Imm.le_trans (Imm.le_trans (Imm.le_trans hJm hJ3a) hJ6) hJG))
      refine WP.mv rfl rfl ?_; refine WP.nil ?_; refine WP.sub [(8, _), (9, _), (13, _), (16, _), (22, _), (26, _), (163, _)] ?_ ⟨rfl, rfl, rfl, rfl, rfl, rfl, rfl, trivial⟩
      refine WP.next (WP.seq ?_)
      refine WP.region [0, 1, 2, 3] rfl ?_; iterate 2 refine WP.mv rfl rfl ?_
      refine WP.loud rfl rfl ?_; refine Op.cl (law_has hTG (hJG.2 _ _ hrg5) heG hwsG (fun q => absurd q hneG) (fun _ => hneG) (fun _ => by rw [hnG]) (fun _ => by rw [hnG]; exact hokG.nf)) rfl Tryz.func18 rfl rfl rfl rfl ?_; rintro v J9 L45 hJ9 ⟨rfl, hT9⟩
      try simp only [nf]
      refine WP.mv rfl rfl ?_; refine WP.nil ?_; refine WP.sub [(8, _), (9, _), (13, _), (16, _), (22, _), (26, _), (27, _), (163, _)] ?_ ⟨rfl, rfl, rfl, rfl, rfl, rfl, rfl, rfl, trivial⟩
      refine WP.next (WP.seq ?_)
      refine WP.region [0, 1, 2, 3, 4, 5] rfl ?_; refine WP.mv rfl rfl ?_; refine WP.vl rfl (Yld.geq rfl rfl rfl true (decide_eq_true (by omega))) ?_; refine WP.mv rfl rfl ?_; refine WP.valG rfl rfl rfl rfl rfl rfl rfl (Yld.move rfl rfl) ?_; refine WP.vl rfl (Yld.pickT rfl rfl rfl) ?_; refine WP.mv rfl rfl ?_; refine WP.nil ?_; refine WP.sub [(6, _), (8, _), (9, _), (13, _), (16, _), (22, _), (26, _), (27, _), (163, _)] ?_ ⟨rfl, rfl, rfl, rfl, rfl, rfl, rfl, rfl, rfl, trivial⟩
      refine WP.next (WP.ret ?_)
      refine WP.fn .ret (.inr rfl) (res1 rfl rfl) [] (Imm.le_trans hJ2J (Imm.le_trans hJ3a (Imm.le_trans hJ6 (Imm.le_trans hJG hJ9)))) ?_; exact ⟨rfl, rfl⟩
   ·refine WP.mv rfl rfl ?_
    iterate 3 refine WP.passG rfl rfl rfl rfl rfl rfl rfl rfl ?_
    refine WP.vl rfl (Yld.pickF rfl rfl rfl) ?_; refine WP.nil ?_; refine WP.sub [(2, _), (8, _), (9, _), (13, _), (16, _), (19, _), (136, _)] ?_ ⟨rfl, rfl, rfl, rfl, rfl, rfl, rfl, trivial⟩
    refine WP.next ?_; refine WP.condF rfl ?_; refine WP.exit (WP.thenE (WP.thenE (WP.hit (WP.next (WP.seq (WP.seq ?_))))))
    refine WP.region [0] rfl ?_; refine WP.mv rfl rfl ?_; refine WP.nil (WP.next (WP.block ?_))
    refine WP.loop (X := TsX) (fun u : TsX => [(8, .pointer (some ⟨x, 0, none⟩)), (9, .pointer (some ⟨st, 0, none⟩)), (13, .slice Aws (N.map (·.2)).length cws), (16, .slice Ao i1 co), (22, .int .i64 (u.i : Int))]) (fun u => u.J) (fun u : TsX => u.ms.flatMap Mi.L ++ (Lo ++ (u.Lt ++ (u.Ll ++ F)))) (fun u : TsX => u.i ≤ i1 ∧ J3.le u.J ∧ u.ms.length = i1 ∧ miP u.ms = miP ms ∧ TwI N u.tb u.x (zsOf u.ms) ∧ u.tb.tok ≤ 140737488351300 + 99 * u.i ∧ IsMs u.J st l u.ms ∧ IsT u.J t u.tb u.Lt ∧ IsLog u.J l s d (8 + 32 * 60) u.x (Dk.new (8 + 32 * 60)) u.Ll) (fun u => i1 - u.i) ⟨0, m2, tb3, x3, J3, Lt3, Ll3⟩ ⟨Nat.zero_le _, Imm.le_refl _, hmn3, hpp3, htw3, (by show tb3.tok ≤ 140737488351300 + 99 * 0; omega), hms3, hT3, hlg3⟩ ⟨rfl, rfl, rfl, rfl, rfl, trivial⟩ rfl zA ?_
    have hJ3a := hJ3; rintro ⟨i3, m3, tb5, x5, J6, Lt5, Ll5⟩ ⟨hle3, hJ6, hmn5, hpp5, htw5, htk5, hms5, hT5, hlg5⟩; dsimp only at hle3 hJ6 hmn5 hpp5 htw5 htk5 hms5 hT5 hlg5; have hst5 := (Imm.le_trans (Imm.le_trans (Imm.le_trans hJ hJm) hJ3a) hJ6).2 _ _ hst_1; have hrg5 := (Imm.le_trans (Imm.le_trans (Imm.le_trans hJ hJm) hJ3a) hJ6).2 _ _ hrg_1
    try dsimp only
    try simp only [nf]
    refine WP.seq (WP.seq ?_)
    refine WP.region [0, 1, 2, 3] rfl ?_; iterate 2 refine WP.mv rfl rfl ?_
    refine WP.vl rfl (Yld.len rfl ty_sl_51 rfl) ?_; refine WP.split rfl rfl rfl rfl (Yld.lss rfl rfl rfl) (fun hlt3 => ?_) (fun hlt3 => ?_)
    ·have hi3 : i3 < i1 := by omega
     have hi5 : i3 < m3.length := by omega
     obtain ⟨bm, cap, sp, hve, rfl, _, _⟩ := hoo.get (by omega)
     cases hve
     try simp only [nf]
     have hkz5 : i3 < (zsOf m3).length := by unfold zsOf; rw [List.length_map]; exact hi5
     have hmk5 := htw5.ms _ (List.getElem_mem hkz5)
     rw [zsOf_at hi5 hkz5] at hmk5
     have hptr5 := miP_at hi5 sp
     rw [hpp5] at hptr5
     have hm5 := hms5 _ (List.getElem_mem hi5)
     refine WP.nil ?_; refine WP.sub [(8, _), (9, _), (13, _), (16, _), (22, _), (163, _)] ?_ ⟨rfl, rfl, rfl, rfl, rfl, rfl, trivial⟩
     refine WP.next ?_; refine WP.condT rfl ?_; refine WP.skip (WP.next (WP.seq (WP.block (WP.seq ?_))))
     refine WP.region [0, 1, 2, 3, 4, 5] rfl ?_; iterate 2 refine WP.mv rfl rfl ?_
     refine WP.vl rfl (Yld.indexAddr (i := i3) rfl ty_sl_51 rfl rfl hi3) ?_; refine WP.vl rfl (Yld.ld (v := .pointer (some ⟨m3[i3].m, 0, none⟩)) rfl ty_sc_55 rfl hptr5) ?_; refine WP.outL (f := Mi.L) (l := m3) i3 hi5 (by repeat (first | exact Rm.chunk | exact Rm.here | exact Rm.nil0 | apply Rm.skip | apply Rm.skipS)) ?_; try simp only [nf]
     refine WP.loud rfl rfl ?_; refine Op.cl (law_count hst5 hT5 hlg5 hm5 htw5.w.w (by rw [hmk5.2.1]; exact htw5.w.hW) hmk5.1 (by decide : bdT.b ≤ 1099511627776) (by omega)) rfl Tryz.func19 rfl rfl rfl rfl ?_; rintro v J7 L404 hJ7 ⟨n7, z7, tb7, x7, Lm7, Lt7, Ll7, rfl, hc7, rfl, hm7, hT7, hlg7, hw7, hg7_, hi7, hp7, ht7⟩
     try simp only [nf]
     have hb7 := CountsF.bound (f := 99) htw5.w.w (by rw [hmk5.2.1]; exact htw5.w.hW) hmk5.1 (Nat.le_trans (Mx.mu_bd _ _ _ _).2 (by decide)) hc7
     have hmu7 : (m3[i3].z).mu bdT tb5 x5 ≤ 52 := (Mx.mu_bd _ _ _ _).2
     obtain ⟨htw7, he7⟩ := htw5.counts hkz5 (zsOf_at hi5 hkz5) hc7 hb7.1
     refine WP.mv rfl rfl ?_; refine WP.nil ?_; refine WP.sub [(8, _), (9, _), (13, _), (16, _), (22, _), (23, _), (163, _)] ?_ ⟨rfl, rfl, rfl, rfl, rfl, rfl, rfl, trivial⟩
     refine WP.next (WP.seq ?_)
     refine WP.region [0, 1, 2, 3, 4, 5, 6, 7, 8, 9, 10] rfl ?_; iterate 2 refine WP.mv rfl rfl ?_
     refine WP.vl rfl (Yld.indexAddr (i := i3) rfl ty_sl_51 rfl rfl hi3) ?_; refine WP.vl rfl (Yld.ld (v := .pointer (some ⟨m3[i3].m, 0, none⟩)) rfl ty_sc_55 rfl hptr5) ?_; refine WP.loud rfl rfl ?_; refine Op.cl (mx_Got hm7) rfl Tryz.func23 rfl rfl rfl rfl ?_; rintro v J8 Lg7 hJ8 ⟨cs, rfl, hre, hg7⟩
     try simp only [nf]
     obtain ⟨vn, vw, nv, rfl, q1, q2, q3⟩ := id hre.ex
     obtain ⟨An, cn, rfl, _⟩ := q1.slice'
     obtain ⟨Aw, cw, rfl, _⟩ := q3.slice'
     refine WP.mv rfl rfl ?_; iterate 2 refine WP.vl rfl (Yld.extract rfl rfl rfl) ?_
     refine WP.loud rfl rfl ?_; refine Op.alloc rfl rfl rfl ty_zr_50 (fun b24 => ?_)
     refine WP.loud rfl rfl ?_; refine Op.sA rfl rfl ty_sz_50 rfl rfl rfl rfl rfl ?_; refine WP.mv rfl rfl ?_; refine WP.nil ?_; refine WP.sub [(8, _), (9, _), (13, _), (16, _), (22, _), (23, _), (25, _), (163, _)] ?_ ⟨rfl, rfl, rfl, rfl, rfl, rfl, rfl, rfl, trivial⟩
     refine WP.backL (f := Mi.L) (l := m3) i3 hi5 ⟨m3[i3].m, z7, Lg7⟩ zT (by repeat (first | exact Rm.chunk | exact Rm.here | exact Rm.nil0 | apply Rm.skip | apply Rm.skipS)) ?_; try simp only [nf]
     refine WP.next (WP.seq ?_)
     refine WP.region [0, 1, 2, 3, 4, 5, 6, 7, 8, 9, 10, 11, 12, 13] rfl ?_; refine WP.mv rfl rfl ?_; refine WP.vl rfl (Yld.lss rfl rfl rfl false (decide_eq_false (by omega))) ?_; refine WP.mv rfl rfl ?_; refine WP.valG rfl rfl rfl rfl rfl rfl rfl (Yld.move rfl rfl) ?_; refine WP.valG rfl rfl rfl rfl rfl rfl rfl (Yld.gtr rfl rfl rfl false (decide_eq_false (by omega))) ?_; refine WP.vl rfl (Yld.pickF rfl rfl rfl) ?_; refine WP.mv rfl rfl ?_; refine WP.valG rfl rfl rfl rfl rfl rfl rfl (Yld.move rfl rfl) ?_; refine WP.splitG rfl rfl rfl rfl rfl rfl rfl (Yld.neq rfl rfl rfl) (fun h428 => ?_) (fun h428 => ?_)
     ·refine WP.valG rfl rfl rfl rfl rfl rfl rfl (Yld.move rfl rfl) ?_
      refine WP.valG rfl rfl rfl rfl rfl rfl rfl (Yld.move rfl rfl) ?_; refine WP.valG rfl rfl rfl rfl rfl rfl rfl (Yld.neq rfl rfl rfl false (decide_eq_false (by exact fun q => q (he7.resolve_left h428)))) ?_; refine WP.valG rfl rfl rfl rfl rfl rfl rfl (Yld.pickT rfl rfl rfl) ?_; refine WP.vl rfl (Yld.pickF rfl rfl rfl) ?_; refine WP.nil ?_; refine WP.sub [(8, _), (9, _), (13, _), (16, _), (22, _), (23, _), (25, _), (163, _), (192, _)] ?_ ⟨rfl, rfl, rfl, rfl, rfl, rfl, rfl, rfl, rfl, trivial⟩
      refine WP.next ?_; refine WP.condF rfl ?_; refine WP.skip (WP.leave (WP.next ?_))
      refine WP.region [0, 1, 2] rfl ?_; refine WP.mv rfl rfl ?_; refine WP.vl rfl (Yld.add64 rfl rfl rfl (by omega)) ?_; refine WP.mv rfl rfl ?_; refine WP.nil ?_; refine WP.sub [(8, _), (9, _), (13, _), (16, _), (22, _), (23, _), (25, _), (163, _), (192, _)] ?_ ⟨rfl, rfl, rfl, rfl, rfl, rfl, rfl, rfl, rfl, trivial⟩
      exact WP.again ⟨i3 + 1, m3.set i3 ⟨m3[i3].m, z7, Lg7⟩, tb7, x7, J8, Lt7, Ll7⟩ ⟨(show i3 + 1 ≤ i1 by omega), Imm.le_trans hJ6 (Imm.le_trans hJ7 hJ8), (by rw [List.length_set]; exact hmn5), ((miP_set (y := ⟨m3[i3].m, z7, Lg7⟩) hi5 rfl).trans hpp5), (by rw [zsOf_set]; exact htw7), (show tb7.tok ≤ 140737488351300 + 99 * (i3 + 1) by omega), ((hms5.mono hJ7).mono hJ8).set i3 hg7, hT7.mono hJ8, hlg7.mono hJ8⟩ (show i1 - (i3 + 1) < i1 - i3 by omega) ⟨rfl, rfl, rfl, rfl, rfl, trivial⟩ rfl zA
     ·refine WP.valG rfl rfl rfl rfl rfl rfl rfl (Yld.move rfl rfl) ?_
      iterate 2 refine WP.passG rfl rfl rfl rfl rfl rfl rfl rfl ?_
      refine WP.valG rfl rfl rfl rfl rfl rfl rfl (Yld.pickF rfl rfl rfl) ?_; refine WP.vl rfl (Yld.pickF rfl rfl rfl) ?_; refine WP.nil ?_; refine WP.sub [(8, _), (9, _), (13, _), (16, _), (22, _), (23, _), (25, _), (163, _), (192, _)] ?_ ⟨rfl, rfl, rfl, rfl, rfl, rfl, rfl, rfl, rfl, trivial⟩
      refine WP.next ?_; refine WP.condF rfl ?_; refine WP.skip (WP.leave (WP.next ?_))
      refine WP.region [0, 1, 2] rfl ?_; refine WP.mv rfl rfl ?_; refine WP.vl rfl (Yld.add64 rfl rfl rfl (by omega)) ?_; refine WP.mv rfl rfl ?_; refine WP.nil ?_; refine WP.sub [(8, _), (9, _), (13, _), (16, _), (22, _), (23, _), (25, _), (163, _), (192, _)] ?_ ⟨rfl, rfl, rfl, rfl, rfl, rfl, rfl, rfl, rfl, trivial⟩
      exact WP.again ⟨i3 + 1, m3.set i3 ⟨m3[i3].m, z7, Lg7⟩, tb7, x7, J8, Lt7, Ll7⟩ ⟨(show i3 + 1 ≤ i1 by omega), Imm.le_trans hJ6 (Imm.le_trans hJ7 hJ8), (by rw [List.length_set]; exact hmn5), ((miP_set (y := ⟨m3[i3].m, z7, Lg7⟩) hi5 rfl).trans hpp5), (by rw [zsOf_set]; exact htw7), (show tb7.tok ≤ 140737488351300 + 99 * (i3 + 1) by omega), ((hms5.mono hJ7).mono hJ8).set i3 hg7, hT7.mono hJ8, hlg7.mono hJ8⟩ (show i1 - (i3 + 1) < i1 - i3 by omega) ⟨rfl, rfl, rfl, rfl, rfl, trivial⟩ rfl zA
    ·refine WP.nil ?_
     refine WP.sub [(8, _), (9, _), (13, _), (16, _), (22, _), (163, _)] ?_ ⟨rfl, rfl, rfl, rfl, rfl, rfl, trivial⟩
     refine WP.next ?_; refine WP.condF rfl ?_; refine WP.exit (WP.thenE (WP.thenE (WP.hit (WP.next (WP.seq ?_)))))
     refine WP.region [0, 1, 2, 3] rfl ?_; refine WP.mv rfl rfl ?_; refine WP.loud rfl rfl ?_; refine Op.cl (cac_NewFault (s := st) (l := l) (p := 1)) rfl Tryz.func15 rfl rfl rfl rfl ?_; rintro v J LnG - ⟨rfl, mG, fG, rfl, hfG⟩
     try simp only [nf]
     refine WP.loud rfl rfl ?_; refine Op.cl (law_count (z := .fa (fa0 1)) hst5 hT5 hlg5 ⟨fG, hfG⟩ htw5.w.w htw5.w.hW (FaI.new _ _ _ _) (by decide : bdT.b ≤ 1099511627776) (by omega)) rfl Tryz.func19 rfl rfl rfl rfl ?_; rintro v JG LcG hJG ⟨nG, zG, tbG, xxG, LmG, LtG, LlG, rfl, hcG, rfl, hmG, hTG, hlgG, wG, hgG, hiG, hpG, htG⟩
     try simp only [nf]
     have hmuG : (fa0 1).mu bdT.k tb5 ≤ 99 := Nat.le_trans (Nat.le_of_eq (Fa.mu1 rfl)) (by decide)
     have hbG := CountsF.bound (f := 99) (z := .fa (fa0 1)) htw5.w.w htw5.w.hW (FaI.new _ _ _ _) hmuG hcG
     obtain ⟨_, eG, heG, hneG, _⟩ := fa_in (f := 99) htw5.w.w htw5.w.hW (FaI.new _ _ _ _) (by decide) (fun q => absurd rfl q) hmuG hcG
     have hokG := (wG.held htw5.w.hW heG).ok
     rw [W1_1] at hokG
     have hnG := hokG.nds.resolve_left hneG
     have hwsG := hws.mono (Imv.le (Imm.le_trans (Imm.le_trans (Imm.le_trans hJm hJ3a) hJ6) hJG))
     refine WP.mv rfl rfl ?_; refine WP.nil ?_; refine WP.sub [(8, _), (9, _), (13, _), (16, _), (22, _), (26, _), (163, _)] ?_ ⟨rfl, rfl, rfl, rfl, rfl, rfl, rfl, trivial⟩
     refine WP.next (WP.seq ?_)
     refine WP.region [0, 1, 2, 3] rfl ?_; iterate 2 refine WP.mv rfl rfl ?_
     refine WP.loud rfl rfl ?_; refine Op.cl (law_has hTG (hJG.2 _ _ hrg5) heG hwsG (fun q => absurd q hneG) (fun _ => hneG) (fun _ => by rw [hnG]) (fun _ => by rw [hnG]; exact hokG.nf)) rfl Tryz.func18 rfl rfl rfl rfl ?_; rintro v J9 L45 hJ9 ⟨rfl, hT9⟩
     try simp only [nf]
     refine WP.mv rfl rfl ?_; refine WP.nil ?_; refine WP.sub [(8, _), (9, _), (13, _), (16, _), (22, _), (26, _), (27, _), (163, _)] ?_ ⟨rfl, rfl, rfl, rfl, rfl, rfl, rfl, rfl, trivial⟩
     refine WP.next (WP.seq ?_)
     refine WP.region [0, 1, 2, 3, 4, 5] rfl ?_; refine WP.mv rfl rfl ?_; refine WP.vl rfl (Yld.geq rfl rfl rfl true (decide_eq_true (by omega))) ?_; refine WP.mv rfl rfl ?_; refine WP.valG rfl rfl rfl rfl rfl rfl rfl (Yld.move rfl rfl) ?_; refine WP.vl rfl (Yld.pickT rfl rfl rfl) ?_; refine WP.mv rfl rfl ?_; refine WP.nil ?_; refine WP.sub [(6, _), (8, _), (9, _), (13, _), (16, _), (22, _), (26, _), (27, _), (163, _)] ?_ ⟨rfl, rfl, rfl, rfl, rfl, rfl, rfl, rfl, rfl, trivial⟩
     refine WP.next (WP.ret ?_)
     refine WP.fn .ret (.inr rfl) (res1 rfl rfl) [] (Imm.le_trans hJ2J (Imm.le_trans hJ3a (Imm.le_trans hJ6 (Imm.le_trans hJG hJ9)))) ?_; exact ⟨rfl, rfl⟩


end Go.Hp
