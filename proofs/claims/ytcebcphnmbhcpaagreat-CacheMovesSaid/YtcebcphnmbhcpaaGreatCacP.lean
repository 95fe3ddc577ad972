import Derived.Test.YtcebcphnmbhcpaaGreatCacO
import Derived.Test.YtcebcphnmbhcpaaGreatBulk
set_option linter.unusedVariables false
set_option linter.unusedSimpArgs false
namespace Go.Hp
open Go Go.Proofs

theorem slc_bulk {H α : Type} {d : DataW H} {xs : List α} {D : α → DataW H → Prop} (h : (d = .nil ∧ xs = []) ∨ ∃ ds rest, d = .slice ds rest ∧ ds.length = xs.length ∧ ∀ (i : Nat) (a : α), xs[i]? = some a → ∃ e, ds[i]? = some e ∧ D a e) : xs.length ≤ YtcebcphnmbhcpaaGreat.Rows.uptoBulk d ∧ ∀ a ∈ xs, ∃ e, D a e ∧ YtcebcphnmbhcpaaGreat.Rows.uptoBulk e ≤ YtcebcphnmbhcpaaGreat.Rows.uptoBulk d := by
 rcases h with ⟨_, rfl⟩ | ⟨ds, rest, rfl, hl, hel⟩
 ·exact ⟨by simp, fun a ha => by cases ha⟩
 ·have h1 := YtcebcphnmbhcpaaGreat.bulks.slice_le ds rest
  have h2 := YtcebcphnmbhcpaaGreat.bulks.slice_elems ds rest
  refine ⟨by omega, fun a ha => ?_⟩
  obtain ⟨i, hi, rfl⟩ := List.getElem_of_mem ha
  obtain ⟨e, h3, h4⟩ := hel i _ (List.getElem?_eq_getElem hi)
  have h5 := YtcebcphnmbhcpaaGreat.bulks.part_le (List.mem_of_getElem? h3)
  exact ⟨e, h4, by omega⟩
/-- A change that somebody brings. -/
structure Chg where
 put : Bool
 kind : Int
 page : Int
 n : Int
 vb : Value
 b : List UInt8
def RChg (I : Imm) (o : Chg) (cs : List Value) : Prop := cs = [.bool o.put, .int .i64 o.kind, .int .i64 o.page, .int .i64 o.n, o.vb] ∧ SlRd (Im I) o.vb o.b.length 1 (bytesV o.b)
def DChg {H : Type} (o : Chg) (d : DataW H) : Prop := o.b.length ≤ YtcebcphnmbhcpaaGreat.Rows.uptoBulk d
set_option maxRecDepth 100000 in
theorem elem_chg {H : Type} {enc : TypeId × Value → H} {W : World} {sp : Nat → Bool} {held : Bool} (n : Nat) (cs : List Value) (x : DataW H × List MemPlace) (h : DataW.trod enc Tryz.prog W 0 sp held n 53 cs = some x) (hl : cs.length = 5) : ∃ a, RChg (immOf W) a cs ∧ DChg a x.1 := by
 obtain ⟨fs, hu, g0, g1, g2, g3, g4⟩ : ∃ fs, Tryz.prog.underlying 53 = some (.struct fs) ∧ (fs[0]?.map fun f => (f.type, f.offset)) = some (4, 0) ∧ (fs[1]?.map fun f => (f.type, f.offset)) = some (3, 1) ∧ (fs[2]?.map fun f => (f.type, f.offset)) = some (3, 2) ∧ (fs[3]?.map fun f => (f.type, f.offset)) = some (3, 3) ∧ (fs[4]?.map fun f => (f.type, f.offset)) = some (47, 4) := ⟨_, rfl, rfl, rfl, rfl, rfl, rfl⟩
 obtain ⟨xs, n', rfl, rfl, _, hxl, hel⟩ := DataW.trod_struct hu h
 have hget : ∀ (i ft off : Nat), (fs[i]?.map fun (f : Field) => (f.type, f.offset)) = some (ft, off) → ∃ y, xs[i]? = some y := by
  intro i ft off hf
  obtain ⟨f, h1, _⟩ := Option.map_eq_some_iff.1 hf
  have : i < fs.size := (Array.getElem?_eq_some_iff.1 h1).1
  exact ⟨_, List.getElem?_eq_getElem (by omega)⟩
 have k0 := part_trod hel 0 4 0 1 g0 zK
 obtain ⟨y0, e0⟩ := hget _ _ _ g0
 rw [e0] at k0
 have k1 := part_trod hel 1 3 1 1 g1 zK
 obtain ⟨y1, e1⟩ := hget _ _ _ g1
 rw [e1] at k1
 have k2 := part_trod hel 2 3 2 1 g2 zK
 obtain ⟨y2, e2⟩ := hget _ _ _ g2
 rw [e2] at k2
 have k3 := part_trod hel 3 3 3 1 g3 zK
 obtain ⟨y3, e3⟩ := hget _ _ _ g3
 rw [e3] at k3
 have k4 := part_trod hel 4 47 4 1 g4 zK
 obtain ⟨y4, e4⟩ := hget _ _ _ g4
 rw [e4] at k4
 match cs, hl with
 | [c0, c1, c2, c3, c4], _ =>
 obtain ⟨a0, j0, _⟩ := DataW.trod_bool Tryz.underlying4 k0
 obtain ⟨a1, j1, _, w1⟩ := DataW.trod_int Tryz.underlying3 k1
 obtain ⟨a2, j2, _, w2⟩ := DataW.trod_int Tryz.underlying3 k2
 obtain ⟨a3, j3, _, w3⟩ := DataW.trod_int Tryz.underlying3 k3
 obtain ⟨v4, z4, j4, S4, D4⟩ := open_slc RB (fun _ _ => True) Tryz.underlying47 (sz := 1) zK (by decide) (elem_byte zK) k4
 simp only [List.drop_zero, List.drop_succ_cons, List.take_succ_cons, List.take_zero, List.cons.injEq, and_true] at j0 j1 j2 j3 j4
 refine ⟨⟨a0, a1, a2, a3, v4, z4⟩, ⟨by rw [j0, j1, j2, j3, j4], Slc.bytes S4⟩, ?_⟩
 have q1 := (slc_bulk D4).1
 have q2 := YtcebcphnmbhcpaaGreat.bulks.part_le (List.mem_map_of_mem (f := (·.1)) (List.mem_of_getElem? e4))
 simp only [DChg, YtcebcphnmbhcpaaGreat.Rows.uptoBulk]; omega
theorem Slc.chg {I : Imm} {A : Option Addr} {m c : Nat} {l : List Chg} (h : Slc I 5 (RChg I) (.slice A m c) l) {i : Nat} (hi : i < l.length) : ∃ b k T fr arr, A = some ⟨b, k, none⟩ ∧ I.blk b = some (.cells arr T fr) ∧ arr[k + i * 5]? = some (.bool l[i].put) ∧ arr[k + i * 5 + 1]? = some (.int .i64 l[i].kind) ∧ arr[k + i * 5 + 2]? = some (.int .i64 l[i].page) ∧ arr[k + i * 5 + 3]? = some (.int .i64 l[i].n) ∧ arr[k + i * 5 + 4]? = some l[i].vb ∧ SlRd (Im I) l[i].vb l[i].b.length 1 (bytesV l[i].b) := by
 obtain ⟨A', cap, e, _, h3⟩ := h
 cases e
 rcases h3 with rfl | ⟨b, k, arr, T, fr, rfl, hb, hel⟩
 ·cases hi
 ·obtain ⟨_, hcs, h1⟩ := hel i _ (List.getElem?_eq_getElem hi)
  have at_ : ∀ (j : Nat) (v : Value), j < 5 → ([.bool l[i].put, .int .i64 l[i].kind, .int .i64 l[i].page, .int .i64 l[i].n, l[i].vb] : List Value)[j]? = some v → arr[k + i * 5 + j]? = some v := fun j v hj hv => by
   have := take_cells hcs j v hv hj; rwa [Array.getElem?_toList] at this
  exact ⟨b, k, T, fr, arr, rfl, hb, at_ 0 _ (by decide) rfl, at_ 1 _ (by decide) rfl, at_ 2 _ (by decide) rfl, at_ 3 _ (by decide) rfl, at_ 4 _ (by decide) rfl, h1⟩
theorem W1_ne {N : Nds} {k : Int} (h : k ≠ 1) : W1 N k = [] := updW_ne h
/-- What put makes of the world of one page. -/
theorem CPutR.one {m : Nat} {B : Bd} {N : Nds} {tb tb2 : Tb} {x : Lg} {e : Ent} {d : List UInt8} {c : Bool} (w : CW m B (W1 N) tb x) (hN : N ≠ []) (he : tb.ent 1 = some e) (hk : 61 ≤ B.k) (hd : d.length ≤ B.b) (h : CPutR tb 1 e d c tb2) : Gro tb tb2 x x ∧ tb2.tok ≤ tb.tok + 1 ∧ ∃ N2, N2 ≠ [] ∧ CW m B (W1 N2) tb2 x ∧ ((c = true ∧ N2 = (false, d) :: N ∧ e.nodes = N ∧ tb.Swapped tb2 1 (putE e d)) ∨ (c = false ∧ N2 = N ∧ tb2 = tb)) := by
 have hW : W1 N 1 ≠ [] := by rw [W1_1]; exact hN
 have hh := w.held hW he
 rw [W1_1] at hh
 rcases h with ⟨h1, rfl, _⟩ | ⟨h1, h2, h3, h4⟩
 ·exact ⟨.refl _ _, Nat.le_succ _, N, hN, w, .inr ⟨h1, rfl, rfl⟩⟩
 ·have hn := hh.ok.nds.resolve_left h2
  rw [hn] at h3
  refine ⟨.swap h4 _, by rw [h4.tok]; exact Nat.le_refl _, (false, d) :: N, by simp, ?_, .inl ⟨h1, rfl, hn, h4⟩⟩
  exact w.swap ⟨by decide, by decide⟩ h4 (fun k hk => (W1_ne hk).trans (W1_ne hk).symm) (by rw [W1_1]; exact hh.ok.put h2 h3 (by omega) hd)
theorem put_may {m : Nat} {B : Bd} {W : Int → Nds} {tb : Tb} {x : Lg} {p : Int} {e : Ent} {d : List UInt8} (w : CW m B W tb x) (hW : W p ≠ []) (he : tb.ent p = some e) (hk : 61 ≤ B.k) (hb : B.b ≤ 1099511627776) (hd : d.length ≤ B.b) : e.nodes.length ≤ 64 ∧ (e.nodes ≠ [] → e.nodes.length ≤ 60 → (putE e d).mayP) ∧ (e.nodes ≠ [] → e.nodes.length ≤ 60 → (putE e d).sized) := by
 have hh := w.held hW he
 refine ⟨hh.ok.len, fun h1 h2 => ?_, fun h1 h2 => ?_⟩
 ·have hn := hh.ok.nds.resolve_left h1
  rw [hn] at h2
  exact (hh.ok.put h1 h2 (by omega) hd).mayP
 ·have hn := hh.ok.nds.resolve_left h1
  rw [hn] at h2
  exact (hh.ok.put h1 h2 (by omega) hd).sized hb
structure CmX where
 i : Nat
 N : Nds
 tb : Tb
 x : Lg
 z1 : Mx
 z2 : Mx
 J : Imm
 L1 : Chunks
 L2 : Chunks
 Lt : Chunks
 Ll : Chunks
theorem law_CacheMoves {I : Imm} {ls : List Chg} {vl : Value} {more : Int} (hl0 : Slc I 5 (RChg I) vl ls) (hln : ls.length ≤ 140737488351232) : Spec Tryz.prog 4 [vl, .int .i64 more] I [] (fun v J L => v = .bool true ∧ L = []) := by
 have hsl := hl0
 obtain ⟨Al, cl, rfl, _, _⟩ := id hl0
 refine Spec.of Tryz.func4 rfl Tryz.ntmps4 (Nat.le_of_ble_eq_true rfl) (fun F => ?_)
 try simp only [nf]
 dsimp only [argsEnv]
 refine WP.seq ?_; refine WP.region [0] rfl ?_; refine WP.mv rfl rfl ?_; refine WP.nil (WP.next (WP.seq ?_))
 refine WP.region [0, 1] rfl ?_; refine WP.loud rfl rfl ?_; refine Op.cl law_awake rfl Tryz.func7 rfl rfl rfl rfl ?_; rintro v JA La hJA ⟨rfl, rfl⟩
 try simp only [nf]
 refine WP.mv rfl rfl ?_; refine WP.nil ?_; refine WP.sub [(0, _), (1, _), (4, _), (5, _)] ?_ ⟨rfl, rfl, rfl, rfl, trivial⟩
 refine WP.next (WP.seq ?_)
 refine WP.region [0, 1] rfl ?_; refine WP.loud rfl rfl ?_; refine Op.cl (txn_Begun (m := 60) (by decide) (by decide)) rfl Tryz.func8 rfl rfl rfl rfl ?_; rintro v Jb Lb hJb ⟨rfl, x, d, s, l, t, q, rt, rm, r9, tb, Ll, Lt, rfl, rfl, hl, hT, hk0, hn0, hs0, hg0⟩
 try simp only [nf]
 refine WP.mv rfl rfl ?_; refine WP.nil ?_; refine WP.sub [(0, _), (1, _), (4, _), (5, _), (6, _)] ?_ ⟨rfl, rfl, rfl, rfl, rfl, trivial⟩
 refine WP.next (WP.seq (WP.seq ?_))
 refine WP.region [0, 1, 2, 3, 4, 5] rfl ?_; refine WP.mv rfl rfl ?_; refine WP.vl rfl (Yld.not rfl rfl) ?_; refine WP.mv rfl rfl ?_; refine WP.valG rfl rfl rfl rfl rfl rfl rfl (Yld.move rfl rfl) ?_; refine WP.valG rfl rfl rfl rfl rfl rfl rfl (Yld.eqlNil rfl ty_pt_24 rfl rfl) ?_; refine WP.vl rfl (Yld.pickF rfl rfl rfl) ?_; refine WP.nil ?_; refine WP.sub [(0, _), (1, _), (4, _), (5, _), (6, _), (22, _)] ?_ ⟨rfl, rfl, rfl, rfl, rfl, rfl, trivial⟩
 refine WP.next ?_; refine WP.condF rfl ?_; refine WP.skip (WP.next (WP.seq ?_))
 refine WQ.start Tryzmixed 8 zK _ rfl [8, 9] rfl ?_; refine WQ.val rfl rfl rfl (Yld.move rfl rfl) ?_; refine WQ.val rfl rfl rfl (Yld.nilCheck rfl rfl) ?_; refine WQ.val rfl rfl rfl (Yld.fieldAddr rfl ty_fd_37_3 rfl) ?_; refine WQ.val rfl rfl rfl (Yld.ld (v := .pointer (some ⟨t, 0, none⟩)) rfl ty_sc_31 rfl rfl) ?_; refine WQ.val rfl rfl rfl (Yld.move rfl rfl) ?_; refine WQ.val rfl rfl rfl (Yld.nilCheck rfl rfl) ?_; refine WQ.val rfl rfl rfl (Yld.fieldAddr rfl ty_fd_37_2 rfl) ?_; refine WQ.val rfl rfl rfl (Yld.ld (v := .pointer (some ⟨l, 0, none⟩)) rfl ty_sc_30 rfl rfl) ?_; refine WQ.nil ?_; refine WP.loud rfl rfl ?_; refine Op.cl (cac_New (t := t) (l := l)) rfl Tryz.func9 rfl rfl rfl rfl ?_; rintro v J Lst - ⟨rfl, st, rfl, rfl⟩
 try simp only [nf]
 refine WP.mv rfl rfl ?_; refine WP.nil ?_; refine WP.sub [(0, _), (1, _), (4, _), (5, _), (6, _), (7, _), (22, _)] ?_ ⟨rfl, rfl, rfl, rfl, rfl, rfl, rfl, trivial⟩
 refine WP.next (WP.seq ?_)
 refine WP.region [0, 1, 2, 3, 4, 5, 6, 7, 8, 9] rfl ?_; refine WP.mv rfl rfl ?_; refine WP.vl rfl (Yld.nilCheck rfl rfl) ?_; refine WP.vl rfl (Yld.fieldAddr rfl ty_fd_37_3 rfl) ?_; refine WP.vl rfl (Yld.ld (v := .pointer (some ⟨t, 0, none⟩)) rfl ty_sc_31 rfl rfl) ?_; refine WP.loud rfl rfl ?_; refine Op.cl (tabT_AllocN hT (by omega) (m := 0) (by decide) (upto0 hg0)) rfl Tryz.func10 rfl rfl rfl rfl ?_; rintro v J1 L1 hJ1 ⟨x1, rfl, hu1, hup1, hT1⟩
 try simp only [nf]
 have hk1 := hu1.tok
 refine WP.mv rfl rfl ?_; iterate 2 refine WP.vl rfl (Yld.extract rfl rfl rfl) ?_
 iterate 2 refine WP.mv rfl rfl ?_
 refine WP.nil ?_; refine WP.sub [(0, _), (1, _), (4, _), (5, _), (6, _), (7, _), (8, _), (9, _), (22, _)] ?_ ⟨rfl, rfl, rfl, rfl, rfl, rfl, rfl, rfl, rfl, trivial⟩
 refine WP.next (WP.seq ?_)
 refine WD.start Tryzmixed 9 (fun c o => c = x ∧ o = row 37 [.pointer (some ⟨d, 0, none⟩), .pointer (some ⟨s, 0, none⟩), .pointer (some ⟨l, 0, none⟩), .pointer (some ⟨t, 0, none⟩), .pointer (some ⟨q, 0, none⟩), .pointer (some ⟨rt, 0, none⟩), .pointer (some ⟨rm, 0, none⟩), .pointer (some ⟨r9, 0, none⟩)]) (fun _ _ => False) (by rintro _ _ ⟨rfl, rfl⟩; exact zM) (fun _ _ h => h.elim) 11 [false, false, false, false, false, false, false, false, false, false, false] rfl rfl ?_; refine WD.vl (i := 0) rfl (Yld.move rfl rfl) ?_; refine WD.vl (i := 1) rfl (Yld.nilCheck rfl rfl) ?_; refine WD.vl (i := 2) rfl (Yld.fieldAddr rfl ty_fd_37_3 rfl) ?_; refine WD.val1 (i := 3) rfl rfl rfl rfl zK rfl zK (Yld.load (v := .pointer (some ⟨t, 0, none⟩)) rfl ty_sc_31 rfl (.inl ⟨rfl, rfl⟩) rfl) ?_; refine WD.vl (i := 4) rfl (Yld.move rfl rfl) ?_; refine WD.loud (i := 5) zK rfl rfl rfl ?_; refine Op.buildSlice rfl ty_sl_47 ty_el2_47 rfl rfl rfl rfl (vs := [_]) rfl (segs := [(0, [_])]) (cs := bytesV [98]) rfl rfl zS (fun bl => ?_)
 refine WD.gR ?_; refine WD.loud (i := 6) zK rfl rfl rfl ?_; refine Op.mark (cs := bytesV [98]) rfl Tryz.underlying47 zK rfl rfl rfl (by repeat (first | exact Rm.chunk | exact Rm.here | exact Rm.nil0 | apply Rm.skip | apply Rm.skipS)) (fun J5 hJ5 hm5 => ?_)
 have hs5 := Im_lit' (c := 1) hm5 (Nat.le_refl _)
 refine WD.gR ?_; refine WD.loud (i := 7) zK rfl rfl rfl ?_; refine Op.cl (txn_Page (d := [98]) hs5) rfl Tryz.func12 rfl rfl rfl rfl ?_; rintro v J7 L7 hJ7 ⟨rfl, hr7⟩
 try simp only [nf]
 obtain ⟨A7, c7, rfl⟩ := hr7.sl
 obtain ⟨nv7, hp7, hq7⟩ := id hr7.ex
 have hJ17 := Imm.le_trans hJ5 hJ7
 have hre7 : REnt J7 (newE [(true, [98])]) [.int .u64 0, .slice A7 1 c7, .int .i64 0, .int .i64 0, .int .i64 0, .int .i64 0, .int .i64 0, .int .i64 0, .slice none 0 0] := ⟨_, _, nv7, rfl, hp7, hq7, ⟨none, 0, rfl, Nat.le_refl _, rfl, .inl rfl⟩⟩
 refine WD.gR ?_; refine WD.vl (i := 8) rfl (Yld.buildS (pl := [(1, 1, 1)]) rfl ty_zr_50 ty_zd_50 zK rfl (vs := [_]) rfl (segs := [(1, [_])]) rfl rfl zS) ?_; refine WD.loud (i := 9) zK rfl rfl rfl ?_; refine Op.cl (tabT_SwapX (hT1.mono hJ17) (p := 1) (tk := 1) (e := newE [(true, [98])]) hre7 ⟨(by show 1 ≤ _; decide), (fun y hy => by cases List.mem_singleton.1 hy; show 1 ≤ _; decide), Nat.zero_le _⟩ (by omega)) rfl Tryz.func11 rfl rfl rfl rfl ?_; rintro v J8 L8 hJ8 ⟨r8, tb_0, rfl, hsw8, hT8⟩
 try simp only [nf]
 obtain ⟨hr8, w_0, he_0, htk_0⟩ := CW.one (m := 60) (by decide) hk0 hu1 (by decide) hsw8
 subst hr8
 have hJ18 := Imm.le_trans hJ17 hJ8
 obtain ⟨xx_0, hxx0⟩ : ∃ u, u = (⟨1, ⟨60, 1, 1⟩, 0, 8, [], 0, 0, 8⟩ : Lg) := ⟨_, rfl⟩
 rw [← hxx0] at w_0 hl
 refine WD.go (.inl rfl) (fun _ _ h => h.elim) ?_; refine WD.vl (i := 10) rfl (Yld.assign rfl rfl) ?_; refine WD.done zK ?_; refine WP.sub [(0, _), (1, _), (4, _), (5, _), (6, _), (7, _), (8, _), (9, _), (10, _), (22, _)] ?_ ⟨rfl, rfl, rfl, rfl, rfl, rfl, rfl, rfl, rfl, rfl, trivial⟩
 refine WP.next (WP.seq (WP.seq ?_))
 refine WP.region [0, 1, 2, 3, 4, 5, 6, 7, 8, 9, 10, 11, 12, 13, 14, 15, 16, 17, 18, 19, 20, 21, 22] rfl ?_; refine WP.mv rfl rfl ?_; refine WP.vl rfl (Yld.eqlNil rfl ty_pt_26 rfl rfl) ?_; refine WP.mv rfl rfl ?_; refine WP.valG rfl rfl rfl rfl rfl rfl rfl (Yld.move rfl rfl) ?_; refine WP.valG rfl rfl rfl rfl rfl rfl rfl (Yld.neq rfl rfl rfl false (decide_eq_false (by simp))) ?_; refine WP.vl rfl (Yld.pickF rfl rfl rfl) ?_; refine WP.mv rfl rfl ?_; refine WP.valG rfl rfl rfl rfl rfl rfl rfl (Yld.move rfl rfl) ?_; refine WP.valG rfl rfl rfl rfl rfl rfl rfl (Yld.neq rfl rfl rfl false (decide_eq_false (by simp))) ?_; refine WP.vl rfl (Yld.pickF rfl rfl rfl) ?_; refine WP.mv rfl rfl ?_; refine WP.valG rfl rfl rfl rfl rfl rfl rfl (Yld.move rfl rfl) ?_; refine WP.splitG rfl rfl rfl rfl rfl rfl rfl (Yld.lss rfl rfl rfl) (fun h812 => ?_) (fun h812 => ?_)
 ·refine WP.vl rfl (Yld.pickF rfl rfl rfl) ?_
  refine WP.mv rfl rfl ?_; iterate 2 refine WP.passG rfl rfl rfl rfl rfl rfl rfl rfl ?_
  refine WP.vl rfl (Yld.pickT rfl rfl rfl) ?_; refine WP.mv rfl rfl ?_; iterate 3 refine WP.passG rfl rfl rfl rfl rfl rfl rfl rfl ?_
  refine WP.vl rfl (Yld.pickT rfl rfl rfl) ?_; refine WP.nil ?_; refine WP.sub [(0, _), (1, _), (4, _), (5, _), (6, _), (7, _), (8, _), (9, _), (10, _), (22, _), (72, _)] ?_ ⟨rfl, rfl, rfl, rfl, rfl, rfl, rfl, rfl, rfl, rfl, rfl, trivial⟩
  refine WP.next ?_; refine WP.condT rfl ?_; refine WP.seq ?_; refine WP.region [0, 1, 2, 3, 4, 5, 6, 7, 8, 9, 10] rfl ?_; refine WP.mv rfl rfl ?_; refine WP.vl rfl (Yld.neqNil rfl ty_pt_26 rfl rfl) ?_; refine WP.mv rfl rfl ?_; refine WP.valG rfl rfl rfl rfl rfl rfl rfl (Yld.move rfl rfl) ?_; refine WP.valG rfl rfl rfl rfl rfl rfl rfl (Yld.eql rfl rfl rfl true (decide_eq_true (by rfl))) ?_; refine WP.vl rfl (Yld.pickT rfl rfl rfl) ?_; refine WP.mv rfl rfl ?_; refine WP.valG rfl rfl rfl rfl rfl rfl rfl (Yld.move rfl rfl) ?_; refine WP.valG rfl rfl rfl rfl rfl rfl rfl (Yld.eql rfl rfl rfl true (decide_eq_true (by rfl))) ?_; refine WP.vl rfl (Yld.pickT rfl rfl rfl) ?_; refine WP.mv rfl rfl ?_; refine WP.nil ?_; refine WP.sub [(0, _), (1, _), (4, _), (5, _), (6, _), (7, _), (8, _), (9, _), (10, _), (22, _), (72, _)] ?_ ⟨rfl, rfl, rfl, rfl, rfl, rfl, rfl, rfl, rfl, rfl, rfl, trivial⟩
  refine WP.next (WP.ret ?_)
  refine WP.fn .ret (.inr rfl) (res1 rfl rfl) [] (Imm.le_trans hJA (Imm.le_trans hJ1 hJ18)) ?_; exact ⟨rfl, rfl⟩
 ·refine WP.vl rfl (Yld.pickF rfl rfl rfl) ?_
  refine WP.mv rfl rfl ?_; refine WP.valG rfl rfl rfl rfl rfl rfl rfl (Yld.move rfl rfl) ?_; refine WP.splitG rfl rfl rfl rfl rfl rfl rfl (Yld.gtr rfl rfl rfl) (fun h816 => ?_) (fun h816 => ?_)
  ·refine WP.vl rfl (Yld.pickF rfl rfl rfl) ?_
   refine WP.mv rfl rfl ?_; iterate 3 refine WP.passG rfl rfl rfl rfl rfl rfl rfl rfl ?_
   refine WP.vl rfl (Yld.pickT rfl rfl rfl) ?_; refine WP.nil ?_; refine WP.sub [(0, _), (1, _), (4, _), (5, _), (6, _), (7, _), (8, _), (9, _), (10, _), (22, _), (72, _)] ?_ ⟨rfl, rfl, rfl, rfl, rfl, rfl, rfl, rfl, rfl, rfl, rfl, trivial⟩
   refine WP.next ?_; refine WP.condT rfl ?_; refine WP.seq ?_; refine WP.region [0, 1, 2, 3, 4, 5, 6, 7, 8, 9, 10] rfl ?_; refine WP.mv rfl rfl ?_; refine WP.vl rfl (Yld.neqNil rfl ty_pt_26 rfl rfl) ?_; refine WP.mv rfl rfl ?_; refine WP.valG rfl rfl rfl rfl rfl rfl rfl (Yld.move rfl rfl) ?_; refine WP.valG rfl rfl rfl rfl rfl rfl rfl (Yld.eql rfl rfl rfl true (decide_eq_true (by rfl))) ?_; refine WP.vl rfl (Yld.pickT rfl rfl rfl) ?_; refine WP.mv rfl rfl ?_; refine WP.valG rfl rfl rfl rfl rfl rfl rfl (Yld.move rfl rfl) ?_; refine WP.valG rfl rfl rfl rfl rfl rfl rfl (Yld.eql rfl rfl rfl true (decide_eq_true (by rfl))) ?_; refine WP.vl rfl (Yld.pickT rfl rfl rfl) ?_; refine WP.mv rfl rfl ?_; refine WP.nil ?_; refine WP.sub [(0, _), (1, _), (4, _), (5, _), (6, _), (7, _), (8, _), (9, _), (10, _), (22, _), (72, _)] ?_ ⟨rfl, rfl, rfl, rfl, rfl, rfl, rfl, rfl, rfl, rfl, rfl, trivial⟩
   refine WP.next (WP.ret ?_)
   refine WP.fn .ret (.inr rfl) (res1 rfl rfl) [] (Imm.le_trans hJA (Imm.le_trans hJ1 hJ18)) ?_; exact ⟨rfl, rfl⟩
  ·refine WP.vl rfl (Yld.pickF rfl rfl rfl) ?_
   refine WP.mv rfl rfl ?_; refine WP.valG rfl rfl rfl rfl rfl rfl rfl (Yld.move rfl rfl) ?_; refine WP.valG rfl rfl rfl rfl rfl rfl rfl (Yld.len rfl ty_sl_22 rfl) ?_; refine WP.splitG rfl rfl rfl rfl rfl rfl rfl (Yld.gtr rfl rfl rfl) (fun h821 => ?_) (fun h821 => ?_)
   ·refine WP.vl rfl (Yld.pickF rfl rfl rfl) ?_
    refine WP.nil ?_; refine WP.sub [(0, _), (1, _), (4, _), (5, _), (6, _), (7, _), (8, _), (9, _), (10, _), (22, _), (72, _)] ?_ ⟨rfl, rfl, rfl, rfl, rfl, rfl, rfl, rfl, rfl, rfl, rfl, trivial⟩
    refine WP.next ?_; refine WP.condT rfl ?_; refine WP.seq ?_; refine WP.region [0, 1, 2, 3, 4, 5, 6, 7, 8, 9, 10] rfl ?_; refine WP.mv rfl rfl ?_; refine WP.vl rfl (Yld.neqNil rfl ty_pt_26 rfl rfl) ?_; refine WP.mv rfl rfl ?_; refine WP.valG rfl rfl rfl rfl rfl rfl rfl (Yld.move rfl rfl) ?_; refine WP.valG rfl rfl rfl rfl rfl rfl rfl (Yld.eql rfl rfl rfl true (decide_eq_true (by rfl))) ?_; refine WP.vl rfl (Yld.pickT rfl rfl rfl) ?_; refine WP.mv rfl rfl ?_; refine WP.valG rfl rfl rfl rfl rfl rfl rfl (Yld.move rfl rfl) ?_; refine WP.valG rfl rfl rfl rfl rfl rfl rfl (Yld.eql rfl rfl rfl true (decide_eq_true (by rfl))) ?_; refine WP.vl rfl (Yld.pickT rfl rfl rfl) ?_; refine WP.mv rfl rfl ?_; refine WP.nil ?_; refine WP.sub [(0, _), (1, _), (4, _), (5, _), (6, _), (7, _), (8, _), (9, _), (10, _), (22, _), (72, _)] ?_ ⟨rfl, rfl, rfl, rfl, rfl, rfl, rfl, rfl, rfl, rfl, rfl, trivial⟩
    refine WP.next (WP.ret ?_)
    refine WP.fn .ret (.inr rfl) (res1 rfl rfl) [] (Imm.le_trans hJA (Imm.le_trans hJ1 hJ18)) ?_; exact ⟨rfl, rfl⟩
   ·refine WP.vl rfl (Yld.pickF rfl rfl rfl) ?_
    refine WP.nil ?_; refine WP.sub [(0, _), (1, _), (4, _), (5, _), (6, _), (7, _), (8, _), (9, _), (10, _), (22, _), (72, _)] ?_ ⟨rfl, rfl, rfl, rfl, rfl, rfl, rfl, rfl, rfl, rfl, rfl, trivial⟩
    refine WP.next ?_; refine WP.condF rfl ?_; refine WP.skip (WP.next (WP.seq ?_))
    refine WP.perm _ (show Take _ [(st, _)] _ from zT).perm ?_; refine WP.share (fun Ja hJa hst_a => ?_)
    try simp only [nf]
    refine WP.perm _ (show Take _ [(x, _)] _ from zT).perm ?_; refine WP.share (fun J_0 hJb_0 hrg_0 => ?_)
    try simp only [nf]
    have hst_0 := hJb_0.2 _ _ hst_a
    have hJ80 := Imm.le_trans hJa hJb_0
    have hT_0 := hT8.mono hJ80
    have hlg_0 := hl.mono (Imm.le_trans hJ1 (Imm.le_trans hJ18 hJ80))
    have hJ_0 := Imm.le_trans hJA (Imm.le_trans hJ1 (Imm.le_trans hJ18 hJ80))
    have hsl_0 := hsl
    refine WP.region [0, 1, 2] rfl ?_; refine WP.mv rfl rfl ?_; refine WP.loud rfl rfl ?_; refine Op.cl (cac_NewFlush (s := st) (p := 1) (b := true)) rfl Tryz.func14 rfl rfl rfl rfl ?_; rintro v J La1 - ⟨rfl, ma, fa, rfl, hfa⟩
    try simp only [nf]
    refine WP.mv rfl rfl ?_; refine WP.nil ?_; refine WP.sub [(0, _), (1, _), (4, _), (5, _), (6, _), (7, _), (8, _), (9, _), (10, _), (11, _), (22, _), (72, _)] ?_ ⟨rfl, rfl, rfl, rfl, rfl, rfl, rfl, rfl, rfl, rfl, rfl, rfl, trivial⟩
    refine WP.next (WP.seq ?_)
    refine WP.region [0, 1, 2] rfl ?_; refine WP.mv rfl rfl ?_; refine WP.loud rfl rfl ?_; refine Op.cl (cac_NewFlush (s := st) (p := 1) (b := true)) rfl Tryz.func14 rfl rfl rfl rfl ?_; rintro v J La2 - ⟨rfl, mb, fb, rfl, hfb⟩
    try simp only [nf]
    refine WP.mv rfl rfl ?_; refine WP.nil ?_; refine WP.sub [(0, _), (1, _), (4, _), (5, _), (6, _), (7, _), (8, _), (9, _), (10, _), (11, _), (12, _), (22, _), (72, _)] ?_ ⟨rfl, rfl, rfl, rfl, rfl, rfl, rfl, rfl, rfl, rfl, rfl, rfl, rfl, trivial⟩
    refine WP.next (WP.seq (WP.seq ?_))
    refine WP.region [0, 1, 2, 3, 4, 5] rfl ?_; refine WP.mv rfl rfl ?_; refine WP.vl rfl (Yld.eqlNil rfl ty_pt_55 rfl rfl) ?_; refine WP.mv rfl rfl ?_; refine WP.valG rfl rfl rfl rfl rfl rfl rfl (Yld.move rfl rfl) ?_; refine WP.valG rfl rfl rfl rfl rfl rfl rfl (Yld.eqlNil rfl ty_pt_55 rfl rfl) ?_; refine WP.vl rfl (Yld.pickF rfl rfl rfl) ?_; refine WP.nil ?_; refine WP.sub [(0, _), (1, _), (4, _), (5, _), (6, _), (7, _), (8, _), (9, _), (10, _), (11, _), (12, _), (22, _), (72, _), (92, _)] ?_ ⟨rfl, rfl, rfl, rfl, rfl, rfl, rfl, rfl, rfl, rfl, rfl, rfl, rfl, rfl, trivial⟩
    refine WP.next ?_; refine WP.condF rfl ?_; refine WP.skip (WP.next (WP.seq (WP.seq ?_)))
    refine WP.region [0] rfl ?_; refine WP.mv rfl rfl ?_; refine WP.nil (WP.next (WP.block ?_))
    refine WP.loop (X := CmX) (fun u : CmX => [(0, .slice Al ls.length cl), (6, .pointer (some ⟨x, 0, none⟩)), (11, .pointer (some ⟨ma, 0, none⟩)), (12, .pointer (some ⟨mb, 0, none⟩)), (13, .int .i64 (u.i : Int))]) (fun u => u.J) (fun u : CmX => u.L1 ++ (u.L2 ++ (u.Lt ++ (u.Ll ++ F)))) (fun u : CmX => u.i ≤ ls.length ∧ J_0.le u.J ∧ u.N ≠ [] ∧ CW 60 bdA (W1 u.N) u.tb u.x ∧ MxI bdA u.tb u.x u.z1 ∧ MxI bdA u.tb u.x u.z2 ∧ u.z1.c.page = 1 ∧ u.z2.c.page = 1 ∧ (∃ q, u.z1 = .fl q) ∧ u.tb.tok ≤ 2 + u.i ∧ IsMx u.J st l ma u.z1 u.L1 ∧ IsMx u.J st l mb u.z2 u.L2 ∧ IsT u.J t u.tb u.Lt ∧ IsLog u.J l s d (8 + 32 * 60) u.x (Dk.new (8 + 32 * 60)) u.Ll) (fun u => ls.length - u.i) ⟨0, [(true, [98])], tb_0, xx_0, .fl (fl0 1 true), .fl (fl0 1 true), J_0, La1, La2, L8, Ll⟩ ⟨Nat.zero_le _, Imm.le_refl _, (by simp), w_0, FlI.new _ _ _ _ _, FlI.new _ _ _ _ _, rfl, rfl, ⟨_, rfl⟩, (by show tb_0.tok ≤ 2 + 0; omega), ⟨fa, hfa⟩, ⟨fb, hfb⟩, hT_0, hlg_0⟩ ⟨rfl, rfl, rfl, rfl, rfl, trivial⟩ rfl zA ?_; rintro ⟨i, N, tb2, xx, z1, z2, J, L1, L2, Lt2, Ll2⟩ ⟨hle, hJ, hN, hw, hi1, hi2, hp1, hp2, hfl, htk, hm1, hm2, hT, hlg⟩; dsimp only at hle hJ hN hw hi1 hi2 hp1 hp2 hfl htk hm1 hm2 hT hlg; have hW : W1 N 1 ≠ [] := by rw [W1_1]; exact hN
    try dsimp only
    try simp only [nf]
    refine WP.seq (WP.seq ?_)
    refine WP.region [0, 1, 2, 3] rfl ?_; iterate 2 refine WP.mv rfl rfl ?_
    refine WP.vl rfl (Yld.len rfl ty_sl_22 rfl) ?_; refine WP.split rfl rfl rfl rfl (Yld.lss rfl rfl rfl) (fun hlt => ?_) (fun hlt => ?_)
    ·have hi : i < ls.length := by omega
     have hslJ := Slc.chg hsl_0 hi
     obtain ⟨bl, kl, Tl, fl_, arl, eAl, hbl0, hc0, hc1, hc2, hc3, hc4, hcb⟩ := hslJ
     have hbl := (Imm.le_trans hJ_0 hJ).2 _ _ hbl0
     obtain ⟨e, he, _, _⟩ := hw.en 1 hW
     refine WP.nil ?_; refine WP.sub [(0, _), (6, _), (11, _), (12, _), (13, _), (96, _)] ?_ ⟨rfl, rfl, rfl, rfl, rfl, rfl, trivial⟩
     refine WP.next ?_; refine WP.condT rfl ?_; refine WP.skip (WP.next (WP.seq (WP.block (WP.seq ?_))))
     refine WP.region [0, 1, 2, 3, 4] rfl ?_; iterate 2 refine WP.mv rfl rfl ?_
     refine WP.vl rfl (Yld.indexAddr (i := i) rfl ty_sl_22 (congrArg (fun a => some (Value.slice a ls.length cl)) eAl) rfl hi) ?_; refine WP.vl rfl (Yld.fieldAddr rfl ty_fd_53_0 rfl) ?_; refine WP.vl rfl (Yld.loadC (v := .bool ls[i].put) rfl ty_sc_4 rfl (There.i hbl) hc0) ?_; by_cases hput : ls[i].put = true
     ·try rw [hput]
      refine WP.nil ?_; refine WP.sub [(0, _), (6, _), (11, _), (12, _), (13, _), (96, _), (103, _)] ?_ ⟨rfl, rfl, rfl, rfl, rfl, rfl, rfl, trivial⟩
      refine WP.next ?_; refine WP.condT rfl ?_; refine WP.region [0, 1, 2] rfl ?_; refine WP.mv rfl rfl ?_; refine WP.loud rfl rfl ?_; refine Op.buildSlice rfl ty_sl_47 ty_el2_47 rfl rfl rfl rfl (vs := [_]) rfl (segs := [(0, [_])]) (cs := bytesV [1]) rfl rfl zS (fun bx => ?_)
      refine WP.shO (own_lit (b := bx) (l := [1]) (k := 1) rfl) (fun J2 hJ2 hs18 => ?_)
      have hmy := put_may (d := [1]) hw hW he (by decide) (by decide) (by decide)
      refine WP.loud rfl rfl ?_; refine Op.cl (law_put (hT.mono hJ2) ((Imm.le_trans hJ hJ2).2 _ _ hrg_0) (d := [1]) he hs18 hmy.1 (by omega) hmy.2.1 hmy.2.2) rfl Tryz.func13 rfl rfl rfl rfl ?_; rintro v J3b L18 hJ3b ⟨c, tb3, rfl, hput2, hT3⟩
      try simp only [nf]
      obtain ⟨hg3, htk3, N3, hN3, hw3, _⟩ := hput2.one (x := xx) hw hN he (by decide) (by decide)
      obtain ⟨J3, rfl⟩ : ∃ u, u = J3b := ⟨_, rfl⟩
      have hJ3 := Imm.le_trans hJ2 hJ3b
      refine WP.nil ?_; refine WP.sub [(0, _), (6, _), (11, _), (12, _), (13, _), (96, _), (103, _)] ?_ ⟨rfl, rfl, rfl, rfl, rfl, rfl, rfl, trivial⟩
      refine WP.leave (WP.next ?_)
      refine WP.region [0, 1, 2] rfl ?_; refine WP.mv rfl rfl ?_; refine WP.vl rfl (Yld.add64 rfl rfl rfl (by omega)) ?_; refine WP.mv rfl rfl ?_; refine WP.nil ?_; refine WP.sub [(0, _), (6, _), (11, _), (12, _), (13, _), (96, _), (103, _)] ?_ ⟨rfl, rfl, rfl, rfl, rfl, rfl, rfl, trivial⟩
      exact WP.again ⟨i + 1, N3, tb3, xx, z1, z2, J3, L1, L2, L18, Ll2⟩ ⟨(show i + 1 ≤ ls.length by omega), Imm.le_trans hJ hJ3, hN3, hw3, hi1.gro hg3, hi2.gro hg3, hp1, hp2, hfl, (show tb3.tok ≤ 2 + (i + 1) by omega), hm1.mono hJ3, hm2.mono hJ3, hT3, hlg.mono hJ3⟩ (show ls.length - (i + 1) < ls.length - i by omega) ⟨rfl, rfl, rfl, rfl, rfl, trivial⟩ rfl zA
     ·have hput : ls[i].put = false := eq_false_of_ne_true hput
      try rw [hput]
      refine WP.nil ?_; refine WP.sub [(0, _), (6, _), (11, _), (12, _), (13, _), (96, _), (103, _)] ?_ ⟨rfl, rfl, rfl, rfl, rfl, rfl, rfl, trivial⟩
      refine WP.next ?_; refine WP.condF rfl ?_; refine WP.seq ?_; refine WP.region [0, 1, 2, 3, 4, 5, 6] rfl ?_; iterate 2 refine WP.mv rfl rfl ?_
      refine WP.vl rfl (Yld.indexAddr (i := i) rfl ty_sl_22 (congrArg (fun a => some (Value.slice a ls.length cl)) eAl) rfl hi) ?_; refine WP.vl rfl (Yld.fieldAddr rfl ty_fd_53_3 rfl) ?_; refine WP.vl rfl (Yld.loadC (v := .int .i64 ls[i].n) rfl ty_sc_3 rfl (There.i hbl) hc3) ?_; refine WP.vl rfl (Yld.remT rfl rfl rfl ⟨by decide, by decide⟩) ?_; refine WP.split rfl rfl rfl rfl (Yld.eql rfl rfl rfl) (fun hodd => ?_) (fun hodd => ?_)
      ·refine WP.nil ?_
       refine WP.sub [(0, _), (6, _), (11, _), (12, _), (13, _), (96, _), (103, _), (113, _)] ?_ ⟨rfl, rfl, rfl, rfl, rfl, rfl, rfl, rfl, trivial⟩
       refine WP.next ?_; refine WP.condT rfl ?_; refine WP.region [0, 1] rfl ?_; refine WP.mv rfl rfl ?_; refine WP.loud rfl rfl ?_; refine Op.cl (mx_Step (hJ.2 _ _ hst_0) hT hlg hm1 hw (by rw [hp1]; exact hW) hi1 (by decide : bdA.b ≤ 1099511627776) (by omega)) rfl Tryz.func17 rfl rfl rfl rfl ?_; rintro v J3 L20 hJ3 ⟨c3, z3, tb3, xx3, Lm3, Lt3, Ll3, rfl, hs3, rfl, hm3, hT3, hlg3⟩
       try simp only [nf]
       obtain ⟨k1, k2, k3, k4, k5, k6⟩ := hs3.step hw (by rw [hp1]; exact hW) hi1
       refine WP.nil ?_; refine WP.sub [(0, _), (6, _), (11, _), (12, _), (13, _), (96, _), (103, _), (113, _)] ?_ ⟨rfl, rfl, rfl, rfl, rfl, rfl, rfl, rfl, trivial⟩
       refine WP.leave (WP.next ?_)
       refine WP.region [0, 1, 2] rfl ?_; refine WP.mv rfl rfl ?_; refine WP.vl rfl (Yld.add64 rfl rfl rfl (by omega)) ?_; refine WP.mv rfl rfl ?_; refine WP.nil ?_; refine WP.sub [(0, _), (6, _), (11, _), (12, _), (13, _), (96, _), (103, _), (113, _)] ?_ ⟨rfl, rfl, rfl, rfl, rfl, rfl, rfl, rfl, trivial⟩
       exact WP.again ⟨i + 1, N, tb3, xx3, z3, z2, J3, Lm3, L2, Lt3, Ll3⟩ ⟨(show i + 1 ≤ ls.length by omega), Imm.le_trans hJ hJ3, hN, k1, k4, hi2.gro k2, k5.trans hp1, hp2, (by obtain ⟨q, rfl⟩ := hfl; cases hs3 with | fl _ => exact ⟨_, rfl⟩), (show tb3.tok ≤ 2 + (i + 1) by omega), hm3, hm2.mono hJ3, hT3, hlg3⟩ (show ls.length - (i + 1) < ls.length - i by omega) ⟨rfl, rfl, rfl, rfl, rfl, trivial⟩ rfl zA
      ·refine WP.nil ?_
       refine WP.sub [(0, _), (6, _), (11, _), (12, _), (13, _), (96, _), (103, _), (113, _)] ?_ ⟨rfl, rfl, rfl, rfl, rfl, rfl, rfl, rfl, trivial⟩
       refine WP.next ?_; refine WP.condF rfl ?_; refine WP.region [0, 1] rfl ?_; refine WP.mv rfl rfl ?_; refine WP.loud rfl rfl ?_; refine Op.cl (mx_Step (hJ.2 _ _ hst_0) hT hlg hm2 hw (by rw [hp2]; exact hW) hi2 (by decide : bdA.b ≤ 1099511627776) (by omega)) rfl Tryz.func17 rfl rfl rfl rfl ?_; rintro v J3 L20 hJ3 ⟨c3, z3, tb3, xx3, Lm3, Lt3, Ll3, rfl, hs3, rfl, hm3, hT3, hlg3⟩
       try simp only [nf]
       obtain ⟨k1, k2, k3, k4, k5, k6⟩ := hs3.step hw (by rw [hp2]; exact hW) hi2
       refine WP.nil ?_; refine WP.sub [(0, _), (6, _), (11, _), (12, _), (13, _), (96, _), (103, _), (113, _)] ?_ ⟨rfl, rfl, rfl, rfl, rfl, rfl, rfl, rfl, trivial⟩
       refine WP.leave (WP.next ?_)
       refine WP.region [0, 1, 2] rfl ?_; refine WP.mv rfl rfl ?_; refine WP.vl rfl (Yld.add64 rfl rfl rfl (by omega)) ?_; refine WP.mv rfl rfl ?_; refine WP.nil ?_; refine WP.sub [(0, _), (6, _), (11, _), (12, _), (13, _), (96, _), (103, _), (113, _)] ?_ ⟨rfl, rfl, rfl, rfl, rfl, rfl, rfl, rfl, trivial⟩
       exact WP.again ⟨i + 1, N, tb3, xx3, z1, z3, J3, L1, Lm3, Lt3, Ll3⟩ ⟨(show i + 1 ≤ ls.length by omega), Imm.le_trans hJ hJ3, hN, k1, hi1.gro k2, k4, hp1, k5.trans hp2, hfl, (show tb3.tok ≤ 2 + (i + 1) by omega), hm1.mono hJ3, hm3, hT3, hlg3⟩ (show ls.length - (i + 1) < ls.length - i by omega) ⟨rfl, rfl, rfl, rfl, rfl, trivial⟩ rfl zA
    ·refine WP.nil ?_
     refine WP.sub [(0, _), (6, _), (11, _), (12, _), (13, _), (96, _)] ?_ ⟨rfl, rfl, rfl, rfl, rfl, rfl, trivial⟩
     refine WP.next ?_; refine WP.condF rfl ?_; refine WP.exit (WP.thenE (WP.thenE (WP.hit (WP.next (WP.seq ?_)))))
     refine WP.region [0, 1, 2] rfl ?_; refine WP.mv rfl rfl ?_; refine WP.loud rfl rfl ?_; refine Op.cl (law_count (hJ.2 _ _ hst_0) hT hlg hm1 hw (by rw [hp1]; exact hW) hi1 (by decide : bdA.b ≤ 1099511627776) (by omega)) rfl Tryz.func19 rfl rfl rfl rfl ?_; rintro v J4 L22 hJ4 ⟨kk, z3, tb3, xx3, Lm3, Lt3, Ll3, rfl, hcc, _⟩
     try simp only [nf]
     obtain ⟨qz, rfl⟩ := hfl
     have hbb := CountsF.bound (f := 99) (z := .fl qz) hw (by rw [hp1]; exact hW) hi1 (Nat.le_trans (Fl.mu_bd _ _ _).2 (by decide)) hcc
     have hbb2 : (Mx.fl qz).mu bdA tb2 xx ≤ 8 := (Fl.mu_bd _ _ _).2
     refine WP.mv rfl rfl ?_; refine WP.nil ?_; refine WP.sub [(0, _), (6, _), (11, _), (12, _), (13, _), (14, _), (96, _)] ?_ ⟨rfl, rfl, rfl, rfl, rfl, rfl, rfl, trivial⟩
     refine WP.next (WP.seq ?_)
     refine WP.region [0, 1, 2, 3, 4, 5, 6] rfl ?_; refine WP.mv rfl rfl ?_; refine WP.vl rfl (Yld.geq rfl rfl rfl true (decide_eq_true (by omega))) ?_; refine WP.mv rfl rfl ?_; refine WP.valG rfl rfl rfl rfl rfl rfl rfl (Yld.move rfl rfl) ?_; refine WP.valG rfl rfl rfl rfl rfl rfl rfl (Yld.leq rfl rfl rfl true (decide_eq_true (by omega))) ?_; refine WP.vl rfl (Yld.pickT rfl rfl rfl) ?_; refine WP.mv rfl rfl ?_; refine WP.nil ?_; refine WP.sub [(0, _), (4, _), (6, _), (11, _), (12, _), (13, _), (14, _), (96, _)] ?_ ⟨rfl, rfl, rfl, rfl, rfl, rfl, rfl, rfl, trivial⟩
     refine WP.next (WP.ret ?_)
     refine WP.fn .ret (.inr rfl) (res1 rfl rfl) [] (Imm.le_trans hJ_0 (Imm.le_trans hJ hJ4)) ?_; exact ⟨rfl, rfl⟩


end Go.Hp
