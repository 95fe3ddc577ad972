import Derived.Test.YtcebcphnmbhcpaaGreatCacP
set_option linter.unusedVariables false
set_option linter.unusedSimpArgs false
namespace Go.Hp
open Go Go.Proofs

def bdC : Bd := ⟨200, 51⟩
theorem strs_one (l : List (List UInt8)) : (l.map strV).all (·.oneCell') = true := by simp [List.all_eq_true, strV, Value.oneCell']
theorem rc_small {B : Bd} {x : Lg} {N : Nds} {e : Ent} (h : EOk B x 1 N e) (hx : x.pl ≤ 488) (hb : B.b ≤ 200) : (pageB (rcOf 1 false e)).length ≤ 30 + (e.nodes.length - e.kept.toNat) * 220 := by
 have hpl := h.place
 have hkp := h.kept
 have hlen := h.len
 have key : ∀ (M : Nds) (q : Int), 0 ≤ q → q ≤ 488 → (∀ y ∈ M, y.2.length ≤ 200) → M.length ≤ 64 → (pageB ⟨1, q, M⟩).length ≤ 30 + M.length * 220 := by
  intro M q h0 h1 h2 h3
  have g1 := numB_10 (n := (1 : Int).toNat) (by decide)
  have g2 := numB_10 (n := q.toNat) (by omega)
  have g3 := numB_10 (n := M.length) (by omega)
  have g4 := nodeB_le (B := 200) (by decide) h2
  unfold pageB nodesB
  simp only [List.length_append]
  omega
 unfold rcOf
 split
 ·have hl : (e.nodes.take (e.nodes.length - e.kept.toNat)).length = e.nodes.length - e.kept.toNat := by rw [List.length_take]; omega
  have := key (e.nodes.take (e.nodes.length - e.kept.toNat)) e.place hpl.1 (by omega) (fun y hy => Nat.le_trans (h.szn y (List.mem_of_mem_take hy)) hb) (by omega)
  rw [hl] at this; exact this
 ·rename_i hc
  have hk0 : e.kept = 0 := by
   rcases h.st with ⟨_, a, _⟩ | ⟨q, a1, a2, _⟩
   ·exact a
   ·exact absurd ⟨rfl, by omega⟩ hc
  have := key e.nodes 0 (Int.le_refl _) (by decide) (fun y hy => Nat.le_trans (h.szn y hy) hb) hlen
  rw [hk0]; exact this
theorem chain_fl {x : Lg} {N : Nds} {tb : Tb} {e : Ent} (w : CW 60 bdC (W1 N) tb x) (hN : N ≠ []) (he : tb.ent 1 = some e) (hn : e.nodes = N) (hk : e.kept < (e.nodes.length : Int)) (hp : x.pl + 2 * (e.nodes.length - e.kept.toNat) ≤ 400) : FlG 60 bdC (W1 N) tb x 1 false e ∧ ∀ r : Rc, r.b = pageB (rcOf 1 false e) → (x.push r).pl ≤ x.pl + 2 * (e.nodes.length - e.kept.toNat) + 2 := by
 have hW : W1 N 1 ≠ [] := by rw [W1_1]; exact hN
 have hok := (w.held hW he).ok
 have h1 := rc_small hok (by omega) (by decide)
 have h2 : N.length ≤ 51 := by have := hok.sz.1; rw [W1_1] at this; exact this
 rw [hn] at h1 hp hk ⊢
 have h3 : kmany (pageB (rcOf 1 false e)) ≤ 2 * (N.length - e.kept.toNat) + 2 := by unfold kmany; omega
 refine ⟨⟨w, hW, he, by rw [hn]; exact hN, .inr (by rw [hn]; exact hk), by omega, by omega⟩, fun r hr => ?_⟩
 have h4 : r.n = kmany r.b := rfl
 rw [x.pl_push, h4, hr]; omega
structure ChX where
 i : Nat
 N : Nds
 v : Value
 e : Ent
 tb : Tb
 x : Lg
 J : Imm
 Lt : Chunks
 Ll : Chunks
/-- The chain's world behind some nodes. -/
structure ChI (i : Nat) (N : Nds) (tb : Tb) (x : Lg) (e : Ent) : Prop where
 nn : N ≠ []
 nl : N.length ≤ i + 1
 w : CW 60 bdC (W1 N) tb x
 he : tb.ent 1 = some e
 hn : e.nodes = N
 pot : x.pl + 2 * (e.nodes.length - e.kept.toNat) ≤ 10 + 4 * i
 tok : tb.tok ≤ 2 + 400 * i
theorem ChI.skip {i : Nat} {N : Nds} {tb : Tb} {x : Lg} {e : Ent} (h : ChI i N tb x e) : ChI (i + 1) N tb x e := ⟨h.nn, by have := h.nl; omega, h.w, h.he, h.hn, by have := h.pot; omega, by have := h.tok; omega⟩
/-- Behind a put. -/
structure ChP (i : Nat) (N : Nds) (tb : Tb) (x : Lg) (e : Ent) : Prop where
 nn : N ≠ []
 nl : N.length ≤ i + 2
 w : CW 60 bdC (W1 N) tb x
 he : tb.ent 1 = some e
 hn : e.nodes = N
 hk : e.kept < (e.nodes.length : Int)
 pot : x.pl + 2 * (e.nodes.length - e.kept.toNat) ≤ 12 + 4 * i
 tok : tb.tok ≤ 3 + 400 * i
theorem ChI.put {i : Nat} {N : Nds} {tb tb2 : Tb} {x : Lg} {e : Ent} (h : ChI i N tb x e) (hi : i < 50) {d : List UInt8} (hd : d.length ≤ 200) {c : Bool} (k : CPutR tb 1 e d c tb2) : c = true ∧ ChP i ((false, d) :: N) tb2 x { putE e d with tok := tb.tok + 1 } := by
 have hnl := h.nl
 have hc : c = true := by
  rcases k with ⟨_, _, k | k⟩ | ⟨k, _⟩
  ·exact absurd (h.hn ▸ k) h.nn
  ·rw [h.hn] at k; omega
  ·exact k
 obtain ⟨_, g2, N2, _, g4, ⟨_, rfl, _, g5⟩ | ⟨q, _⟩⟩ := k.one h.w h.nn h.he (fun _ => by show _ ≤ 51; omega) hd
 ·have hW : W1 N 1 ≠ [] := by rw [W1_1]; exact h.nn
  have hkp := (h.w.held hW h.he).ok.kept
  have hp := h.pot; have ht := h.tok
  refine ⟨hc, by simp, by rw [List.length_cons]; omega, g4, Swapped.tok g5, by show (false, d) :: e.nodes = _; rw [h.hn], ?_, ?_, by omega⟩
  ·show e.kept < ((((false, d) :: e.nodes).length : Nat) : Int); rw [List.length_cons]; omega
  ·show x.pl + 2 * (((false, d) :: e.nodes).length - e.kept.toNat) ≤ _; rw [List.length_cons]; omega
 ·rw [hc] at q; cases q
/-- Behind a flush. -/
structure ChE (i : Nat) (N : Nds) (tb : Tb) (x : Lg) (e : Ent) : Prop where
 nn : N ≠ []
 nl : N.length ≤ i + 2
 w : CW 60 bdC (W1 N) tb x
 he : tb.ent 1 = some e
 hn : e.nodes = N
 hk : e.kept = (e.nodes.length : Int)
 pot : x.pl ≤ 14 + 4 * i
 tok : tb.tok ≤ 102 + 400 * i
theorem ChP.flush {i : Nat} {N : Nds} {tb tb2 : Tb} {x x2 : Lg} {e : Ent} (h : ChP i N tb x e) (hi : i < 50) {k : Int} {z2 : Mx} (hc : Counts tb x (.fl (fl0 1 false)) k tb2 x2 z2) (ht : tb2.tok ≤ tb.tok + 99) : k = 4 ∧ ∃ e2, ChE i N tb2 x2 e2 := by
 have hp := h.pot
 obtain ⟨g, hg⟩ := chain_fl h.w h.nn h.he h.hn h.hk (by omega)
 obtain ⟨q, qs, r, qr, qb, rfl⟩ := fl_run g (j := 4) (k := 0) (f := 95) (z2 := fl0 1 false) rfl (by decide) (Fl4.start g) hc
 have := hg r qb; have := h.tok
 exact ⟨q, _, h.nn, h.nl, g.behind qs qr qb, Swapped.tok qs, h.hn, rfl, by omega, by omega⟩
/-- Behind an evict. -/
structure ChV (i : Nat) (N : Nds) (tb : Tb) (x : Lg) (e : Ent) : Prop where
 nn : N ≠ []
 nl : N.length ≤ i + 2
 w : CW 60 bdC (W1 N) tb x
 he : tb.ent 1 = some e
 hn : e.nodes = []
 pot : x.pl ≤ 14 + 4 * i
 tok : tb.tok ≤ 202 + 400 * i
theorem ChE.evict {i : Nat} {N : Nds} {tb tb2 : Tb} {x x2 : Lg} {e : Ent} (h : ChE i N tb x e) {k : Int} {z2 : Mx} (hc : Counts tb x (.ec (ec0 1)) k tb2 x2 z2) (ht : tb2.tok ≤ tb.tok + 99) : 2 ≤ k ∧ ∃ e2, ChV i N tb2 x2 e2 := by
 have hW : W1 N 1 ≠ [] := by rw [W1_1]; exact h.nn
 have hn0 : e.nodes ≠ [] := by rw [h.hn]; exact h.nn
 obtain ⟨q, qs, rfl⟩ := ec_run1 h.w hW h.he hn0 h.hk (z := ec0 1) rfl rfl (f := 97) hc
 have := h.tok
 exact ⟨by omega, _, h.nn, h.nl, h.w.away hW h.he hn0 h.hk qs, Swapped.tok qs, rfl, h.pot, by omega⟩
theorem ChP.evict {i : Nat} {N : Nds} {tb tb2 : Tb} {x x2 : Lg} {e : Ent} (h : ChP i N tb x e) (hi : i < 50) {k : Int} {z2 : Mx} (hc : Counts tb x (.ec (ec0 1)) k tb2 x2 z2) (ht : tb2.tok ≤ tb.tok + 99) : 2 ≤ k ∧ ∃ e2, ChV i N tb2 x2 e2 := by
 have hp := h.pot
 have hW : W1 N 1 ≠ [] := by rw [W1_1]; exact h.nn
 obtain ⟨g, hg⟩ := chain_fl h.w h.nn h.he h.hn h.hk (by omega)
 obtain ⟨q, tb3, r, q1, q2, q3, rfl, q4⟩ := ec_run3 g (f := 92) hc
 have := hg r q3; have := h.tok
 exact ⟨by omega, _, h.nn, h.nl, (g.behind q1 q2 q3).away hW (Swapped.tok q1) (by exact g.nn) rfl q4, Swapped.tok q4, rfl, by omega, by omega⟩
theorem ChV.fault {i : Nat} {N : Nds} {tb tb2 : Tb} {x x2 : Lg} {e : Ent} (h : ChV i N tb x e) {k : Int} {z2 : Mx} (hc : Counts tb x (.fa (fa0 1)) k tb2 x2 z2) (w2 : CW 60 bdC (W1 N) tb2 x2) (ht : tb2.tok ≤ tb.tok + 99) : 3 ≤ k ∧ ∃ e2, ChI (i + 1) N tb2 x2 e2 := by
 have hW : W1 N 1 ≠ [] := by rw [W1_1]; exact h.nn
 have hmu : (fa0 1).mu bdC.k tb ≤ 99 := Nat.le_trans (Nat.le_of_eq (Fa.mu1 rfl)) (by decide)
 obtain ⟨rfl, e2, h1, h2, h3⟩ := fa_in (f := 99) h.w hW (FaI.new _ _ _ _) (by decide) (fun q => absurd rfl q) hmu hc
 have hb := CountsF.bound (f := 99) (z := .fa (fa0 1)) h.w hW (FaI.new _ _ _ _) hmu hc
 have h4 := h3 _ h.he h.hn
 have h5 := ((w2.held hW h1).ok.nds.resolve_left h2).trans (W1_1 _)
 have hp := h.pot; have := h.tok; have := h.nl
 exact ⟨(fa_three h.w hW h.he h.hn (f := 97) hc hb.1).1, e2, h.nn, by omega, w2, h1, h5, by rw [h4]; omega, by omega⟩
theorem ChP.on {i : Nat} {N : Nds} {tb : Tb} {x : Lg} {e : Ent} (h : ChP i N tb x e) : ChI (i + 1) N tb x e := ⟨h.nn, by have := h.nl; omega, h.w, h.he, h.hn, by have := h.pot; omega, by have := h.tok; omega⟩
theorem ChE.on {i : Nat} {N : Nds} {tb : Tb} {x : Lg} {e : Ent} (h : ChE i N tb x e) : ChI (i + 1) N tb x e := ⟨h.nn, by have := h.nl; omega, h.w, h.he, h.hn, by have := h.pot; have := h.hk; omega, by have := h.tok; omega⟩
theorem law_CacheChains {I : Imm} {ls : List Chg} {vl : Value} (hl0 : Slc I 5 (RChg I) vl ls) (hln : ls.length ≤ 140737488351232) : Spec Tryz.prog 5 [vl] I [] (fun v J L => v = .bool true ∧ L = []) := by
 have hsl := hl0
 obtain ⟨Al, cl, rfl, _, _⟩ := id hl0
 refine Spec.of Tryz.func5 rfl Tryz.ntmps5 (Nat.le_of_ble_eq_true rfl) (fun F => ?_)
 try simp only [nf]
 dsimp only [argsEnv]
 refine WP.seq ?_; refine WP.region [0] rfl ?_; refine WP.mv rfl rfl ?_; refine WP.nil (WP.next (WP.seq ?_))
 refine WP.region [0, 1] rfl ?_; refine WP.loud rfl rfl ?_; refine Op.cl law_awake rfl Tryz.func7 rfl rfl rfl rfl ?_; rintro v JA La hJA ⟨rfl, rfl⟩
 try simp only [nf]
 refine WP.mv rfl rfl ?_; refine WP.nil ?_; refine WP.sub [(0, _), (2, _), (3, _)] ?_ ⟨rfl, rfl, rfl, trivial⟩
 refine WP.next (WP.seq ?_)
 refine WP.region [0, 1] rfl ?_; refine WP.loud rfl rfl ?_; refine Op.cl (txn_Begun (m := 60) (by decide) (by decide)) rfl Tryz.func8 rfl rfl rfl rfl ?_; rintro v Jb Lb hJb ⟨rfl, x, d, s, l, t, q, rt, rm, r9, tb, Ll, Lt, rfl, rfl, hl, hT, hk0, hn0, hs0, hg0⟩
 try simp only [nf]
 refine WP.mv rfl rfl ?_; refine WP.nil ?_; refine WP.sub [(0, _), (2, _), (3, _), (4, _)] ?_ ⟨rfl, rfl, rfl, rfl, trivial⟩
 refine WP.next (WP.seq (WP.seq ?_))
 refine WP.region [0, 1, 2, 3, 4, 5] rfl ?_; refine WP.mv rfl rfl ?_; refine WP.vl rfl (Yld.not rfl rfl) ?_; refine WP.mv rfl rfl ?_; refine WP.valG rfl rfl rfl rfl rfl rfl rfl (Yld.move rfl rfl) ?_; refine WP.valG rfl rfl rfl rfl rfl rfl rfl (Yld.eqlNil rfl ty_pt_24 rfl rfl) ?_; refine WP.vl rfl (Yld.pickF rfl rfl rfl) ?_; refine WP.nil ?_; refine WP.sub [(0, _), (2, _), (3, _), (4, _), (24, _)] ?_ ⟨rfl, rfl, rfl, rfl, rfl, trivial⟩
 refine WP.next ?_; refine WP.condF rfl ?_; refine WP.skip (WP.next (WP.seq ?_))
 refine WQ.start Tryzmixed 8 zK _ rfl [8, 9] rfl ?_; refine WQ.val rfl rfl rfl (Yld.move rfl rfl) ?_; refine WQ.val rfl rfl rfl (Yld.nilCheck rfl rfl) ?_; refine WQ.val rfl rfl rfl (Yld.fieldAddr rfl ty_fd_37_3 rfl) ?_; refine WQ.val rfl rfl rfl (Yld.ld (v := .pointer (some ⟨t, 0, none⟩)) rfl ty_sc_31 rfl rfl) ?_; refine WQ.val rfl rfl rfl (Yld.move rfl rfl) ?_; refine WQ.val rfl rfl rfl (Yld.nilCheck rfl rfl) ?_; refine WQ.val rfl rfl rfl (Yld.fieldAddr rfl ty_fd_37_2 rfl) ?_; refine WQ.val rfl rfl rfl (Yld.ld (v := .pointer (some ⟨l, 0, none⟩)) rfl ty_sc_30 rfl rfl) ?_; refine WQ.nil ?_; refine WP.loud rfl rfl ?_; refine Op.cl (cac_New (t := t) (l := l)) rfl Tryz.func9 rfl rfl rfl rfl ?_; rintro v J Lst - ⟨rfl, st, rfl, rfl⟩
 try simp only [nf]
 refine WP.mv rfl rfl ?_; refine WP.nil ?_; refine WP.sub [(0, _), (2, _), (3, _), (4, _), (5, _), (24, _)] ?_ ⟨rfl, rfl, rfl, rfl, rfl, rfl, trivial⟩
 refine WP.next (WP.seq ?_)
 refine WP.region [0, 1, 2, 3, 4, 5, 6, 7, 8, 9] rfl ?_; refine WP.mv rfl rfl ?_; refine WP.vl rfl (Yld.nilCheck rfl rfl) ?_; refine WP.vl rfl (Yld.fieldAddr rfl ty_fd_37_3 rfl) ?_; refine WP.vl rfl (Yld.ld (v := .pointer (some ⟨t, 0, none⟩)) rfl ty_sc_31 rfl rfl) ?_; refine WP.loud rfl rfl ?_; refine Op.cl (tabT_AllocN hT (by omega) (m := 0) (by decide) (upto0 hg0)) rfl Tryz.func10 rfl rfl rfl rfl ?_; rintro v J1 L1 hJ1 ⟨x1, rfl, hu1, hup1, hT1⟩
 try simp only [nf]
 have hk1 := hu1.tok
 refine WP.mv rfl rfl ?_; iterate 2 refine WP.vl rfl (Yld.extract rfl rfl rfl) ?_
 iterate 2 refine WP.mv rfl rfl ?_
 refine WP.nil ?_; refine WP.sub [(0, _), (2, _), (3, _), (4, _), (5, _), (6, _), (7, _), (24, _)] ?_ ⟨rfl, rfl, rfl, rfl, rfl, rfl, rfl, rfl, trivial⟩
 refine WP.next (WP.seq ?_)
 refine WD.start Tryzmixed 9 (fun c o => c = x ∧ o = row 37 [.pointer (some ⟨d, 0, none⟩), .pointer (some ⟨s, 0, none⟩), .pointer (some ⟨l, 0, none⟩), .pointer (some ⟨t, 0, none⟩), .pointer (some ⟨q, 0, none⟩), .pointer (some ⟨rt, 0, none⟩), .pointer (some ⟨rm, 0, none⟩), .pointer (some ⟨r9, 0, none⟩)]) (fun _ _ => False) (by rintro _ _ ⟨rfl, rfl⟩; exact zM) (fun _ _ h => h.elim) 11 [false, false, false, false, false, false, false, false, false, false, false] rfl rfl ?_; refine WD.vl (i := 0) rfl (Yld.move rfl rfl) ?_; refine WD.vl (i := 1) rfl (Yld.nilCheck rfl rfl) ?_; refine WD.vl (i := 2) rfl (Yld.fieldAddr rfl ty_fd_37_3 rfl) ?_; refine WD.val1 (i := 3) rfl rfl rfl rfl zK rfl zK (Yld.load (v := .pointer (some ⟨t, 0, none⟩)) rfl ty_sc_31 rfl (.inl ⟨rfl, rfl⟩) rfl) ?_; refine WD.vl (i := 4) rfl (Yld.move rfl rfl) ?_; refine WD.loud (i := 5) zK rfl rfl rfl ?_; refine Op.buildSlice rfl ty_sl_47 ty_el2_47 rfl rfl rfl rfl (vs := [_, _, _, _]) rfl (segs := [(0, [_]), (1, [_]), (2, [_]), (3, [_])]) (cs := bytesV [98, 97, 115, 101]) rfl rfl zS (fun bl => ?_)
 refine WD.gR ?_; refine WD.loud (i := 6) zK rfl rfl rfl ?_; refine Op.mark (cs := bytesV [98, 97, 115, 101]) rfl Tryz.underlying47 zK rfl rfl rfl (by repeat (first | exact Rm.chunk | exact Rm.here | exact Rm.nil0 | apply Rm.skip | apply Rm.skipS)) (fun J5 hJ5 hm5 => ?_)
 have hs5 := Im_lit' (c := 4) hm5 (Nat.le_refl _)
 refine WD.gR ?_; refine WD.loud (i := 7) zK rfl rfl rfl ?_; refine Op.cl (txn_Page (d := [98, 97, 115, 101]) hs5) rfl Tryz.func12 rfl rfl rfl rfl ?_; rintro v J7 L7 hJ7 ⟨rfl, hr7⟩
 try simp only [nf]
 obtain ⟨A7, c7, rfl⟩ := hr7.sl
 obtain ⟨nv7, hp7, hq7⟩ := id hr7.ex
 have hJ17 := Imm.le_trans hJ5 hJ7
 have hre7 : REnt J7 (newE [(true, [98, 97, 115, 101])]) [.int .u64 0, .slice A7 1 c7, .int .i64 0, .int .i64 0, .int .i64 0, .int .i64 0, .int .i64 0, .int .i64 0, .slice none 0 0] := ⟨_, _, nv7, rfl, hp7, hq7, ⟨none, 0, rfl, Nat.le_refl _, rfl, .inl rfl⟩⟩
 refine WD.gR ?_; refine WD.vl (i := 8) rfl (Yld.buildS (pl := [(1, 1, 1)]) rfl ty_zr_50 ty_zd_50 zK rfl (vs := [_]) rfl (segs := [(1, [_])]) rfl rfl zS) ?_; refine WD.loud (i := 9) zK rfl rfl rfl ?_; refine Op.cl (tabT_SwapX (hT1.mono hJ17) (p := 1) (tk := 1) (e := newE [(true, [98, 97, 115, 101])]) hre7 ⟨(by show 1 ≤ _; decide), (fun y hy => by cases List.mem_singleton.1 hy; show 4 ≤ _; decide), Nat.zero_le _⟩ (by omega)) rfl Tryz.func11 rfl rfl rfl rfl ?_; rintro v J8 L8 hJ8 ⟨r8, tb_0, rfl, hsw8, hT8⟩
 try simp only [nf]
 obtain ⟨hr8, w_0, he_0, htk_0⟩ := CW.one (m := 60) (B := bdC) (by decide) (by decide) hk0 hu1 (by decide) hsw8
 subst hr8
 have hJ18 := Imm.le_trans hJ17 hJ8
 obtain ⟨xx_0, hxx0⟩ : ∃ u, u = (⟨1, ⟨60, 1, 1⟩, 0, 8, [], 0, 0, 8⟩ : Lg) := ⟨_, rfl⟩
 rw [← hxx0] at w_0 hl
 refine WD.go (.inl rfl) (fun _ _ h => h.elim) ?_; refine WD.vl (i := 10) rfl (Yld.assign rfl rfl) ?_; refine WD.done zK ?_; refine WP.sub [(0, _), (2, _), (3, _), (4, _), (5, _), (6, _), (7, _), (8, _), (24, _)] ?_ ⟨rfl, rfl, rfl, rfl, rfl, rfl, rfl, rfl, rfl, trivial⟩
 refine WP.next (WP.seq (WP.seq ?_))
 refine WP.region [0, 1, 2, 3, 4, 5, 6, 7, 8, 9] rfl ?_; refine WP.mv rfl rfl ?_; refine WP.vl rfl (Yld.eqlNil rfl ty_pt_26 rfl rfl) ?_; refine WP.mv rfl rfl ?_; refine WP.valG rfl rfl rfl rfl rfl rfl rfl (Yld.move rfl rfl) ?_; refine WP.valG rfl rfl rfl rfl rfl rfl rfl (Yld.neq rfl rfl rfl false (decide_eq_false (by simp))) ?_; refine WP.vl rfl (Yld.pickF rfl rfl rfl) ?_; refine WP.mv rfl rfl ?_; refine WP.valG rfl rfl rfl rfl rfl rfl rfl (Yld.move rfl rfl) ?_; refine WP.valG rfl rfl rfl rfl rfl rfl rfl (Yld.neq rfl rfl rfl false (decide_eq_false (by simp))) ?_; refine WP.vl rfl (Yld.pickF rfl rfl rfl) ?_; refine WP.nil ?_; refine WP.sub [(0, _), (2, _), (3, _), (4, _), (5, _), (6, _), (7, _), (8, _), (24, _), (61, _)] ?_ ⟨rfl, rfl, rfl, rfl, rfl, rfl, rfl, rfl, rfl, rfl, trivial⟩
 refine WP.next ?_; refine WP.condF rfl ?_; refine WP.skip (WP.next (WP.seq ?_))
 refine WP.region [0, 1] rfl ?_; refine WP.loud rfl rfl ?_; refine Op.buildSlice rfl ty_sl_38 ty_el2_38 rfl rfl rfl rfl (vs := [_]) rfl (segs := [(0, [_])]) (cs := [strV [98, 97, 115, 101]]) rfl rfl zS (fun bs => ?_)
 refine WP.mv rfl rfl ?_; refine WP.nil ?_; refine WP.sub [(0, _), (2, _), (3, _), (4, _), (5, _), (6, _), (7, _), (8, _), (9, _), (24, _), (61, _)] ?_ ⟨rfl, rfl, rfl, rfl, rfl, rfl, rfl, rfl, rfl, rfl, rfl, trivial⟩
 refine WP.next (WP.seq (WP.seq ?_))
 refine WP.perm _ (show Take _ [(st, _)] _ from zT).perm ?_; refine WP.share (fun Ja hJa hst_a => ?_)
 try simp only [nf]
 refine WP.perm _ (show Take _ [(x, _)] _ from zT).perm ?_; refine WP.share (fun J_0 hJb_0 hrg_0 => ?_)
 try simp only [nf]
 have hst_0 := hJb_0.2 _ _ hst_a
 have hJ80 := Imm.le_trans hJa hJb_0
 have hT_0 := hT8.mono hJ80
 have hlg_0 := hl.mono (Imm.le_trans hJ1 (Imm.le_trans hJ18 hJ80))
 have hJ_0 := Imm.le_trans hJA (Imm.le_trans hJ1 (Imm.le_trans hJ18 hJ80))
 have hsl_0 := hsl
 refine WP.shO (Own.blk (T := 9) (sz := 1) (b := bs) (cap := 1) (n := 1) (xs := [strV [98, 97, 115, 101]]) (sp := []) rfl rfl (Nat.le_refl _)) (fun J_1 hJ_01 hws_0 => ?_)
 have hJ_1 := Imm.le_trans hJ_0 hJ_01
 have hT_1 := hT_0.mono hJ_01
 have hlg_1 := hlg_0.mono hJ_01
 have hst_1 := hJ_01.2 _ _ hst_0
 have hrg_1 := hJ_01.2 _ _ hrg_0
 refine WP.region [0] rfl ?_; refine WP.mv rfl rfl ?_; refine WP.nil (WP.next (WP.block ?_))
 refine WP.loop (X := ChX) (fun u : ChX => [(0, .slice Al ls.length cl), (4, .pointer (some ⟨x, 0, none⟩)), (5, .pointer (some ⟨st, 0, none⟩)), (9, u.v), (10, .int .i64 (u.i : Int))]) (fun u => u.J) (fun u : ChX => u.Lt ++ (u.Ll ++ F)) (fun u : ChX => u.i ≤ ls.length ∧ J_1.le u.J ∧ ChI u.i u.N u.tb u.x u.e ∧ SlRd (Imv u.J) u.v (u.N.map (·.2)).length 1 ((u.N.map (·.2)).map strV) ∧ IsT u.J t u.tb u.Lt ∧ IsLog u.J l s d (8 + 32 * 60) u.x (Dk.new (8 + 32 * 60)) u.Ll) (fun u => ls.length - u.i) ⟨0, [(true, [98, 97, 115, 101])], .slice (some ⟨bs, 0, none⟩) 1 1, { newE [(true, [98, 97, 115, 101])] with tok := 2 }, tb_0, xx_0, J_1, L8, Ll⟩ ⟨Nat.zero_le _, Imm.le_refl _, ⟨by simp, (by show 1 ≤ 0 + 1; decide), w_0, he_0, rfl, (by show xx_0.pl + 2 * (1 - 0) ≤ 10 + 4 * 0; rw [hxx0]; decide), (by show tb_0.tok ≤ 2 + 0; omega)⟩, hws_0, hT_1, hlg_1⟩ ⟨rfl, rfl, rfl, rfl, rfl, trivial⟩ rfl zA ?_
 rintro ⟨i, N, vws, e, tb2, xx, J, Lt2, Ll2⟩ ⟨hle, hJ, hch, hws, hT, hlg⟩; dsimp only at hle hJ hch hws hT hlg; obtain ⟨Aws, cws, rfl, _⟩ := id hws
 try dsimp only
 try simp only [nf]
 refine WP.seq (WP.seq ?_)
 refine WP.region [0, 1, 2, 3, 4, 5, 6, 7] rfl ?_; iterate 2 refine WP.mv rfl rfl ?_
 refine WP.vl rfl (Yld.len rfl ty_sl_22 rfl) ?_; refine WP.split rfl rfl rfl rfl (Yld.lss rfl rfl rfl) (fun hlt => ?_) (fun hlt => ?_)
 ·refine WP.mv rfl rfl ?_
  refine WP.valG rfl rfl rfl rfl rfl rfl rfl (Yld.move rfl rfl) ?_; refine WP.splitG rfl rfl rfl rfl rfl rfl rfl (Yld.lss rfl rfl rfl) (fun hlt50 => ?_) (fun hlt50 => ?_)
  ·have hi : i < ls.length := by omega
   obtain ⟨bl, kl, Tl, fl_, arl, eAl, hbl0, hc0, hc1, hc2, hc3, hc4, hcb⟩ := Slc.chg hsl_0 hi
   have hbl := (Imm.le_trans hJ_1 hJ).2 _ _ hbl0
   obtain ⟨Ab, cb, hvb, _⟩ := id hcb
   rw [hvb] at hc4 hcb
   have hcbJ := hcb.mono (fun b o q => (Imm.le_trans hJ_1 hJ).2 b o q)
   refine WP.vl rfl (Yld.pickT rfl rfl rfl) ?_; refine WP.nil ?_; refine WP.sub [(0, _), (4, _), (5, _), (9, _), (10, _), (70, _)] ?_ ⟨rfl, rfl, rfl, rfl, rfl, rfl, trivial⟩
   refine WP.next ?_; refine WP.condT rfl ?_; refine WP.skip (WP.next (WP.seq (WP.block (WP.seq (WP.seq ?_)))))
   refine WP.region [0, 1, 2, 3, 4, 5, 6] rfl ?_; iterate 2 refine WP.mv rfl rfl ?_
   refine WP.vl rfl (Yld.indexAddr (i := i) rfl ty_sl_22 (congrArg (fun a => some (Value.slice a ls.length cl)) eAl) rfl hi) ?_; refine WP.vl rfl (Yld.fieldAddr rfl ty_fd_53_4 rfl) ?_; refine WP.vl rfl (Yld.loadC (v := .slice Ab ls[i].b.length cb) rfl ty_sc_47 rfl (There.i hbl) hc4) ?_; refine WP.vl rfl (Yld.len rfl ty_sl_47 rfl) ?_; refine WP.split rfl rfl rfl rfl (Yld.gtr rfl rfl rfl) (fun h200 => ?_) (fun h200 => ?_)
   ·refine WP.nil ?_
    refine WP.sub [(0, _), (4, _), (5, _), (9, _), (10, _), (70, _), (79, _)] ?_ ⟨rfl, rfl, rfl, rfl, rfl, rfl, rfl, trivial⟩
    refine WP.next ?_; refine WP.condT rfl ?_; refine WP.exit (WP.thenE (WP.hit (WP.next ?_)))
    refine WP.region [0, 1, 2] rfl ?_; refine WP.mv rfl rfl ?_; refine WP.vl rfl (Yld.add64 rfl rfl rfl (by omega)) ?_; refine WP.mv rfl rfl ?_; refine WP.nil ?_; refine WP.sub [(0, _), (4, _), (5, _), (9, _), (10, _), (70, _), (79, _)] ?_ ⟨rfl, rfl, rfl, rfl, rfl, rfl, rfl, trivial⟩
    exact WP.again ⟨i + 1, N, .slice Aws (N.map (·.2)).length cws, e, tb2, xx, J, Lt2, Ll2⟩ ⟨(show i + 1 ≤ ls.length by omega), hJ, hch.skip, hws, hT, hlg⟩ (show ls.length - (i + 1) < ls.length - i by omega) ⟨rfl, rfl, rfl, rfl, rfl, trivial⟩ rfl zA
   ·have hW : W1 N 1 ≠ [] := by rw [W1_1]; exact hch.nn
    have hnl := hch.nl; have htk := hch.tok
    have hmy := put_may (d := ls[i].b) hch.w hW hch.he (fun h => by rw [W1_1] at h ⊢; show _ ≤ 51; omega) (by decide) (by show _ ≤ 200; omega)
    refine WP.nil ?_; refine WP.sub [(0, _), (4, _), (5, _), (9, _), (10, _), (70, _), (79, _)] ?_ ⟨rfl, rfl, rfl, rfl, rfl, rfl, rfl, trivial⟩
    refine WP.next ?_; refine WP.condF rfl ?_; refine WP.skip (WP.next (WP.seq ?_))
    refine WP.region [0, 1, 2, 3, 4, 5, 6, 7] rfl ?_; iterate 3 refine WP.mv rfl rfl ?_
    refine WP.vl rfl (Yld.indexAddr (i := i) rfl ty_sl_22 (congrArg (fun a => some (Value.slice a ls.length cl)) eAl) rfl hi) ?_; refine WP.vl rfl (Yld.fieldAddr rfl ty_fd_53_4 rfl) ?_; refine WP.vl rfl (Yld.loadC (v := .slice Ab ls[i].b.length cb) rfl ty_sc_47 rfl (There.i hbl) hc4) ?_; refine WP.loud rfl rfl ?_; refine Op.cl (law_put hT ((Imm.le_trans hJ_01 hJ).2 _ _ hrg_0) (d := ls[i].b) hch.he hcbJ hmy.1 (by omega) hmy.2.1 hmy.2.2) rfl Tryz.func13 rfl rfl rfl rfl ?_; rintro v JP L156 hJP ⟨c, tbP, rfl, hput, hTP⟩
    try simp only [nf]
    obtain ⟨hctrue, hP⟩ := hch.put (by omega) (by omega) hput
    subst hctrue
    have hblP := hJP.2 _ _ hbl
    have hlgP := hlg.mono hJP
    refine WP.mv rfl rfl ?_; refine WP.nil ?_; refine WP.sub [(0, _), (4, _), (5, _), (9, _), (10, _), (11, _), (70, _), (79, _)] ?_ ⟨rfl, rfl, rfl, rfl, rfl, rfl, rfl, rfl, trivial⟩
    refine WP.next (WP.seq (WP.seq ?_))
    refine WP.region [0, 1] rfl ?_; refine WP.mv rfl rfl ?_; refine WP.vl rfl (Yld.not rfl rfl) ?_; refine WP.nil ?_; refine WP.sub [(0, _), (4, _), (5, _), (9, _), (10, _), (11, _), (70, _), (79, _), (88, _)] ?_ ⟨rfl, rfl, rfl, rfl, rfl, rfl, rfl, rfl, rfl, trivial⟩
    refine WP.next ?_; refine WP.condF rfl ?_; refine WP.skip (WP.next (WP.seq ?_))
    refine WP.region [0, 1, 2, 3, 4, 5, 6, 7, 8, 9] rfl ?_; iterate 2 refine WP.mv rfl rfl ?_
    refine WP.vl rfl (Yld.indexAddr (i := i) rfl ty_sl_22 (congrArg (fun a => some (Value.slice a ls.length cl)) eAl) rfl hi) ?_; refine WP.vl rfl (Yld.fieldAddr rfl ty_fd_53_4 rfl) ?_; refine WP.vl rfl (Yld.loadC (v := .slice Ab ls[i].b.length cb) rfl ty_sc_47 rfl (There.i hblP) hc4) ?_; refine WP.vl rfl (Yld.str (e := 5) rfl zK zK zK rfl (hcbJ.mono (fun b o h => There.i (hJP.2 _ _ h)))) ?_; refine WP.loud rfl rfl ?_; refine Op.buildSlice rfl ty_sl_38 ty_el2_38 rfl rfl rfl rfl (vs := [_]) rfl (segs := [(0, [_])]) (cs := [strV ls[i].b]) rfl rfl zS (fun bq => ?_)
    refine WP.mv rfl rfl ?_; refine WP.loud rfl rfl ?_; refine Op.append (m := (N.map (·.2)).length) rfl ty_sl_38 ty_el_38 rfl rfl rfl rfl rfl (Own.blk (T := 9) (sz := 1) (b := bq) (cap := 1) (n := 1) (xs := [strV ls[i].b]) (sp := []) rfl rfl (Nat.le_refl _)) (hws.mono (fun b o h => There.i (hJP.2 _ _ h))) zT (strs_one _) (by rw [List.length_map]; omega) (by rw [List.length_map]; omega) (fun vu Lu hu => ?_)
    try simp only [nf]
    rw [Nat.add_comm 1 ((N.map (·.2)).length)] at hu
    obtain ⟨Av, cv, rfl, _⟩ := hu.slice
    refine WP.mv rfl rfl ?_; refine WP.nil ?_; refine WP.sub [(0, _), (4, _), (5, _), (9, _), (10, _), (11, _), (70, _), (79, _), (88, _)] ?_ ⟨rfl, rfl, rfl, rfl, rfl, rfl, rfl, rfl, rfl, trivial⟩
    refine WP.shO hu (fun J18 hJ18 hwsP => ?_)
    have hJP18 := Imm.le_trans hJP hJ18
    have hT18 := hTP.mono hJ18
    have hlg18 := hlgP.mono hJ18
    have hbl18 := hJ18.2 _ _ hblP
    have hst18 := hJP18.2 _ _ (hJ.2 _ _ hst_1)
    have hrg18 := hJP18.2 _ _ (hJ.2 _ _ hrg_1)
    have hJ0J18 := Imm.le_trans hJ hJP18
    have hwsP : SlRd (Imv J18) (.slice Av ((((false, ls[i].b) :: N).map (·.2)).length) cv) (((false, ls[i].b) :: N).map (·.2)).length 1 ((((false, ls[i].b) :: N).map (·.2)).map strV) := hwsP
    have hWP : W1 ((false, ls[i].b) :: N) 1 ≠ [] := by rw [W1_1]; simp
    have htP := hP.tok
    refine WP.next (WP.seq (WP.seq ?_))
    refine WP.region [0, 1, 2, 3, 4, 5, 6] rfl ?_; iterate 2 refine WP.mv rfl rfl ?_
    refine WP.vl rfl (Yld.indexAddr (i := i) rfl ty_sl_22 (congrArg (fun a => some (Value.slice a ls.length cl)) eAl) rfl hi) ?_; refine WP.vl rfl (Yld.fieldAddr rfl ty_fd_53_1 rfl) ?_; refine WP.vl rfl (Yld.loadC (v := .int .i64 ls[i].kind) rfl ty_sc_3 rfl (There.i hbl18) hc1) ?_; refine WP.vl rfl (Yld.remT rfl rfl rfl ⟨by decide, by decide⟩) ?_; refine WP.split rfl rfl rfl rfl (Yld.eql rfl rfl rfl) (fun h196 => ?_) (fun h196 => ?_)
    ·refine WP.nil ?_
     refine WP.sub [(0, _), (4, _), (5, _), (9, _), (10, _), (11, _), (70, _), (79, _), (88, _), (104, _)] ?_ ⟨rfl, rfl, rfl, rfl, rfl, rfl, rfl, rfl, rfl, rfl, trivial⟩
     refine WP.next ?_; refine WP.condT rfl ?_; refine WP.seq ?_; refine WP.region [0, 1, 2, 3] rfl ?_; refine WP.mv rfl rfl ?_; refine WP.loud rfl rfl ?_; refine Op.cl (cac_NewFlush (s := st) (p := 1) (b := false)) rfl Tryz.func14 rfl rfl rfl rfl ?_; rintro v J LnF - ⟨rfl, mF, fF, rfl, hfF⟩
     try simp only [nf]
     refine WP.loud rfl rfl ?_; refine Op.cl (law_count (z := .fl (fl0 1 false)) hst18 hT18 hlg18 ⟨fF, hfF⟩ hP.w hWP (FlI.new _ _ _ _ _) (by decide : bdC.b ≤ 1099511627776) (by omega)) rfl Tryz.func19 rfl rfl rfl rfl ?_; rintro v JE LcE hJE ⟨nE, zE, tbE, xxE, LmE, LtE, LlE, rfl, hcE, rfl, hmE, hTE, hlgE, wE, hgE, hiE, hpE, htE⟩
     try simp only [nf]
     obtain ⟨qE, eE, hE⟩ := hP.flush (by omega) hcE htE
     have hJ0JE := Imm.le_trans hJ0J18 hJE
     have hwsE := hwsP.mono (Imv.le hJE)
     have htE2 := hE.tok
     refine WP.mv rfl rfl ?_; refine WP.nil ?_; refine WP.sub [(0, _), (4, _), (5, _), (9, _), (10, _), (11, _), (12, _), (70, _), (79, _), (88, _), (104, _)] ?_ ⟨rfl, rfl, rfl, rfl, rfl, rfl, rfl, rfl, rfl, rfl, rfl, trivial⟩
     refine WP.next (WP.seq ?_)
     refine WP.region [0, 1] rfl ?_; refine WP.mv rfl rfl ?_; refine WP.vl rfl (Yld.neq rfl rfl rfl false (decide_eq_false (by omega))) ?_; refine WP.nil ?_; refine WP.sub [(0, _), (4, _), (5, _), (9, _), (10, _), (11, _), (12, _), (70, _), (79, _), (88, _), (104, _), (109, _)] ?_ ⟨rfl, rfl, rfl, rfl, rfl, rfl, rfl, rfl, rfl, rfl, rfl, rfl, trivial⟩
     refine WP.next ?_; refine WP.condF rfl ?_; refine WP.skip (WP.next (WP.seq ?_))
     refine WP.region [0, 1, 2, 3, 4, 5, 6] rfl ?_; iterate 2 refine WP.mv rfl rfl ?_
     refine WP.vl rfl (Yld.indexAddr (i := i) rfl ty_sl_22 (congrArg (fun a => some (Value.slice a ls.length cl)) eAl) rfl hi) ?_; refine WP.vl rfl (Yld.fieldAddr rfl ty_fd_53_1 rfl) ?_; refine WP.vl rfl (Yld.loadC (v := .int .i64 ls[i].kind) rfl ty_sc_3 rfl (There.i (hJE.2 _ _ hbl18)) hc1) ?_; refine WP.vl rfl (Yld.remT rfl rfl rfl ⟨by decide, by decide⟩) ?_; refine WP.split rfl rfl rfl rfl (Yld.eql rfl rfl rfl) (fun h236 => ?_) (fun h236 => ?_)
     ·refine WP.nil ?_
      refine WP.sub [(0, _), (4, _), (5, _), (9, _), (10, _), (11, _), (12, _), (70, _), (79, _), (88, _), (104, _), (109, _), (116, _)] ?_ ⟨rfl, rfl, rfl, rfl, rfl, rfl, rfl, rfl, rfl, rfl, rfl, rfl, rfl, trivial⟩
      refine WP.next ?_; refine WP.condT rfl ?_; refine WP.seq ?_; refine WP.region [0, 1, 2, 3] rfl ?_; refine WP.mv rfl rfl ?_; refine WP.loud rfl rfl ?_; refine Op.cl (cac_NewEvict (s := st) (p := 1)) rfl Tryz.func16 rfl rfl rfl rfl ?_; rintro v J LnV - ⟨rfl, mV, fV, rfl, hfV⟩
      try simp only [nf]
      refine WP.loud rfl rfl ?_; refine Op.cl (law_count (z := .ec (ec0 1)) (hJE.2 _ _ hst18) hTE hlgE ⟨fV, hfV⟩ hE.w hWP (EcI.new _ _ _ _) (by decide : bdC.b ≤ 1099511627776) (by omega)) rfl Tryz.func19 rfl rfl rfl rfl ?_; rintro v JV LcV hJV ⟨nV, zV, tbV, xxV, LmV, LtV, LlV, rfl, hcV, rfl, hmV, hTV, hlgV, wV, hgV, hiV, hpV, htV⟩
      try simp only [nf]
      obtain ⟨qV, eV, hV⟩ := hE.evict hcV htV
      have hJ18V := Imm.le_trans hJE hJV
      have hstV := hJ18V.2 _ _ hst18
      have hrgV := hJ18V.2 _ _ hrg18
      have hn0 := hV.hn
      refine WP.mv rfl rfl ?_; refine WP.nil ?_; refine WP.sub [(0, _), (4, _), (5, _), (9, _), (10, _), (11, _), (12, _), (13, _), (70, _), (79, _), (88, _), (104, _), (109, _), (116, _)] ?_ ⟨rfl, rfl, rfl, rfl, rfl, rfl, rfl, rfl, rfl, rfl, rfl, rfl, rfl, rfl, trivial⟩
      refine WP.next (WP.seq ?_)
      refine WP.region [0, 1, 2, 3, 4, 5, 6, 7, 8, 9, 10] rfl ?_; refine WP.mv rfl rfl ?_; refine WP.vl rfl (Yld.nilCheck rfl rfl) ?_; refine WP.vl rfl (Yld.fieldAddr rfl ty_fd_37_3 rfl) ?_; refine WP.vl rfl (Yld.load (v := .pointer (some ⟨t, 0, none⟩)) rfl ty_sc_31 rfl (There.i hrgV) rfl) ?_; refine WP.loud rfl rfl ?_; refine Op.cl (tabT_LoadE hTV hV.he) rfl Tryz.func20 rfl rfl rfl rfl ?_; rintro v JL Lt25 hJL ⟨csy, rfl, hre5, hTVb⟩
      try simp only [nf]
      have hre5b := hre5
      obtain ⟨vn5, vw5, nv5, rfl, q51, q52, q53⟩ := id hre5.ex
      obtain ⟨An5, cn5, rfl, _⟩ := q51.slice'
      obtain ⟨Aw5, cw5, rfl, _⟩ := q53.slice'
      have hJ18L := Imm.le_trans hJ18V hJL
      have hstL := hJL.2 _ _ hstV
      have hlgL := hlgV.mono hJL
      have htV2 := hV.tok
      refine WP.mv rfl rfl ?_; iterate 2 refine WP.vl rfl (Yld.extract rfl rfl rfl) ?_
      refine WP.loud rfl rfl ?_; refine Op.alloc rfl rfl rfl ty_zr_50 (fun b14 => ?_)
      refine WP.loud rfl rfl ?_; refine Op.sA rfl rfl ty_sz_50 rfl rfl rfl rfl rfl ?_; refine WP.mv rfl rfl ?_; refine WP.nil ?_; refine WP.sub [(0, _), (4, _), (5, _), (9, _), (10, _), (11, _), (12, _), (13, _), (14, _), (15, _), (70, _), (79, _), (88, _), (104, _), (109, _), (116, _)] ?_ ⟨rfl, rfl, rfl, rfl, rfl, rfl, rfl, rfl, rfl, rfl, rfl, rfl, rfl, rfl, rfl, rfl, trivial⟩
      refine WP.next (WP.seq ?_)
      refine WP.region [0, 1, 2, 3] rfl ?_; refine WP.mv rfl rfl ?_; refine WP.loud rfl rfl ?_; refine Op.cl (cac_NewFault (s := st) (l := l) (p := 1)) rfl Tryz.func15 rfl rfl rfl rfl ?_; rintro v J LnG - ⟨rfl, mG, fG, rfl, hfG⟩
      try simp only [nf]
      refine WP.loud rfl rfl ?_; refine Op.cl (law_count (z := .fa (fa0 1)) hstL hTVb hlgL ⟨fG, hfG⟩ hV.w hWP (FaI.new _ _ _ _) (by decide : bdC.b ≤ 1099511627776) (by omega)) rfl Tryz.func19 rfl rfl rfl rfl ?_; rintro v JG LcG hJG ⟨nG, zG, tbG, xxG, LmG, LtG, LlG, rfl, hcG, rfl, hmG, hTG, hlgG, wG, hgG, hiG, hpG, htG⟩
      try simp only [nf]
      obtain ⟨qG, eG, hG⟩ := hV.fault hcG wG htG
      have hJ0JG := Imm.le_trans hJ0J18 (Imm.le_trans hJ18L hJG)
      have hwsG := hwsP.mono (Imv.le (Imm.le_trans hJ18L hJG))
      refine WP.mv rfl rfl ?_; refine WP.nil ?_; refine WP.sub [(0, _), (4, _), (5, _), (9, _), (10, _), (11, _), (12, _), (13, _), (14, _), (15, _), (16, _), (70, _), (79, _), (88, _), (104, _), (109, _), (116, _)] ?_ ⟨rfl, rfl, rfl, rfl, rfl, rfl, rfl, rfl, rfl, rfl, rfl, rfl, rfl, rfl, rfl, rfl, rfl, trivial⟩
      refine WP.next (WP.seq ?_)
      refine WP.region [0, 1, 2, 3, 4, 5, 6, 7, 8, 9, 10, 11, 12, 13, 14, 15, 16, 17, 18, 19, 20] rfl ?_; refine WP.mv rfl rfl ?_; refine WP.vl rfl (Yld.lss rfl rfl rfl false (decide_eq_false (by omega))) ?_; refine WP.mv rfl rfl ?_; refine WP.valG rfl rfl rfl rfl rfl rfl rfl (Yld.move rfl rfl) ?_; refine WP.valG rfl rfl rfl rfl rfl rfl rfl (Yld.lss rfl rfl rfl false (decide_eq_false (by omega))) ?_; refine WP.vl rfl (Yld.pickF rfl rfl rfl) ?_; refine WP.mv rfl rfl ?_; refine WP.valG rfl rfl rfl rfl rfl rfl rfl (Yld.move rfl rfl) ?_; refine WP.valG rfl rfl rfl rfl rfl rfl rfl (Yld.neq rfl rfl rfl false (decide_eq_false (by simp))) ?_; refine WP.vl rfl (Yld.pickF rfl rfl rfl) ?_; refine WP.mv rfl rfl ?_; refine WP.valG rfl rfl rfl rfl rfl rfl rfl (Yld.fieldAddr rfl ty_fd_50_1 rfl) ?_; refine WP.valG rfl rfl rfl rfl rfl rfl rfl (Yld.ld (v := .slice An5 eV.nodes.length cn5) rfl ty_sc_45 rfl rfl) ?_; refine WP.valG rfl rfl rfl rfl rfl rfl rfl (Yld.len rfl ty_sl_45 rfl) ?_; refine WP.valG rfl rfl rfl rfl rfl rfl rfl (Yld.neq rfl rfl rfl false (decide_eq_false (by rw [hn0]; simp))) ?_; refine WP.vl rfl (Yld.pickF rfl rfl rfl) ?_; refine WP.mv rfl rfl ?_; refine WP.valG rfl rfl rfl rfl rfl rfl rfl (Yld.ldg (vs := [.int .u64 (eV.tok : Int), .slice An5 eV.nodes.length cn5, .int .i64 eV.place, .int .i64 eV.no, .int .i64 eV.low, .int .i64 eV.kept, .int .i64 eV.txn, .int .i64 eV.lead, .slice Aw5 eV.with_.length cw5]) rfl ty_ag_50 rfl rfl rfl) ?_; refine WP.loudG rfl rfl rfl rfl rfl ?_; refine Op.cl (cac_Bytes (hre5b.mono hJG) ((hV.w.held hWP hV.he).ok.sized (by decide : bdC.b ≤ 1099511627776)) (by rw [hn0]; decide)) rfl Tryz.func21 rfl rfl rfl rfl ?_
      rintro v J L27 - ⟨rfl, rfl, rfl⟩
      try simp only [nf]
      rw [hn0]
      refine WP.valG rfl rfl rfl rfl rfl rfl rfl (Yld.neq rfl rfl rfl false (decide_eq_false (by simp [bytesN]))) ?_; refine WP.vl rfl (Yld.pickF rfl rfl rfl) ?_; refine WP.nil ?_; refine WP.sub [(0, _), (4, _), (5, _), (9, _), (10, _), (11, _), (12, _), (13, _), (14, _), (15, _), (16, _), (70, _), (79, _), (88, _), (104, _), (109, _), (116, _), (151, _)] ?_ ⟨rfl, rfl, rfl, rfl, rfl, rfl, rfl, rfl, rfl, rfl, rfl, rfl, rfl, rfl, rfl, rfl, rfl, rfl, trivial⟩
      refine WP.next ?_; refine WP.condF rfl ?_; refine WP.skip (WP.leave (WP.next ?_))
      refine WP.region [0, 1, 2] rfl ?_; refine WP.mv rfl rfl ?_; refine WP.vl rfl (Yld.add64 rfl rfl rfl (by omega)) ?_; refine WP.mv rfl rfl ?_; refine WP.nil ?_; refine WP.sub [(0, _), (4, _), (5, _), (9, _), (10, _), (11, _), (12, _), (13, _), (14, _), (15, _), (16, _), (70, _), (79, _), (88, _), (104, _), (109, _), (116, _), (151, _)] ?_ ⟨rfl, rfl, rfl, rfl, rfl, rfl, rfl, rfl, rfl, rfl, rfl, rfl, rfl, rfl, rfl, rfl, rfl, rfl, trivial⟩
      exact WP.again ⟨i + 1, ((false, ls[i].b) :: N), .slice Av ((((false, ls[i].b) :: N).map (·.2)).length) cv, eG, tbG, xxG, JG, LtG, LlG⟩ ⟨(show i + 1 ≤ ls.length by omega), hJ0JG, hG, hwsG, hTG, hlgG⟩ (show ls.length - (i + 1) < ls.length - i by omega) ⟨rfl, rfl, rfl, rfl, rfl, trivial⟩ rfl zA
     ·refine WP.nil ?_
      refine WP.sub [(0, _), (4, _), (5, _), (9, _), (10, _), (11, _), (12, _), (70, _), (79, _), (88, _), (104, _), (109, _), (116, _)] ?_ ⟨rfl, rfl, rfl, rfl, rfl, rfl, rfl, rfl, rfl, rfl, rfl, rfl, rfl, trivial⟩
      refine WP.next ?_; refine WP.condF rfl ?_; refine WP.skip (WP.leave (WP.next ?_))
      refine WP.region [0, 1, 2] rfl ?_; refine WP.mv rfl rfl ?_; refine WP.vl rfl (Yld.add64 rfl rfl rfl (by omega)) ?_; refine WP.mv rfl rfl ?_; refine WP.nil ?_; refine WP.sub [(0, _), (4, _), (5, _), (9, _), (10, _), (11, _), (12, _), (70, _), (79, _), (88, _), (104, _), (109, _), (116, _)] ?_ ⟨rfl, rfl, rfl, rfl, rfl, rfl, rfl, rfl, rfl, rfl, rfl, rfl, rfl, trivial⟩
      exact WP.again ⟨i + 1, ((false, ls[i].b) :: N), .slice Av ((((false, ls[i].b) :: N).map (·.2)).length) cv, eE, tbE, xxE, JE, LtE, LlE⟩ ⟨(show i + 1 ≤ ls.length by omega), hJ0JE, hE.on, hwsE, hTE, hlgE⟩ (show ls.length - (i + 1) < ls.length - i by omega) ⟨rfl, rfl, rfl, rfl, rfl, trivial⟩ rfl zA
    ·refine WP.nil ?_
     refine WP.sub [(0, _), (4, _), (5, _), (9, _), (10, _), (11, _), (70, _), (79, _), (88, _), (104, _)] ?_ ⟨rfl, rfl, rfl, rfl, rfl, rfl, rfl, rfl, rfl, rfl, trivial⟩
     refine WP.next ?_; refine WP.condF rfl ?_; refine WP.skip (WP.next (WP.seq ?_))
     refine WP.region [0, 1, 2, 3, 4, 5, 6] rfl ?_; iterate 2 refine WP.mv rfl rfl ?_
     refine WP.vl rfl (Yld.indexAddr (i := i) rfl ty_sl_22 (congrArg (fun a => some (Value.slice a ls.length cl)) eAl) rfl hi) ?_; refine WP.vl rfl (Yld.fieldAddr rfl ty_fd_53_1 rfl) ?_; refine WP.vl rfl (Yld.loadC (v := .int .i64 ls[i].kind) rfl ty_sc_3 rfl (There.i hbl18) hc1) ?_; refine WP.vl rfl (Yld.remT rfl rfl rfl ⟨by decide, by decide⟩) ?_; refine WP.split rfl rfl rfl rfl (Yld.eql rfl rfl rfl) (fun h236 => ?_) (fun h236 => ?_)
     ·refine WP.nil ?_
      refine WP.sub [(0, _), (4, _), (5, _), (9, _), (10, _), (11, _), (70, _), (79, _), (88, _), (104, _), (116, _)] ?_ ⟨rfl, rfl, rfl, rfl, rfl, rfl, rfl, rfl, rfl, rfl, rfl, trivial⟩
      refine WP.next ?_; refine WP.condT rfl ?_; refine WP.seq ?_; refine WP.region [0, 1, 2, 3] rfl ?_; refine WP.mv rfl rfl ?_; refine WP.loud rfl rfl ?_; refine Op.cl (cac_NewEvict (s := st) (p := 1)) rfl Tryz.func16 rfl rfl rfl rfl ?_; rintro v J LnV - ⟨rfl, mV, fV, rfl, hfV⟩
      try simp only [nf]
      refine WP.loud rfl rfl ?_; refine Op.cl (law_count (z := .ec (ec0 1)) hst18 hT18 hlg18 ⟨fV, hfV⟩ hP.w hWP (EcI.new _ _ _ _) (by decide : bdC.b ≤ 1099511627776) (by omega)) rfl Tryz.func19 rfl rfl rfl rfl ?_; rintro v JV LcV hJV ⟨nV, zV, tbV, xxV, LmV, LtV, LlV, rfl, hcV, rfl, hmV, hTV, hlgV, wV, hgV, hiV, hpV, htV⟩
      try simp only [nf]
      obtain ⟨qV, eV, hV⟩ := hP.evict (by omega) hcV htV
      have hJ18V := hJV
      have hstV := hJ18V.2 _ _ hst18
      have hrgV := hJ18V.2 _ _ hrg18
      have hn0 := hV.hn
      refine WP.mv rfl rfl ?_; refine WP.nil ?_; refine WP.sub [(0, _), (4, _), (5, _), (9, _), (10, _), (11, _), (13, _), (70, _), (79, _), (88, _), (104, _), (116, _)] ?_ ⟨rfl, rfl, rfl, rfl, rfl, rfl, rfl, rfl, rfl, rfl, rfl, rfl, trivial⟩
      refine WP.next (WP.seq ?_)
      refine WP.region [0, 1, 2, 3, 4, 5, 6, 7, 8, 9, 10] rfl ?_; refine WP.mv rfl rfl ?_; refine WP.vl rfl (Yld.nilCheck rfl rfl) ?_; refine WP.vl rfl (Yld.fieldAddr rfl ty_fd_37_3 rfl) ?_; refine WP.vl rfl (Yld.load (v := .pointer (some ⟨t, 0, none⟩)) rfl ty_sc_31 rfl (There.i hrgV) rfl) ?_; refine WP.loud rfl rfl ?_; refine Op.cl (tabT_LoadE hTV hV.he) rfl Tryz.func20 rfl rfl rfl rfl ?_; rintro v JL Lt25 hJL ⟨csy, rfl, hre5, hTVb⟩
      try simp only [nf]
      have hre5b := hre5
      obtain ⟨vn5, vw5, nv5, rfl, q51, q52, q53⟩ := id hre5.ex
      obtain ⟨An5, cn5, rfl, _⟩ := q51.slice'
      obtain ⟨Aw5, cw5, rfl, _⟩ := q53.slice'
      have hJ18L := Imm.le_trans hJ18V hJL
      have hstL := hJL.2 _ _ hstV
      have hlgL := hlgV.mono hJL
      have htV2 := hV.tok
      refine WP.mv rfl rfl ?_; iterate 2 refine WP.vl rfl (Yld.extract rfl rfl rfl) ?_
      refine WP.loud rfl rfl ?_; refine Op.alloc rfl rfl rfl ty_zr_50 (fun b14 => ?_)
      refine WP.loud rfl rfl ?_; refine Op.sA rfl rfl ty_sz_50 rfl rfl rfl rfl rfl ?_; refine WP.mv rfl rfl ?_; refine WP.nil ?_; refine WP.sub [(0, _), (4, _), (5, _), (9, _), (10, _), (11, _), (13, _), (14, _), (15, _), (70, _), (79, _), (88, _), (104, _), (116, _)] ?_ ⟨rfl, rfl, rfl, rfl, rfl, rfl, rfl, rfl, rfl, rfl, rfl, rfl, rfl, rfl, trivial⟩
      refine WP.next (WP.seq ?_)
      refine WP.region [0, 1, 2, 3] rfl ?_; refine WP.mv rfl rfl ?_; refine WP.loud rfl rfl ?_; refine Op.cl (cac_NewFault (s := st) (l := l) (p := 1)) rfl Tryz.func15 rfl rfl rfl rfl ?_; rintro v J LnG - ⟨rfl, mG, fG, rfl, hfG⟩
      try simp only [nf]
      refine WP.loud rfl rfl ?_; refine Op.cl (law_count (z := .fa (fa0 1)) hstL hTVb hlgL ⟨fG, hfG⟩ hV.w hWP (FaI.new _ _ _ _) (by decide : bdC.b ≤ 1099511627776) (by omega)) rfl Tryz.func19 rfl rfl rfl rfl ?_; rintro v JG LcG hJG ⟨nG, zG, tbG, xxG, LmG, LtG, LlG, rfl, hcG, rfl, hmG, hTG, hlgG, wG, hgG, hiG, hpG, htG⟩
      try simp only [nf]
      obtain ⟨qG, eG, hG⟩ := hV.fault hcG wG htG
      have hJ0JG := Imm.le_trans hJ0J18 (Imm.le_trans hJ18L hJG)
      have hwsG := hwsP.mono (Imv.le (Imm.le_trans hJ18L hJG))
      refine WP.mv rfl rfl ?_; refine WP.nil ?_; refine WP.sub [(0, _), (4, _), (5, _), (9, _), (10, _), (11, _), (13, _), (14, _), (15, _), (16, _), (70, _), (79, _), (88, _), (104, _), (116, _)] ?_ ⟨rfl, rfl, rfl, rfl, rfl, rfl, rfl, rfl, rfl, rfl, rfl, rfl, rfl, rfl, rfl, trivial⟩
      refine WP.next (WP.seq ?_)
      refine WP.region [0, 1, 2, 3, 4, 5, 6, 7, 8, 9, 10, 11, 12, 13, 14, 15, 16, 17, 18, 19, 20] rfl ?_; refine WP.mv rfl rfl ?_; refine WP.vl rfl (Yld.lss rfl rfl rfl false (decide_eq_false (by omega))) ?_; refine WP.mv rfl rfl ?_; refine WP.valG rfl rfl rfl rfl rfl rfl rfl (Yld.move rfl rfl) ?_; refine WP.valG rfl rfl rfl rfl rfl rfl rfl (Yld.lss rfl rfl rfl false (decide_eq_false (by omega))) ?_; refine WP.vl rfl (Yld.pickF rfl rfl rfl) ?_; refine WP.mv rfl rfl ?_; refine WP.valG rfl rfl rfl rfl rfl rfl rfl (Yld.move rfl rfl) ?_; refine WP.valG rfl rfl rfl rfl rfl rfl rfl (Yld.neq rfl rfl rfl false (decide_eq_false (by simp))) ?_; refine WP.vl rfl (Yld.pickF rfl rfl rfl) ?_; refine WP.mv rfl rfl ?_; refine WP.valG rfl rfl rfl rfl rfl rfl rfl (Yld.fieldAddr rfl ty_fd_50_1 rfl) ?_; refine WP.valG rfl rfl rfl rfl rfl rfl rfl (Yld.ld (v := .slice An5 eV.nodes.length cn5) rfl ty_sc_45 rfl rfl) ?_; refine WP.valG rfl rfl rfl rfl rfl rfl rfl (Yld.len rfl ty_sl_45 rfl) ?_; refine WP.valG rfl rfl rfl rfl rfl rfl rfl (Yld.neq rfl rfl rfl false (decide_eq_false (by rw [hn0]; simp))) ?_; refine WP.vl rfl (Yld.pickF rfl rfl rfl) ?_; refine WP.mv rfl rfl ?_; refine WP.valG rfl rfl rfl rfl rfl rfl rfl (Yld.ldg (vs := [.int .u64 (eV.tok : Int), .slice An5 eV.nodes.length cn5, .int .i64 eV.place, .int .i64 eV.no, .int .i64 eV.low, .int .i64 eV.kept, .int .i64 eV.txn, .int .i64 eV.lead, .slice Aw5 eV.with_.length cw5]) rfl ty_ag_50 rfl rfl rfl) ?_; refine WP.loudG rfl rfl rfl rfl rfl ?_; refine Op.cl (cac_Bytes (hre5b.mono hJG) ((hV.w.held hWP hV.he).ok.sized (by decide : bdC.b ≤ 1099511627776)) (by rw [hn0]; decide)) rfl Tryz.func21 rfl rfl rfl rfl ?_
      rintro v J L27 - ⟨rfl, rfl, rfl⟩
      try simp only [nf]
      rw [hn0]
      refine WP.valG rfl rfl rfl rfl rfl rfl rfl (Yld.neq rfl rfl rfl false (decide_eq_false (by simp [bytesN]))) ?_; refine WP.vl rfl (Yld.pickF rfl rfl rfl) ?_; refine WP.nil ?_; refine WP.sub [(0, _), (4, _), (5, _), (9, _), (10, _), (11, _), (13, _), (14, _), (15, _), (16, _), (70, _), (79, _), (88, _), (104, _), (116, _), (151, _)] ?_ ⟨rfl, rfl, rfl, rfl, rfl, rfl, rfl, rfl, rfl, rfl, rfl, rfl, rfl, rfl, rfl, rfl, trivial⟩
      refine WP.next ?_; refine WP.condF rfl ?_; refine WP.skip (WP.leave (WP.next ?_))
      refine WP.region [0, 1, 2] rfl ?_; refine WP.mv rfl rfl ?_; refine WP.vl rfl (Yld.add64 rfl rfl rfl (by omega)) ?_; refine WP.mv rfl rfl ?_; refine WP.nil ?_; refine WP.sub [(0, _), (4, _), (5, _), (9, _), (10, _), (11, _), (13, _), (14, _), (15, _), (16, _), (70, _), (79, _), (88, _), (104, _), (116, _), (151, _)] ?_ ⟨rfl, rfl, rfl, rfl, rfl, rfl, rfl, rfl, rfl, rfl, rfl, rfl, rfl, rfl, rfl, rfl, trivial⟩
      exact WP.again ⟨i + 1, ((false, ls[i].b) :: N), .slice Av ((((false, ls[i].b) :: N).map (·.2)).length) cv, eG, tbG, xxG, JG, LtG, LlG⟩ ⟨(show i + 1 ≤ ls.length by omega), hJ0JG, hG, hwsG, hTG, hlgG⟩ (show ls.length - (i + 1) < ls.length - i by omega) ⟨rfl, rfl, rfl, rfl, rfl, trivial⟩ rfl zA
     ·refine WP.nil ?_
      refine WP.sub [(0, _), (4, _), (5, _), (9, _), (10, _), (11, _), (70, _), (79, _), (88, _), (104, _), (116, _)] ?_ ⟨rfl, rfl, rfl, rfl, rfl, rfl, rfl, rfl, rfl, rfl, rfl, trivial⟩
      refine WP.next ?_; refine WP.condF rfl ?_; refine WP.skip (WP.leave (WP.next ?_))
      refine WP.region [0, 1, 2] rfl ?_; refine WP.mv rfl rfl ?_; refine WP.vl rfl (Yld.add64 rfl rfl rfl (by omega)) ?_; refine WP.mv rfl rfl ?_; refine WP.nil ?_; refine WP.sub [(0, _), (4, _), (5, _), (9, _), (10, _), (11, _), (70, _), (79, _), (88, _), (104, _), (116, _)] ?_ ⟨rfl, rfl, rfl, rfl, rfl, rfl, rfl, rfl, rfl, rfl, rfl, trivial⟩
      exact WP.again ⟨i + 1, ((false, ls[i].b) :: N), .slice Av ((((false, ls[i].b) :: N).map (·.2)).length) cv, { putE e ls[i].b with tok := tb2.tok + 1 }, tbP, xx, J18, L156, Ll2⟩ ⟨(show i + 1 ≤ ls.length by omega), hJ0J18, hP.on, hwsP, hT18, hlg18⟩ (show ls.length - (i + 1) < ls.length - i by omega) ⟨rfl, rfl, rfl, rfl, rfl, trivial⟩ rfl zA
  ·refine WP.vl rfl (Yld.pickT rfl rfl rfl) ?_
   refine WP.nil ?_; refine WP.sub [(0, _), (4, _), (5, _), (9, _), (10, _), (70, _)] ?_ ⟨rfl, rfl, rfl, rfl, rfl, rfl, trivial⟩
   refine WP.next ?_; refine WP.condF rfl ?_; refine WP.exit (WP.thenE (WP.thenE (WP.hit (WP.next (WP.seq ?_)))))
   have hW : W1 N 1 ≠ [] := by rw [W1_1]; exact hch.nn
   have hok := (hch.w.held hW hch.he).ok
   rw [W1_1] at hok
   have hn1 : e.nodes ≠ [] := by rw [hch.hn]; exact hch.nn
   refine WP.region [0, 1, 2, 3] rfl ?_; iterate 2 refine WP.mv rfl rfl ?_
   refine WP.loud rfl rfl ?_; refine Op.cl (law_has hT ((Imm.le_trans hJ_01 hJ).2 _ _ hrg_0) hch.he hws (fun q => absurd q hn1) (fun _ => hn1) (fun _ => by rw [hch.hn]) (fun _ => by rw [hch.hn]; exact hok.nf)) rfl Tryz.func18 rfl rfl rfl rfl ?_; rintro v J9 L29 hJ9 ⟨rfl, hT9⟩
   try simp only [nf]
   refine WP.mv rfl rfl ?_; refine WP.nil ?_; refine WP.sub [(0, _), (2, _), (4, _), (5, _), (9, _), (10, _), (70, _)] ?_ ⟨rfl, rfl, rfl, rfl, rfl, rfl, rfl, trivial⟩
   refine WP.next (WP.ret ?_)
   refine WP.fn .ret (.inr rfl) (res1 rfl rfl) [] (Imm.le_trans hJ_1 (Imm.le_trans hJ hJ9)) ?_; exact ⟨rfl, rfl⟩
 ·refine WP.mv rfl rfl ?_
  iterate 2 refine WP.passG rfl rfl rfl rfl rfl rfl rfl rfl ?_
  refine WP.vl rfl (Yld.pickF rfl rfl rfl) ?_; refine WP.nil ?_; refine WP.sub [(0, _), (4, _), (5, _), (9, _), (10, _), (70, _)] ?_ ⟨rfl, rfl, rfl, rfl, rfl, rfl, trivial⟩
  refine WP.next ?_; refine WP.condF rfl ?_; refine WP.exit (WP.thenE (WP.thenE (WP.hit (WP.next (WP.seq ?_)))))
  have hW : W1 N 1 ≠ [] := by rw [W1_1]; exact hch.nn
  have hok := (hch.w.held hW hch.he).ok
  rw [W1_1] at hok
  have hn1 : e.nodes ≠ [] := by rw [hch.hn]; exact hch.nn
  refine WP.region [0, 1, 2, 3] rfl ?_; iterate 2 refine WP.mv rfl rfl ?_
  refine WP.loud rfl rfl ?_; refine Op.cl (law_has hT ((Imm.le_trans hJ_01 hJ).2 _ _ hrg_0) hch.he hws (fun q => absurd q hn1) (fun _ => hn1) (fun _ => by rw [hch.hn]) (fun _ => by rw [hch.hn]; exact hok.nf)) rfl Tryz.func18 rfl rfl rfl rfl ?_; rintro v J9 L29 hJ9 ⟨rfl, hT9⟩
  try simp only [nf]
  refine WP.mv rfl rfl ?_; refine WP.nil ?_; refine WP.sub [(0, _), (2, _), (4, _), (5, _), (9, _), (10, _), (70, _)] ?_ ⟨rfl, rfl, rfl, rfl, rfl, rfl, rfl, trivial⟩
  refine WP.next (WP.ret ?_)
  refine WP.fn .ret (.inr rfl) (res1 rfl rfl) [] (Imm.le_trans hJ_1 (Imm.le_trans hJ hJ9)) ?_; exact ⟨rfl, rfl⟩


end Go.Hp
