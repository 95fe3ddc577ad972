import Derived.Test.YtcebcphnmbhcpaaGreatCacS
set_option linter.unusedVariables false
set_option linter.unusedSimpArgs false
namespace Go.Hp
open Go Go.Proofs

theorem setAt_set {l : List Value} {k : Nat} (h : k < l.length) (v : Value) : SetAt l (0 + k * 1) v (l.set k v) := by
 have q := SetAt.sym (l := l) (k := k) (v := v) h
 rwa [Nat.zero_add, Nat.mul_one]
/-- What the law wants of its pages. -/
structure Wants (J : Imm) (wv : List Value) (W : Int → Nds) (m : Nat) : Prop where
 len : wv.length = 4
 at_ : ∀ p : Nat, 1 ≤ p → p ≤ m → ∃ v, wv[0 + p * 1]? = some v ∧ SlRd (Imv J) v ((W p).map (·.2)).length 1 (((W p).map (·.2)).map strV)
theorem Wants.mono {I J : Imm} {wv : List Value} {W : Int → Nds} {m : Nat} (h : Wants I wv W m) (hJ : I.le J) : Wants J wv W m := ⟨h.len, fun p h1 h2 => by obtain ⟨v, h3, h4⟩ := h.at_ p h1 h2; exact ⟨v, h3, h4.mono (Imv.le hJ)⟩⟩
theorem Wants.set {J : Imm} {wv : List Value} {W : Int → Nds} {m m' p : Nat} {N : Nds} {v : Value} (h : Wants J wv W m) (hp4 : p ≤ 3) (hm : ∀ q, 1 ≤ q → q ≤ m' → q = p ∨ q ≤ m) (hv : SlRd (Imv J) v (N.map (·.2)).length 1 ((N.map (·.2)).map strV)) : Wants J (wv.set p v) (updW W p N) m' := by
 have hl := h.len
 refine ⟨by rw [List.length_set]; exact hl, fun q h1 h2 => ?_⟩
 by_cases e : q = p
 ·subst e
  refine ⟨v, by rw [Nat.zero_add, Nat.mul_one, List.getElem?_set_self (by omega)], ?_⟩
  rw [updW_same]; exact hv
 ·obtain ⟨u, h3, h4⟩ := h.at_ q h1 ((hm q h1 h2).resolve_left e)
  rw [Nat.zero_add, Nat.mul_one] at h3
  refine ⟨u, by rw [Nat.zero_add, Nat.mul_one, List.getElem?_set_ne (Ne.symm e)]; exact h3, ?_⟩
  rw [updW_ne (show ((q : Nat) : Int) ≠ (p : Int) by omega)]; exact h4
def oneB (k : Nat) : Nds := [(true, [UInt8.ofNat k])]
def Wk (j : Nat) : Int → Nds := fun k => if 1 ≤ k ∧ k ≤ (j : Int) then oneB k.toNat else []
theorem Wk_succ (j : Nat) : Wk (j + 1) = updW (Wk j) ((j + 1 : Nat) : Int) (oneB (j + 1)) := by
 funext k
 unfold Wk updW
 by_cases e : k = ((j + 1 : Nat) : Int)
 ·rw [if_pos e, if_pos (by omega), e]; rfl
 ·rw [if_neg e]
  show _ = (if 1 ≤ k ∧ k ≤ (j : Int) then oneB k.toNat else [])
  by_cases h : 1 ≤ k ∧ k ≤ (j : Int)
  ·rw [if_pos h, if_pos (by omega)]
  ·rw [if_neg h, if_neg (by omega)]
theorem Wk_next (j : Nat) : Wk j ((j + 1 : Nat) : Int) = [] := if_neg (by omega)
theorem SwR.gone {tb tb2 : Tb} {p : Int} {tk : Nat} {e : Ent} (h : SwR tb p tk e 0 tb2) : tb.Swapped tb2 p e := by
 rcases h with ⟨_, h, _⟩ | ⟨e0, _, ⟨_, h, _⟩ | ⟨_, _, h, _⟩ | ⟨_, _, _, h⟩⟩
 ·cases h
 ·cases h
 ·cases h
 ·exact h
theorem Swapped.upto {tb tb2 : Tb} {p : Int} {e : Ent} {m : Nat} (h : tb.Swapped tb2 p e) (hu : tb.upto m) (hp : 1 ≤ p ∧ p ≤ (m : Int)) : tb2.upto m := fun k => by
 obtain ⟨b, hb⟩ := h.get
 rw [hb k]
 split
 ·rename_i q; subst q; exact ⟨fun _ => hp, fun _ => rfl⟩
 ·exact hu k
/-- The world of three pages, and machines of them. -/
structure KW (W : Int → Nds) (tb : Tb) (x : Lg) (ms : List Mi) : Prop where
 w : CW 60 bdA W tb x
 nn : ∀ p : Nat, 1 ≤ p → p ≤ 3 → W p ≠ []
 ms : ∀ y ∈ ms, MxI bdA tb x y.z ∧ W y.z.c.page ≠ []
theorem KW.new {W : Int → Nds} {tb : Tb} {x : Lg} {ms : List Mi} (h : KW W tb x ms) {y : Mi} (hy : MxI bdA tb x y.z) {p : Nat} (h1 : 1 ≤ p) (h3 : p ≤ 3) (hp : y.z.c.page = p) : KW W tb x (ms ++ [y]) :=
 ⟨h.w, h.nn, fun q hq => by
  rcases List.mem_append.1 hq with hq | hq
  ·exact h.ms q hq
  ·cases List.mem_singleton.1 hq; exact ⟨hy, by rw [hp]; exact h.nn p h1 h3⟩⟩
theorem KW.step {W : Int → Nds} {tb tb2 : Tb} {x x2 : Lg} {ms : List Mi} (h : KW W tb x ms) {k : Nat} (hk : k < ms.length) {c : Bool} {z2 : Mx} (s : MxS tb x ms[k].z c z2 tb2 x2) {m : Nat} {L : Chunks} : KW W tb2 x2 (ms.set k ⟨m, z2, L⟩) ∧ tb2.tok ≤ tb.tok + 1 := by
 obtain ⟨h1, h2⟩ := h.ms _ (List.getElem_mem hk)
 obtain ⟨k1, k2, k3, k4, k5, _⟩ := s.step h.w h2 h1
 refine ⟨⟨k1, h.nn, fun q hq => ?_⟩, k3⟩
 rcases List.mem_or_eq_of_mem_set hq with hq | rfl
 ·exact ⟨(h.ms q hq).1.gro k2, (h.ms q hq).2⟩
 ·exact ⟨k4, by show W z2.c.page ≠ []; rw [k5]; exact h2⟩
theorem KW.put {W : Int → Nds} {tb tb2 : Tb} {x : Lg} {ms : List Mi} (h : KW W tb x ms) {p : Nat} (h1 : 1 ≤ p) (h3 : p ≤ 3) {e : Ent} (he : tb.ent p = some e) {d : List UInt8} (hd : d.length ≤ 1048576) {c : Bool} (k : CPutR tb p e d c tb2) : tb2.tok ≤ tb.tok + 1 ∧ ((c = true ∧ KW (updW W p ((false, d) :: W p)) tb2 x ms ∧ (W p).length ≤ 60) ∨ (c = false ∧ tb2 = tb)) := by
 have hW := h.nn p h1 h3
 have hh := h.w.held hW he
 rcases k with ⟨q1, rfl, _⟩ | ⟨q1, q2, q3, q4⟩
 ·exact ⟨Nat.le_succ _, .inr ⟨q1, rfl⟩⟩
 ·have hn := hh.ok.nds.resolve_left q2
  rw [hn] at q3
  refine ⟨by rw [q4.tok]; exact Nat.le_refl _, .inl ⟨q1, ⟨?_, fun q g1 g2 => ?_, fun y hy => ?_⟩, q3⟩⟩
  ·exact h.w.swap (h.w.pg _ hW) q4 (fun k hk => updW_ne hk) (by rw [updW_same]; exact hh.ok.put q2 q3 (by show _ ≤ 64; omega) hd)
  ·by_cases e : ((q : Nat) : Int) = (p : Int)
   ·rw [e, updW_same]; simp
   ·rw [updW_ne e]; exact h.nn q g1 g2
  ·obtain ⟨g1, g2⟩ := h.ms y hy
   refine ⟨g1.gro (.swap q4 _), ?_⟩
   by_cases e : y.z.c.page = (p : Int)
   ·rw [e, updW_same]; simp
   ·rw [updW_ne e]; exact g2
structure SuX where
 j : Nat
 tb : Tb
 wv : List Value
 J : Imm
 Lt : Chunks
structure KpX where
 W : Int → Nds
 wv : List Value
 ms : List Mi
 n : Nat
 v : Value
 tb : Tb
 x : Lg
 J : Imm
 Lo : Chunks
 Lt : Chunks
 Ll : Chunks
structure HsX where
 j : Nat
 tb : Tb
 x : Lg
 J : Imm
 Lt : Chunks
 Ll : Chunks
set_option maxHeartbeats 2000000 in
theorem law_CacheKeeps {I : Imm} {ls : List Chg} {vl : Value} (hl0 : Slc I 5 (RChg I) vl ls) (hln : ls.length ≤ 140737488351232) (hlb : ∀ y ∈ ls, y.b.length ≤ 1048576) : Spec Tryz.prog 3 [vl] I [] (fun v J L => v = .bool true ∧ L = []) := by
 have hsl := hl0
 obtain ⟨Al, cl, rfl, _, _⟩ := id hl0
 refine Spec.of Tryz.func3 rfl Tryz.ntmps3 (Nat.le_of_ble_eq_true rfl) (fun F => ?_)
 try simp only [nf]
 dsimp only [argsEnv]
 refine WP.seq ?_; refine WP.region [0] rfl ?_; refine WP.mv rfl rfl ?_; refine WP.nil (WP.next (WP.seq ?_))
 refine WP.region [0, 1] rfl ?_; refine WP.loud rfl rfl ?_; refine Op.cl law_awake rfl Tryz.func7 rfl rfl rfl rfl ?_; rintro v JA La hJA ⟨rfl, rfl⟩
 try simp only [nf]
 refine WP.mv rfl rfl ?_; refine WP.nil ?_; refine WP.sub [(0, _), (2, _), (3, _)] ?_ ⟨rfl, rfl, rfl, trivial⟩
 refine WP.next (WP.seq ?_)
 refine WP.region [0, 1] rfl ?_; refine WP.loud rfl rfl ?_; refine Op.cl (txn_Begun (m := 60) (by decide) (by decide)) rfl Tryz.func8 rfl rfl rfl rfl ?_; rintro v Jb Lb hJb ⟨rfl, x, d, s, l, t, q, rt, rm, r9, tb, Ll, Lt, rfl, rfl, hl, hT, hk0, hn0, hs0, hg0⟩
 try simp only [nf]
 refine WP.mv rfl rfl ?_; refine WP.nil ?_; refine WP.sub [(0, _), (2, _), (3, _), (4, _)] ?_ ⟨rfl, rfl, rfl, rfl, trivial⟩
 refine WP.next (WP.seq (WP.seq ?_))
 refine WP.region [0, 1, 2, 3, 4, 5] rfl ?_; refine WP.mv rfl rfl ?_; refine WP.vl rfl (Yld.not rfl rfl) ?_; refine WP.mv rfl rfl ?_; refine WP.valG rfl rfl rfl rfl rfl rfl rfl (Yld.move rfl rfl) ?_; refine WP.valG rfl rfl rfl rfl rfl rfl rfl (Yld.eqlNil rfl ty_pt_24 rfl rfl) ?_; refine WP.vl rfl (Yld.pickF rfl rfl rfl) ?_; refine WP.nil ?_; refine WP.sub [(0, _), (2, _), (3, _), (4, _), (28, _)] ?_ ⟨rfl, rfl, rfl, rfl, rfl, trivial⟩
 refine WP.next ?_; refine WP.condF rfl ?_; refine WP.skip (WP.next (WP.seq ?_))
 refine WQ.start Tryzmixed 8 zK _ rfl [8, 9] rfl ?_; refine WQ.val rfl rfl rfl (Yld.move rfl rfl) ?_; refine WQ.val rfl rfl rfl (Yld.nilCheck rfl rfl) ?_; refine WQ.val rfl rfl rfl (Yld.fieldAddr rfl ty_fd_37_3 rfl) ?_; refine WQ.val rfl rfl rfl (Yld.ld (v := .pointer (some ⟨t, 0, none⟩)) rfl ty_sc_31 rfl rfl) ?_; refine WQ.val rfl rfl rfl (Yld.move rfl rfl) ?_; refine WQ.val rfl rfl rfl (Yld.nilCheck rfl rfl) ?_; refine WQ.val rfl rfl rfl (Yld.fieldAddr rfl ty_fd_37_2 rfl) ?_; refine WQ.val rfl rfl rfl (Yld.ld (v := .pointer (some ⟨l, 0, none⟩)) rfl ty_sc_30 rfl rfl) ?_; refine WQ.nil ?_; refine WP.loud rfl rfl ?_; refine Op.cl (cac_New (t := t) (l := l)) rfl Tryz.func9 rfl rfl rfl rfl ?_; rintro v J Lst - ⟨rfl, st, rfl, rfl⟩
 try simp only [nf]
 refine WP.mv rfl rfl ?_; refine WP.nil ?_; refine WP.sub [(0, _), (2, _), (3, _), (4, _), (5, _), (28, _)] ?_ ⟨rfl, rfl, rfl, rfl, rfl, rfl, trivial⟩
 refine WP.next (WP.seq (WP.seq ?_))
 refine WP.region [0, 1] rfl ?_; refine WP.mv rfl rfl ?_; refine WP.vl rfl (Yld.eqlNil rfl ty_pt_26 rfl rfl) ?_; refine WP.nil ?_; refine WP.sub [(0, _), (2, _), (3, _), (4, _), (5, _), (28, _), (39, _)] ?_ ⟨rfl, rfl, rfl, rfl, rfl, rfl, rfl, trivial⟩
 refine WP.next ?_; refine WP.condF rfl ?_; refine WP.skip (WP.next (WP.seq ?_))
 refine WP.perm _ (show Take _ [(st, _)] _ from zT).perm ?_; refine WP.share (fun Ja hJa hst_a => ?_)
 try simp only [nf]
 refine WP.perm _ (show Take _ [(x, _)] _ from zT).perm ?_; refine WP.share (fun J_0 hJb_0 hrg_0 => ?_)
 try simp only [nf]
 have hst_0 := hJb_0.2 _ _ hst_a
 have hJ80 := Imm.le_trans hJa hJb_0
 have hJ_0 := Imm.le_trans hJA hJ80
 have hT_0 := hT.mono hJ80
 have hlg_0 := hl.mono hJ80
 obtain ⟨xx_0, hxx0⟩ : ∃ u, u = (⟨1, ⟨60, 1, 1⟩, 0, 8, [], 0, 0, 8⟩ : Lg) := ⟨_, rfl⟩
 rw [← hxx0] at hlg_0
 have hsl_0 := hsl
 refine WP.region [0] rfl ?_; refine WP.loud rfl rfl ?_; refine Op.alloc rfl rfl rfl ty_zr_39 (fun bw => ?_)
 refine WP.nil (WP.next (WP.seq (WP.seq ?_)))
 refine WP.region [0] rfl ?_; refine WP.mv rfl rfl ?_; refine WP.nil (WP.next (WP.block ?_))
 refine WP.loop (X := SuX) (fun u : SuX => [(0, .slice Al ls.length cl), (4, .pointer (some ⟨x, 0, none⟩)), (5, .pointer (some ⟨st, 0, none⟩)), (6, .pointer (some ⟨bw, 0, none⟩)), (7, .int .i64 ((u.j + 1 : Nat) : Int))]) (fun u => u.J) (fun u : SuX => (bw, row 39 u.wv) :: (u.Lt ++ (Ll ++ F))) (fun u : SuX => u.j ≤ 3 ∧ J_0.le u.J ∧ u.tb.upto u.j ∧ u.tb.tok = 2 * u.j ∧ CW 60 bdA (Wk u.j) u.tb xx_0 ∧ Wants u.J u.wv (Wk u.j) u.j ∧ IsT u.J t u.tb u.Lt) (fun u => 3 - u.j) ⟨0, tb, [.slice none 0 0, .slice none 0 0, .slice none 0 0, .slice none 0 0], J_0, Lt⟩ ⟨Nat.zero_le _, Imm.le_refl _, upto0 hg0, (by show tb.tok = 2 * 0; omega), (by have q : Wk 0 = fun _ => [] := (by funext k; exact if_neg (by omega)); rw [q, hxx0]; exact CW.init (by decide) _), ⟨rfl, fun p h1 h2 => by have h2 : p ≤ 0 := h2; omega⟩, hT_0⟩ ⟨rfl, rfl, rfl, rfl, rfl, trivial⟩ rfl zA ?_; rintro ⟨j, tb1, wv, J, Lt1⟩ ⟨hle, hJ, hup, htk, hw, hwa, hT1⟩; dsimp only at hle hJ hup htk hw hwa hT1; have hrgJ := hJ.2 _ _ hrg_0; have hwl := hwa.len
 try dsimp only
 try simp only [nf]
 refine WP.seq (WP.seq ?_)
 refine WP.region [0, 1] rfl ?_; refine WP.mv rfl rfl ?_; refine WP.split rfl rfl rfl rfl (Yld.leq rfl rfl rfl) (fun hj3 => ?_) (fun hj3 => ?_)
 ·refine WP.nil ?_
  refine WP.sub [(0, _), (4, _), (5, _), (6, _), (7, _), (41, _)] ?_ ⟨rfl, rfl, rfl, rfl, rfl, rfl, trivial⟩
  refine WP.next ?_; refine WP.condT rfl ?_; refine WP.skip (WP.next (WP.seq (WP.block (WP.seq ?_))))
  refine WP.region [0, 1, 2, 3, 4, 5, 6, 7, 8, 9] rfl ?_; refine WP.mv rfl rfl ?_; refine WP.vl rfl (Yld.nilCheck rfl rfl) ?_; refine WP.vl rfl (Yld.fieldAddr rfl ty_fd_37_3 rfl) ?_; refine WP.vl rfl (Yld.load (v := .pointer (some ⟨t, 0, none⟩)) rfl ty_sc_31 rfl (There.i hrgJ) rfl) ?_; refine WP.loud rfl rfl ?_; refine Op.cl (tabT_AllocN hT1 (by omega) (m := j) (by omega) hup) rfl Tryz.func10 rfl rfl rfl rfl ?_; rintro v J4 L124 hJ4 ⟨tb2, rfl, hu2, hup2, hT2⟩
  try simp only [nf]
  have hk2 := hu2.tok
  have hrg4 := hJ4.2 _ _ hrgJ
  refine WP.mv rfl rfl ?_; iterate 2 refine WP.vl rfl (Yld.extract rfl rfl rfl) ?_
  iterate 2 refine WP.mv rfl rfl ?_
  refine WP.nil ?_; refine WP.sub [(0, _), (4, _), (5, _), (6, _), (7, _), (8, _), (9, _), (41, _)] ?_ ⟨rfl, rfl, rfl, rfl, rfl, rfl, rfl, rfl, trivial⟩
  refine WP.next (WP.seq ?_)
  refine WD.start Tryzmixed 14 (fun _ _ => False) (fun b o => J4.blk b = some o) (fun _ _ h => h.elim) (fun b o h => There.i h) 16 [false, false, false, false, false, false, false, false, false, false, false, false, false, false, false, false] rfl rfl ?_; refine WD.vl (i := 0) rfl (Yld.move rfl rfl) ?_; refine WD.vl (i := 1) rfl (Yld.nilCheck rfl rfl) ?_; refine WD.vl (i := 2) rfl (Yld.fieldAddr rfl ty_fd_37_3 rfl) ?_; refine WD.vl (i := 3) rfl (Yld.load (v := .pointer (some ⟨t, 0, none⟩)) rfl ty_sc_31 rfl hrg4 rfl) ?_; refine WD.vl (i := 4) rfl (Yld.move rfl rfl) ?_; refine WD.vl (i := 5) rfl (Yld.move rfl rfl) ?_; refine WD.vl (i := 6) rfl (Yld.mul64 rfl rfl rfl (by omega)) ?_; refine WD.vl (i := 7) rfl (Yld.sub64 rfl rfl rfl (by omega)) ?_; rw [show 2 * ((j + 1 : Nat) : Int) - 1 = ((2 * j + 1 : Nat) : Int) by omega]
  refine WD.vl (i := 8) rfl (Yld.conv64u (2 * j + 1) rfl ty_un_3 ty_ik_44 rfl (by omega)) ?_; refine WD.vl (i := 9) rfl (Yld.move rfl rfl) ?_; refine WD.vl (i := 10) rfl (Yld.convN8 (j + 1) rfl ty_un_3 ty_ik_5 rfl) ?_; refine WD.loud (i := 11) zK rfl rfl rfl ?_; refine Op.buildSlice rfl ty_sl_47 ty_el2_47 rfl rfl rfl rfl (vs := [_]) rfl (segs := [(0, [_])]) (cs := bytesV [UInt8.ofNat (j + 1)]) rfl rfl zS (fun bl => ?_)
  refine WP.share (fun J5 hJ5 hb5 => ?_)
  have hs5 : SlRd (Im J5) (.slice (some ⟨bl, 0, none⟩) 1 1) [UInt8.ofNat (j + 1)].length 1 (bytesV [UInt8.ofNat (j + 1)]) := Im_lit (l := [UInt8.ofNat (j + 1)]) (sp := []) (c := 1) (by rw [List.append_nil]; exact hb5) (Nat.le_refl _)
  refine WD.go (.inr (fun _ _ h => h.elim)) (fun b o h => There.i (by first | exact h | exact hJ5.2 _ _ h | exact (Imm.le_trans hJ5 hJ7).2 _ _ h | exact (Imm.le_trans (Imm.le_trans hJ5 hJ7) hJ8).2 _ _ h)) ?_; refine WD.loud (i := 12) zK rfl rfl rfl ?_; refine Op.cl (txn_Page (d := [UInt8.ofNat (j + 1)]) hs5) rfl Tryz.func12 rfl rfl rfl rfl ?_; rintro v J7 L7 hJ7 ⟨rfl, hr7⟩
  try simp only [nf]
  obtain ⟨A7, c7, rfl⟩ := hr7.sl
  obtain ⟨nv7, hp7, hq7⟩ := id hr7.ex
  have hJ57 := Imm.le_trans hJ5 hJ7
  have hre7 : REnt J7 (newE (oneB (j + 1))) [.int .u64 0, .slice A7 1 c7, .int .i64 0, .int .i64 0, .int .i64 0, .int .i64 0, .int .i64 0, .int .i64 0, .slice none 0 0] := ⟨_, _, nv7, rfl, hp7, hq7, ⟨none, 0, rfl, Nat.le_refl _, rfl, .inl rfl⟩⟩
  refine WD.go (.inr (fun _ _ h => h.elim)) (fun b o h => There.i (by first | exact h | exact hJ5.2 _ _ h | exact (Imm.le_trans hJ5 hJ7).2 _ _ h | exact (Imm.le_trans (Imm.le_trans hJ5 hJ7) hJ8).2 _ _ h)) ?_; refine WD.vl (i := 13) rfl (Yld.buildS (pl := [(1, 1, 1)]) rfl ty_zr_50 ty_zd_50 zK rfl (vs := [_]) rfl (segs := [(1, [_])]) rfl rfl zS) ?_; refine WD.loud (i := 14) zK rfl rfl rfl ?_; refine Op.cl (tabT_SwapX (hT2.mono hJ57) (p := ((j + 1 : Nat) : Int)) (tk := 2 * j + 1) (e := newE (oneB (j + 1))) hre7 ⟨(by show 1 ≤ _; decide), (fun y hy => by cases List.mem_singleton.1 hy; show 1 ≤ _; decide), Nat.zero_le _⟩ (by omega)) rfl Tryz.func11 rfl rfl rfl rfl ?_; rintro v J8 L1314 hJ8 ⟨r8, tb3, rfl, hsw, hT3⟩
  try simp only [nf]
  obtain ⟨hr8, hw3, _, htk3⟩ := CW.first hw hu2 (Wk_next j) ⟨by omega, by omega⟩ (one_form _) ⟨(by show 1 ≤ 64; decide), fun y hy => by cases List.mem_singleton.1 hy; show 1 ≤ 1048576; decide⟩ (tk := 2 * j + 1) (by omega) hsw
  subst hr8
  have hJ58 := Imm.le_trans hJ57 hJ8
  refine WD.go (.inl rfl) (fun b o h => There.i (by first | exact h | exact hJ5.2 _ _ h | exact (Imm.le_trans hJ5 hJ7).2 _ _ h | exact (Imm.le_trans (Imm.le_trans hJ5 hJ7) hJ8).2 _ _ h)) ?_; refine WD.vl (i := 15) rfl (Yld.assign rfl rfl) ?_; refine WD.done zK ?_; refine WP.sub [(0, _), (4, _), (5, _), (6, _), (7, _), (8, _), (9, _), (10, _), (41, _)] ?_ ⟨rfl, rfl, rfl, rfl, rfl, rfl, rfl, rfl, rfl, trivial⟩
  refine WP.next (WP.seq (WP.seq ?_))
  refine WP.region [0, 1, 2, 3, 4, 5, 6, 7, 8, 9, 10] rfl ?_; iterate 2 refine WP.mv rfl rfl ?_
  refine WP.vl rfl (Yld.neq rfl rfl rfl false (decide_eq_false (by simp))) ?_; refine WP.mv rfl rfl ?_; refine WP.valG rfl rfl rfl rfl rfl rfl rfl (Yld.move rfl rfl) ?_; refine WP.valG rfl rfl rfl rfl rfl rfl rfl (Yld.neq rfl rfl rfl false (decide_eq_false (by simp))) ?_; refine WP.vl rfl (Yld.pickF rfl rfl rfl) ?_; refine WP.mv rfl rfl ?_; refine WP.valG rfl rfl rfl rfl rfl rfl rfl (Yld.move rfl rfl) ?_; refine WP.valG rfl rfl rfl rfl rfl rfl rfl (Yld.neq rfl rfl rfl false (decide_eq_false (by simp))) ?_; refine WP.vl rfl (Yld.pickF rfl rfl rfl) ?_; refine WP.nil ?_; refine WP.sub [(0, _), (4, _), (5, _), (6, _), (7, _), (8, _), (9, _), (10, _), (41, _), (77, _)] ?_ ⟨rfl, rfl, rfl, rfl, rfl, rfl, rfl, rfl, rfl, rfl, trivial⟩
  refine WP.next ?_; refine WP.condF rfl ?_; refine WP.skip (WP.next ?_)
  refine WP.region [0, 1, 2, 3, 4, 5, 6, 7] rfl ?_; iterate 2 refine WP.mv rfl rfl ?_
  refine WP.vl rfl (Yld.convN8 (j + 1) rfl ty_un_3 ty_ik_5 rfl) ?_; refine WP.loud rfl rfl ?_; refine Op.buildSlice rfl ty_sl_47 ty_el2_47 rfl rfl rfl rfl (vs := [_]) rfl (segs := [(0, [_])]) (cs := bytesV [UInt8.ofNat (j + 1)]) rfl rfl zS (fun bp => ?_)
  refine WP.vl rfl (Yld.str (e := 5) rfl zK zK zK rfl (SlRd.lit (m := 1) zM rfl (Nat.le_refl _))) ?_; refine WP.loud rfl rfl ?_; refine Op.buildSlice rfl ty_sl_38 ty_el2_38 rfl rfl rfl rfl (vs := [_]) rfl (segs := [(0, [_])]) (cs := [strV [UInt8.ofNat (j + 1)]]) rfl rfl zS (fun bq => ?_)
  refine WP.vl rfl (Yld.indexAddrA (i := j + 1) rfl ty_ar_39 rfl rfl (by omega)) ?_; refine WP.loud rfl rfl ?_; refine Op.store1 rfl rfl ty_sz_38 rfl rfl rfl (by repeat (first | exact Upd.head | apply Upd.tail | apply Upd.tailS)) (setAt_set (by omega) _) ?_; refine WP.nil ?_; refine WP.sub [(0, _), (4, _), (5, _), (6, _), (7, _), (8, _), (9, _), (10, _), (41, _), (77, _)] ?_ ⟨rfl, rfl, rfl, rfl, rfl, rfl, rfl, rfl, rfl, rfl, trivial⟩
  refine WP.shO (Own.blk (T := 9) (sz := 1) (b := bq) (cap := 1) (n := 1) (xs := [strV [UInt8.ofNat (j + 1)]]) (sp := []) rfl rfl (Nat.le_refl _)) (fun J9 hJ9 hws9 => ?_)
  refine WP.leave (WP.next ?_)
  refine WP.region [0, 1, 2] rfl ?_; refine WP.mv rfl rfl ?_; refine WP.vl rfl (Yld.add64 rfl rfl rfl (by omega)) ?_; refine WP.mv rfl rfl ?_; refine WP.nil ?_; refine WP.sub [(0, _), (4, _), (5, _), (6, _), (7, _), (8, _), (9, _), (10, _), (41, _), (77, _)] ?_ ⟨rfl, rfl, rfl, rfl, rfl, rfl, rfl, rfl, rfl, rfl, trivial⟩
  exact WP.again ⟨j + 1, tb3, wv.set (j + 1) (.slice (some ⟨bq, 0, none⟩) 1 1), J9, L1314⟩ ⟨(show j + 1 ≤ 3 by omega), Imm.le_trans hJ (Imm.le_trans hJ4 (Imm.le_trans hJ58 hJ9)), (show tb3.upto (j + 1) from Swapped.upto hsw.gone hup2 ⟨by omega, by omega⟩), (by show tb3.tok = 2 * (j + 1); omega), (by show CW 60 bdA (Wk (j + 1)) tb3 xx_0; rw [Wk_succ]; exact hw3), (by show Wants J9 _ (Wk (j + 1)) (j + 1); rw [Wk_succ]; exact (hwa.mono (Imm.le_trans hJ4 (Imm.le_trans hJ58 hJ9))).set (p := j + 1) (m' := j + 1) (N := oneB (j + 1)) (by omega) (fun q h1 h2 => by omega) hws9), hT3.mono hJ9⟩ (show 3 - (j + 1) < 3 - j by omega) ⟨rfl, rfl, rfl, rfl, rfl, trivial⟩ rfl zA
 ·refine WP.nil ?_
  refine WP.sub [(0, _), (4, _), (5, _), (6, _), (7, _), (41, _)] ?_ ⟨rfl, rfl, rfl, rfl, rfl, rfl, trivial⟩
  refine WP.next ?_; refine WP.condF rfl ?_; refine WP.exit (WP.thenE (WP.thenE (WP.hit (WP.next (WP.seq ?_)))))
  obtain rfl : j = 3 := by omega
  have hJ03 := hJ
  refine WP.region [0] rfl ?_; refine WP.mv rfl rfl ?_; refine WP.nil (WP.next (WP.seq (WP.seq ?_)))
  refine WP.region [0] rfl ?_; refine WP.mv rfl rfl ?_; refine WP.nil (WP.next (WP.block ?_))
  refine WP.loop (X := Nat × KpX) (fun u : Nat × KpX => [(0, .slice Al ls.length cl), (4, .pointer (some ⟨x, 0, none⟩)), (5, .pointer (some ⟨st, 0, none⟩)), (6, .pointer (some ⟨bw, 0, none⟩)), (11, u.2.v), (12, .int .i64 (u.1 : Int))]) (fun u => u.2.J) (fun u : Nat × KpX => (bw, row 39 u.2.wv) :: (u.2.ms.flatMap Mi.L ++ (u.2.Lo ++ (u.2.Lt ++ (u.2.Ll ++ F))))) (fun u : Nat × KpX => u.1 ≤ ls.length ∧ u.1 ≤ 300 ∧ J.le u.2.J ∧ KW u.2.W u.2.tb u.2.x u.2.ms ∧ u.2.ms.length = u.2.n ∧ u.2.n ≤ u.1 ∧ u.2.tb.tok ≤ 6 + u.1 ∧ Wants u.2.J u.2.wv u.2.W 3 ∧ Own 55 1 u.2.v (miP u.2.ms) u.2.n u.2.Lo ∧ IsMs u.2.J st l u.2.ms ∧ IsT u.2.J t u.2.tb u.2.Lt ∧ IsLog u.2.J l s d (8 + 32 * 60) u.2.x (Dk.new (8 + 32 * 60)) u.2.Ll) (fun u => ls.length - u.1) (0, ⟨Wk 3, wv, [], 0, .slice none 0 0, tb1, xx_0, J, [], Lt1, Ll⟩) ⟨Nat.zero_le _, Nat.zero_le _, Imm.le_refl _, ⟨hw, (fun p h1 h2 => by show Wk 3 _ ≠ []; unfold Wk; rw [if_pos (by omega)]; simp [oneB]), (fun y hy => by cases hy)⟩, rfl, Nat.le_refl _, (by show tb1.tok ≤ 6 + 0; omega), hwa, .none0, (fun y hy => by cases hy), hT1, hlg_0.mono hJ⟩ ⟨rfl, rfl, rfl, rfl, rfl, rfl, trivial⟩ rfl zA ?_; rintro ⟨i, ⟨W4, wv4, ms4, nm4, vms4, tb4, xx4, J4, Lo4, Lt4, Ll4⟩⟩ ⟨hle4, hle300, hJ4, hkw4, hml4, hmi4, htk4, hwa4, hoo4, hms4, hT4, hlg4⟩; dsimp only at hle4 hle300; dsimp only at hJ4 hkw4 hml4 hmi4 htk4 hwa4 hoo4 hms4 hT4 hlg4; obtain ⟨Ao4, co4, rfl, _⟩ := hoo4.slice; have hst4 := (Imm.le_trans hJ03 hJ4).2 _ _ hst_0; have hrg4 := (Imm.le_trans hJ03 hJ4).2 _ _ hrg_0; have hwl4 := hwa4.len
  try dsimp only
  try simp only [nf]
  refine WP.seq (WP.seq ?_)
  refine WP.region [0, 1, 2, 3, 4, 5, 6, 7] rfl ?_; iterate 2 refine WP.mv rfl rfl ?_
  refine WP.vl rfl (Yld.len rfl ty_sl_22 rfl) ?_; refine WP.split rfl rfl rfl rfl (Yld.lss rfl rfl rfl) (fun hlt => ?_) (fun hlt => ?_)
  ·refine WP.mv rfl rfl ?_
   refine WP.valG rfl rfl rfl rfl rfl rfl rfl (Yld.move rfl rfl) ?_; refine WP.splitG rfl rfl rfl rfl rfl rfl rfl (Yld.lss rfl rfl rfl) (fun hlt300 => ?_) (fun hlt300 => ?_)
   ·have hi : i < ls.length := by omega
    obtain ⟨bl, kl, Tl, fl_, arl, eAl, hbl0, hc0, hc1, hc2, hc3, hc4, hcb⟩ := Slc.chg hsl_0 hi
    have hJI := Imm.le_trans hJ_0 (Imm.le_trans hJ03 hJ4)
    have hbl := hJI.2 _ _ hbl0
    obtain ⟨Ab, cb, hvb, _⟩ := id hcb
    rw [hvb] at hc4 hcb
    have hcbJ := hcb.mono (fun b o q => hJI.2 b o q)
    have hbd : ls[i].b.length ≤ 1048576 := hlb _ (List.getElem_mem hi)
    refine WP.vl rfl (Yld.pickT rfl rfl rfl) ?_; refine WP.nil ?_; refine WP.sub [(0, _), (4, _), (5, _), (6, _), (11, _), (12, _), (92, _)] ?_ ⟨rfl, rfl, rfl, rfl, rfl, rfl, rfl, trivial⟩
    refine WP.next ?_; refine WP.condT rfl ?_; refine WP.skip (WP.next (WP.seq (WP.block (WP.seq ?_))))
    refine WP.region [0, 1, 2, 3] rfl ?_; refine WP.mv rfl rfl ?_; refine WP.vl rfl (Yld.rem64 rfl rfl rfl (by omega)) ?_; refine WP.vl rfl (Yld.add64 rfl rfl rfl (by omega)) ?_; refine WP.mv rfl rfl ?_; refine WP.nil ?_; refine WP.sub [(0, _), (4, _), (5, _), (6, _), (11, _), (12, _), (13, _), (92, _)] ?_ ⟨rfl, rfl, rfl, rfl, rfl, rfl, rfl, rfl, trivial⟩
    refine WP.next ?_; refine WP.cut (X := Nat) (fun pq : Nat => [(0, .slice Al ls.length cl), (4, .pointer (some ⟨x, 0, none⟩)), (5, .pointer (some ⟨st, 0, none⟩)), (6, .pointer (some ⟨bw, 0, none⟩)), (11, .slice Ao4 nm4 co4), (12, .int .i64 (i : Int)), (13, .int .i64 (pq : Int))]) (fun _ => J4) (fun _ : Nat => (bw, row 39 wv4) :: (ms4.flatMap Mi.L ++ (Lo4 ++ (Lt4 ++ (Ll4 ++ F))))) (fun pq : Nat => 1 ≤ pq ∧ pq ≤ 3) ?_ ?_
    ·skip
     refine WP.seq ?_; refine WP.region [0, 1, 2, 3, 4, 5, 6, 7, 8, 9, 10, 11, 12, 13] rfl ?_; iterate 2 refine WP.mv rfl rfl ?_
     refine WP.vl rfl (Yld.indexAddr (i := i) rfl ty_sl_22 (congrArg (fun a => some (Value.slice a ls.length cl)) eAl) rfl hi) ?_; refine WP.vl rfl (Yld.fieldAddr rfl ty_fd_53_2 rfl) ?_; refine WP.vl rfl (Yld.loadC (v := .int .i64 ls[i].page) rfl ty_sc_3 rfl (There.i hbl) hc2) ?_; refine WP.split rfl rfl rfl rfl (Yld.geq rfl rfl rfl) (fun h225 => ?_) (fun h225 => ?_)
     ·refine WP.mv rfl rfl ?_
      iterate 2 refine WP.valG rfl rfl rfl rfl rfl rfl rfl (Yld.move rfl rfl) ?_
      refine WP.valG rfl rfl rfl rfl rfl rfl rfl (Yld.indexAddr (i := i) rfl ty_sl_22 (congrArg (fun a => some (Value.slice a ls.length cl)) eAl) rfl hi) ?_; refine WP.valG rfl rfl rfl rfl rfl rfl rfl (Yld.fieldAddr rfl ty_fd_53_2 rfl) ?_; refine WP.valG rfl rfl rfl rfl rfl rfl rfl (Yld.loadC (v := .int .i64 ls[i].page) rfl ty_sc_3 rfl (There.i hbl) hc2) ?_; refine WP.splitG rfl rfl rfl rfl rfl rfl rfl (Yld.leq rfl rfl rfl) (fun h2212 => ?_) (fun h2212 => ?_)
      ·refine WP.vl rfl (Yld.pickT rfl rfl rfl) ?_
       refine WP.nil ?_; refine WP.sub [(0, _), (4, _), (5, _), (6, _), (11, _), (12, _), (13, _), (92, _), (111, _)] ?_ ⟨rfl, rfl, rfl, rfl, rfl, rfl, rfl, rfl, rfl, trivial⟩
       refine WP.next ?_; refine WP.condT rfl ?_; refine WP.region [0, 1, 2, 3, 4, 5] rfl ?_; iterate 2 refine WP.mv rfl rfl ?_
       refine WP.vl rfl (Yld.indexAddr (i := i) rfl ty_sl_22 (congrArg (fun a => some (Value.slice a ls.length cl)) eAl) rfl hi) ?_; refine WP.vl rfl (Yld.fieldAddr rfl ty_fd_53_2 rfl) ?_; refine WP.vl rfl (Yld.loadC (v := .int .i64 ls[i].page) rfl ty_sc_3 rfl (There.i hbl) hc2) ?_; refine WP.mv rfl rfl ?_; refine WP.nil ?_; refine WP.sub [(0, _), (4, _), (5, _), (6, _), (11, _), (12, _), (13, _), (92, _), (111, _)] ?_ ⟨rfl, rfl, rfl, rfl, rfl, rfl, rfl, rfl, rfl, trivial⟩
       have hpq : ls[i].page = ((ls[i].page.toNat : Nat) : Int) := by omega
       exact WP.meet ls[i].page.toNat ⟨by omega, by omega⟩ ⟨rfl, rfl, rfl, rfl, rfl, rfl, congrArg (fun q : Int => some (Value.int .i64 q)) hpq, trivial⟩ rfl zA
      ·refine WP.vl rfl (Yld.pickT rfl rfl rfl) ?_
       refine WP.nil ?_; refine WP.sub [(0, _), (4, _), (5, _), (6, _), (11, _), (12, _), (13, _), (92, _), (111, _)] ?_ ⟨rfl, rfl, rfl, rfl, rfl, rfl, rfl, rfl, rfl, trivial⟩
       refine WP.next ?_; refine WP.condF rfl ?_; refine WP.skip ?_; have hpq : 1 + (i : Int) % 3 = ((1 + i % 3 : Nat) : Int) := by omega
       exact WP.meet (1 + i % 3) ⟨by omega, by omega⟩ ⟨rfl, rfl, rfl, rfl, rfl, rfl, congrArg (fun q : Int => some (Value.int .i64 q)) hpq, trivial⟩ rfl zA
     ·refine WP.mv rfl rfl ?_
      iterate 6 refine WP.passG rfl rfl rfl rfl rfl rfl rfl rfl ?_
      refine WP.vl rfl (Yld.pickF rfl rfl rfl) ?_; refine WP.nil ?_; refine WP.sub [(0, _), (4, _), (5, _), (6, _), (11, _), (12, _), (13, _), (92, _), (111, _)] ?_ ⟨rfl, rfl, rfl, rfl, rfl, rfl, rfl, rfl, rfl, trivial⟩
      refine WP.next ?_; refine WP.condF rfl ?_; refine WP.skip ?_; have hpq : 1 + (i : Int) % 3 = ((1 + i % 3 : Nat) : Int) := by omega
      exact WP.meet (1 + i % 3) ⟨by omega, by omega⟩ ⟨rfl, rfl, rfl, rfl, rfl, rfl, congrArg (fun q : Int => some (Value.int .i64 q)) hpq, trivial⟩ rfl zA
    ·rintro pq ⟨hp1, hp3⟩
     refine WP.seq ?_; refine WP.region [0, 1, 2, 3, 4, 5] rfl ?_; iterate 2 refine WP.mv rfl rfl ?_
     refine WP.vl rfl (Yld.indexAddr (i := i) rfl ty_sl_22 (congrArg (fun a => some (Value.slice a ls.length cl)) eAl) rfl hi) ?_; refine WP.vl rfl (Yld.fieldAddr rfl ty_fd_53_1 rfl) ?_; refine WP.vl rfl (Yld.loadC (v := .int .i64 ls[i].kind) rfl ty_sc_3 rfl (There.i hbl) hc1) ?_; refine WP.mv rfl rfl ?_; refine WP.nil ?_; refine WP.sub [(0, _), (4, _), (5, _), (6, _), (11, _), (12, _), (13, _), (14, _)] ?_ ⟨rfl, rfl, rfl, rfl, rfl, rfl, rfl, rfl, trivial⟩
     refine WP.next ?_; refine WP.cut (X := KpX) (fun u : KpX => [(0, .slice Al ls.length cl), (4, .pointer (some ⟨x, 0, none⟩)), (5, .pointer (some ⟨st, 0, none⟩)), (6, .pointer (some ⟨bw, 0, none⟩)), (11, u.v), (12, .int .i64 (i : Int))]) (fun u => u.J) (fun u : KpX => (bw, row 39 u.wv) :: (u.ms.flatMap Mi.L ++ (u.Lo ++ (u.Lt ++ (u.Ll ++ F))))) (fun u : KpX => J.le u.J ∧ KW u.W u.tb u.x u.ms ∧ u.ms.length = u.n ∧ u.n ≤ (i + 1) ∧ u.tb.tok ≤ 6 + (i + 1) ∧ Wants u.J u.wv u.W 3 ∧ Own 55 1 u.v (miP u.ms) u.n u.Lo ∧ IsMs u.J st l u.ms ∧ IsT u.J t u.tb u.Lt ∧ IsLog u.J l s d (8 + 32 * 60) u.x (Dk.new (8 + 32 * 60)) u.Ll) ?_ ?_
     ·skip
      refine WP.block (WP.seq ?_)
      refine WP.region [0, 1, 2, 3, 4, 5] rfl ?_; iterate 2 refine WP.mv rfl rfl ?_
      refine WP.vl rfl (Yld.indexAddr (i := i) rfl ty_sl_22 (congrArg (fun a => some (Value.slice a ls.length cl)) eAl) rfl hi) ?_; refine WP.vl rfl (Yld.fieldAddr rfl ty_fd_53_0 rfl) ?_; refine WP.vl rfl (Yld.loadC (v := .bool ls[i].put) rfl ty_sc_4 rfl (There.i hbl) hc0) ?_; by_cases hput : ls[i].put = true
      ·try rw [hput]
       refine WP.mv rfl rfl ?_; refine WP.nil ?_; refine WP.sub [(0, _), (4, _), (5, _), (6, _), (11, _), (12, _), (13, _), (14, _), (122, _)] ?_ ⟨rfl, rfl, rfl, rfl, rfl, rfl, rfl, rfl, rfl, trivial⟩
       refine WP.next ?_; refine WP.condT rfl ?_; refine WP.seq ?_; have hWp := hkw4.nn pq hp1 hp3
       obtain ⟨e, he, _, _⟩ := hkw4.w.en _ hWp
       have hmy := put_may (d := ls[i].b) hkw4.w hWp he (fun h => by show _ ≤ 64; omega) (by decide) hbd
       refine WP.region [0, 1, 2, 3, 4, 5, 6, 7, 8] rfl ?_; iterate 4 refine WP.mv rfl rfl ?_
       refine WP.vl rfl (Yld.indexAddr (i := i) rfl ty_sl_22 (congrArg (fun a => some (Value.slice a ls.length cl)) eAl) rfl hi) ?_; refine WP.vl rfl (Yld.fieldAddr rfl ty_fd_53_4 rfl) ?_; refine WP.vl rfl (Yld.loadC (v := .slice Ab ls[i].b.length cb) rfl ty_sc_47 rfl (There.i hbl) hc4) ?_; refine WP.loud rfl rfl ?_; refine Op.cl (law_put hT4 hrg4 (p := (pq : Int)) (d := ls[i].b) he hcbJ hmy.1 (by omega) hmy.2.1 hmy.2.2) rfl Tryz.func13 rfl rfl rfl rfl ?_; rintro v J5 L267 hJ5 ⟨c, tb5, rfl, hpt, hT5⟩
       try simp only [nf]
       obtain ⟨htk5, hor5⟩ := hkw4.put hp1 hp3 he hbd hpt
       have hbl5 := hJ5.2 _ _ hbl
       refine WP.mv rfl rfl ?_; refine WP.nil ?_; refine WP.sub [(0, _), (4, _), (5, _), (6, _), (11, _), (12, _), (13, _), (14, _), (15, _), (122, _)] ?_ ⟨rfl, rfl, rfl, rfl, rfl, rfl, rfl, rfl, rfl, rfl, trivial⟩
       refine WP.next (WP.seq ?_)
       refine WP.region [0] rfl ?_; refine WP.mv rfl rfl ?_; by_cases hc_ : c = true
       ·try rw [hc_]
        refine WP.nil (WP.next ?_)
        refine WP.condT rfl ?_; obtain ⟨_, hkw5, hW60⟩ := hor5.resolve_right (fun q => by rw [hc_] at q; cases q.1)
        obtain ⟨vq, hvq, hsq⟩ := hwa4.at_ pq hp1 hp3
        obtain ⟨Aq, cq, rfl, _⟩ := id hsq
        refine WD.start Tryzmixed 13 (fun c o => c = bw ∧ o = row 39 wv4) (fun b o => J5.blk b = some o) (by rintro _ _ ⟨rfl, rfl⟩; exact zM) (fun b o h => There.i h) 14 [false, false, false, false, false, false, false, false, false, false, false, false, false, false] rfl rfl ?_; refine WD.vl (i := 0) rfl (Yld.move rfl rfl) ?_; refine WD.vl (i := 1) rfl (Yld.move rfl rfl) ?_; refine WD.vl (i := 2) rfl (Yld.move rfl rfl) ?_; refine WD.vl (i := 3) rfl (Yld.indexAddr (i := i) rfl ty_sl_22 (congrArg (fun a => some (Value.slice a ls.length cl)) eAl) rfl hi) ?_; refine WD.vl (i := 4) rfl (Yld.fieldAddr rfl ty_fd_53_4 rfl) ?_; refine WD.val1 (i := 5) rfl rfl rfl rfl zK rfl zK (Yld.loadC (v := .slice Ab ls[i].b.length cb) rfl ty_sc_47 rfl (.inr hbl5) hc4) ?_; refine WD.vl (i := 6) rfl (Yld.str (e := 5) rfl zK zK zK rfl (hcbJ.mono (fun b o h => hJ5.2 _ _ h))) ?_; refine WD.vl (i := 8) rfl (Yld.move rfl rfl) ?_; refine WD.vl (i := 9) rfl (Yld.indexAddrA (i := pq) rfl ty_ar_39 rfl rfl (by omega)) ?_; refine WD.val1 (i := 10) rfl rfl rfl rfl zK rfl zK (Yld.load (v := .slice Aq ((W4 (pq : Int)).map (·.2)).length cq) rfl ty_sc_38 rfl (.inl ⟨rfl, rfl⟩) hvq) ?_
        refine WD.loud (i := 7) zK rfl rfl rfl ?_; refine Op.buildSlice rfl ty_sl_38 ty_el2_38 rfl rfl rfl rfl (vs := [_]) rfl (segs := [(0, [_])]) (cs := [strV ls[i].b]) rfl rfl zS (fun bq => ?_)
        refine WD.go (.inr (by rintro _ _ ⟨rfl, rfl⟩; exact zM)) (fun b o h => There.i h) ?_; refine WD.loud (i := 11) zK rfl rfl rfl ?_; refine Op.append (m := ((W4 (pq : Int)).map (·.2)).length) rfl ty_sl_38 ty_el_38 rfl rfl rfl rfl rfl (Own.blk (T := 9) (sz := 1) (b := bq) (cap := 1) (n := 1) (xs := [strV ls[i].b]) (sp := []) rfl rfl (Nat.le_refl _)) (hsq.mono (fun b o h => There.i (hJ5.2 _ _ h))) zT (strs_one _) (by rw [List.length_map]; omega) (by rw [List.length_map]; omega) (fun vu Lu hu => ?_)
        try simp only [nf]
        rw [Nat.add_comm 1 (((W4 (pq : Int)).map (·.2)).length)] at hu
        obtain ⟨Av, cv, rfl, _⟩ := hu.slice
        refine WD.go (.inr (by rintro _ _ ⟨rfl, rfl⟩; exact zM)) (fun b o h => There.i h) ?_; refine WD.vl (i := 12) rfl (Yld.indexAddrA (i := pq) rfl ty_ar_39 rfl rfl (by omega)) ?_; refine WD.loud (i := 13) zK rfl rfl rfl ?_; refine Op.store1 rfl rfl ty_sz_38 rfl rfl rfl (by repeat (first | exact Upd.head | apply Upd.tail | apply Upd.tailS)) (setAt_set (by omega) _) ?_; refine WD.go (.inl rfl) (fun b o h => There.i h) ?_; refine WD.done zK ?_; refine WP.sub [(0, _), (4, _), (5, _), (6, _), (11, _), (12, _), (13, _), (14, _), (15, _), (122, _), (136, _)] ?_ ⟨rfl, rfl, rfl, rfl, rfl, rfl, rfl, rfl, rfl, rfl, rfl, trivial⟩
        refine WP.shO hu (fun J6 hJ6 hwsP => ?_)
        have hJ46 := Imm.le_trans hJ5 hJ6
        have hwa5 := (hwa4.mono hJ46).set (p := pq) (m' := 3) (N := ((false, ls[i].b) :: W4 (pq : Int))) hp3 (fun q _ h2 => .inr h2) hwsP
        refine WP.leave ?_; exact WP.meet (⟨(updW W4 (pq : Int) ((false, ls[i].b) :: W4 (pq : Int))), (wv4.set pq (.slice Av (((W4 (pq : Int)).map (·.2)).length + 1) cv)), ms4, nm4, .slice Ao4 nm4 co4, tb5, xx4, J6, Lo4, L267, Ll4⟩ : KpX) ⟨Imm.le_trans hJ4 hJ46, hkw5, hml4, (show nm4 ≤ i + 1 by omega), (by show tb5.tok ≤ 6 + (i + 1); omega), hwa5, hoo4, hms4.mono hJ46, hT5.mono hJ6, hlg4.mono hJ46⟩ ⟨rfl, rfl, rfl, rfl, rfl, rfl, trivial⟩ rfl zA
       ·have hc_ : c = false := eq_false_of_ne_true hc_
        try rw [hc_]
        refine WP.nil (WP.next ?_)
        refine WP.condF rfl ?_; refine WP.skip (WP.leave ?_)
        obtain ⟨_, hq5⟩ := hor5.resolve_left (fun q => by rw [hc_] at q; cases q.1)
        exact WP.meet (⟨W4, wv4, ms4, nm4, .slice Ao4 nm4 co4, tb4, xx4, J5, Lo4, L267, Ll4⟩ : KpX) ⟨Imm.le_trans hJ4 hJ5, hkw4, hml4, (show nm4 ≤ i + 1 by omega), (by show tb4.tok ≤ 6 + (i + 1); omega), hwa4.mono hJ5, hoo4, hms4.mono hJ5, (hq5 ▸ hT5), hlg4.mono hJ5⟩ ⟨rfl, rfl, rfl, rfl, rfl, rfl, trivial⟩ rfl zA
      ·have hput : ls[i].put = false := eq_false_of_ne_true hput
       try rw [hput]
       refine WP.mv rfl rfl ?_; refine WP.nil ?_; refine WP.sub [(0, _), (4, _), (5, _), (6, _), (11, _), (12, _), (13, _), (14, _), (122, _)] ?_ ⟨rfl, rfl, rfl, rfl, rfl, rfl, rfl, rfl, rfl, trivial⟩
       refine WP.next ?_; refine WP.condF rfl ?_; refine WP.seq ?_; refine WP.region [0, 1, 2, 3, 4, 5, 6] rfl ?_; refine WP.mv rfl rfl ?_; refine WP.split rfl rfl rfl rfl (Yld.eql rfl rfl rfl) (fun h291 => ?_) (fun h291 => ?_)
       ·refine WP.mv rfl rfl ?_
        iterate 2 refine WP.passG rfl rfl rfl rfl rfl rfl rfl rfl ?_
        refine WP.vl rfl (Yld.pickT rfl rfl rfl) ?_; refine WP.mv rfl rfl ?_; refine WP.nil ?_; refine WP.sub [(0, _), (4, _), (5, _), (6, _), (11, _), (12, _), (13, _), (14, _), (122, _), (150, _)] ?_ ⟨rfl, rfl, rfl, rfl, rfl, rfl, rfl, rfl, rfl, rfl, trivial⟩
        refine WP.next ?_; refine WP.condT rfl ?_; refine WP.region [0, 1, 2, 3, 4, 5, 6, 7, 8] rfl ?_; iterate 4 refine WP.mv rfl rfl ?_
        refine WP.vl rfl (Yld.eql rfl rfl rfl _ rfl) ?_; refine WP.loud rfl rfl ?_; refine Op.cl (cac_NewFlush (s := st) (p := (pq : Int)) (b := decide (ls[i].kind = 1))) rfl Tryz.func14 rfl rfl rfl rfl ?_; rintro v J Lk - ⟨rfl, m, fk, rfl, hmk⟩
        try simp only [nf]
        refine WP.loud rfl rfl ?_; refine Op.buildSlice rfl ty_sl_51 ty_el2_51 rfl rfl rfl rfl (vs := [_]) rfl (segs := [(0, [_])]) (cs := [.pointer (some ⟨m, 0, none⟩)]) rfl rfl zS (fun bq => ?_)
        refine WP.loud rfl rfl ?_; refine Op.append (m := 1) rfl ty_sl_51 ty_el_51 rfl rfl rfl rfl rfl hoo4 (SlRd.lit (m := 1) zM rfl (Nat.le_refl _)) zT rfl (by omega) (by omega) (fun vn Ln hn2 => ?_)
        try simp only [nf]
        obtain ⟨An, cn, rfl, _⟩ := hn2.slice
        refine WP.mv rfl rfl ?_; refine WP.nil ?_; refine WP.sub [(0, _), (4, _), (5, _), (6, _), (11, _), (12, _), (13, _), (14, _), (122, _), (150, _)] ?_ ⟨rfl, rfl, rfl, rfl, rfl, rfl, rfl, rfl, rfl, rfl, trivial⟩
        refine WP.pushL (f := Mi.L) (l := ms4) ⟨m, (.fl (fl0 (pq : Int) (decide (ls[i].kind = 1)))), Lk⟩ zT (by repeat (first | exact Rm.chunk | exact Rm.here | exact Rm.nil0 | apply Rm.skip | apply Rm.skipS)) ?_; try simp only [nf]
        refine WP.leave ?_; exact WP.meet (⟨W4, wv4, (ms4 ++ [⟨m, (.fl (fl0 (pq : Int) (decide (ls[i].kind = 1)))), Lk⟩]), (nm4 + 1), .slice An (nm4 + 1) cn, tb4, xx4, J4, Ln, Lt4, Ll4⟩ : KpX) ⟨hJ4, hkw4.new (y := ⟨m, (.fl (fl0 (pq : Int) (decide (ls[i].kind = 1)))), Lk⟩) (FlI.new _ _ _ _ _) hp1 hp3 rfl, (by rw [List.length_append]; show ms4.length + 1 = _; rw [hml4]), (show nm4 + 1 ≤ i + 1 by omega), (by show tb4.tok ≤ 6 + (i + 1); omega), hwa4, (by show Own _ _ _ (miP (ms4 ++ [_])) _ _; rw [show miP (ms4 ++ [⟨m, (.fl (fl0 (pq : Int) (decide (ls[i].kind = 1)))), Lk⟩]) = miP ms4 ++ [.pointer (some ⟨m, 0, none⟩)] from by simp [miP]]; exact hn2), (fun y hy => by rcases List.mem_append.1 hy with hy | hy; exact hms4 y hy; cases List.mem_singleton.1 hy; exact ⟨fk, hmk⟩), hT4, hlg4⟩ ⟨rfl, rfl, rfl, rfl, rfl, rfl, trivial⟩ rfl zA
       ·refine WP.mv rfl rfl ?_
        refine WP.valG rfl rfl rfl rfl rfl rfl rfl (Yld.move rfl rfl) ?_; refine WP.splitG rfl rfl rfl rfl rfl rfl rfl (Yld.eql rfl rfl rfl) (fun h294 => ?_) (fun h294 => ?_)
        ·refine WP.vl rfl (Yld.pickF rfl rfl rfl) ?_
         refine WP.mv rfl rfl ?_; refine WP.nil ?_; refine WP.sub [(0, _), (4, _), (5, _), (6, _), (11, _), (12, _), (13, _), (14, _), (122, _), (150, _)] ?_ ⟨rfl, rfl, rfl, rfl, rfl, rfl, rfl, rfl, rfl, rfl, trivial⟩
         refine WP.next ?_; refine WP.condT rfl ?_; refine WP.region [0, 1, 2, 3, 4, 5, 6, 7, 8] rfl ?_; iterate 4 refine WP.mv rfl rfl ?_
         refine WP.vl rfl (Yld.eql rfl rfl rfl _ rfl) ?_; refine WP.loud rfl rfl ?_; refine Op.cl (cac_NewFlush (s := st) (p := (pq : Int)) (b := decide (ls[i].kind = 1))) rfl Tryz.func14 rfl rfl rfl rfl ?_; rintro v J Lk - ⟨rfl, m, fk, rfl, hmk⟩
         try simp only [nf]
         refine WP.loud rfl rfl ?_; refine Op.buildSlice rfl ty_sl_51 ty_el2_51 rfl rfl rfl rfl (vs := [_]) rfl (segs := [(0, [_])]) (cs := [.pointer (some ⟨m, 0, none⟩)]) rfl rfl zS (fun bq => ?_)
         refine WP.loud rfl rfl ?_; refine Op.append (m := 1) rfl ty_sl_51 ty_el_51 rfl rfl rfl rfl rfl hoo4 (SlRd.lit (m := 1) zM rfl (Nat.le_refl _)) zT rfl (by omega) (by omega) (fun vn Ln hn2 => ?_)
         try simp only [nf]
         obtain ⟨An, cn, rfl, _⟩ := hn2.slice
         refine WP.mv rfl rfl ?_; refine WP.nil ?_; refine WP.sub [(0, _), (4, _), (5, _), (6, _), (11, _), (12, _), (13, _), (14, _), (122, _), (150, _)] ?_ ⟨rfl, rfl, rfl, rfl, rfl, rfl, rfl, rfl, rfl, rfl, trivial⟩
         refine WP.pushL (f := Mi.L) (l := ms4) ⟨m, (.fl (fl0 (pq : Int) (decide (ls[i].kind = 1)))), Lk⟩ zT (by repeat (first | exact Rm.chunk | exact Rm.here | exact Rm.nil0 | apply Rm.skip | apply Rm.skipS)) ?_; try simp only [nf]
         refine WP.leave ?_; exact WP.meet (⟨W4, wv4, (ms4 ++ [⟨m, (.fl (fl0 (pq : Int) (decide (ls[i].kind = 1)))), Lk⟩]), (nm4 + 1), .slice An (nm4 + 1) cn, tb4, xx4, J4, Ln, Lt4, Ll4⟩ : KpX) ⟨hJ4, hkw4.new (y := ⟨m, (.fl (fl0 (pq : Int) (decide (ls[i].kind = 1)))), Lk⟩) (FlI.new _ _ _ _ _) hp1 hp3 rfl, (by rw [List.length_append]; show ms4.length + 1 = _; rw [hml4]), (show nm4 + 1 ≤ i + 1 by omega), (by show tb4.tok ≤ 6 + (i + 1); omega), hwa4, (by show Own _ _ _ (miP (ms4 ++ [_])) _ _; rw [show miP (ms4 ++ [⟨m, (.fl (fl0 (pq : Int) (decide (ls[i].kind = 1)))), Lk⟩]) = miP ms4 ++ [.pointer (some ⟨m, 0, none⟩)] from by simp [miP]]; exact hn2), (fun y hy => by rcases List.mem_append.1 hy with hy | hy; exact hms4 y hy; cases List.mem_singleton.1 hy; exact ⟨fk, hmk⟩), hT4, hlg4⟩ ⟨rfl, rfl, rfl, rfl, rfl, rfl, trivial⟩ rfl zA
        ·refine WP.vl rfl (Yld.pickF rfl rfl rfl) ?_
         refine WP.mv rfl rfl ?_; refine WP.nil ?_; refine WP.sub [(0, _), (4, _), (5, _), (6, _), (11, _), (12, _), (13, _), (14, _), (122, _), (150, _)] ?_ ⟨rfl, rfl, rfl, rfl, rfl, rfl, rfl, rfl, rfl, rfl, trivial⟩
         refine WP.next ?_; refine WP.condF rfl ?_; refine WP.seq ?_; refine WP.region [0, 1, 2] rfl ?_; refine WP.mv rfl rfl ?_; refine WP.split rfl rfl rfl rfl (Yld.eql rfl rfl rfl) (fun h311 => ?_) (fun h311 => ?_)
         ·refine WP.mv rfl rfl ?_
          refine WP.nil ?_; refine WP.sub [(0, _), (4, _), (5, _), (6, _), (11, _), (12, _), (13, _), (14, _), (122, _), (150, _), (165, _)] ?_ ⟨rfl, rfl, rfl, rfl, rfl, rfl, rfl, rfl, rfl, rfl, rfl, trivial⟩
          refine WP.next ?_; refine WP.condT rfl ?_; refine WP.region [0, 1, 2, 3, 4, 5, 6] rfl ?_; iterate 3 refine WP.mv rfl rfl ?_
          refine WP.loud rfl rfl ?_; refine Op.cl (cac_NewFault (s := st) (l := l) (p := (pq : Int))) rfl Tryz.func15 rfl rfl rfl rfl ?_; rintro v J Lk - ⟨rfl, m, fk, rfl, hmk⟩
          try simp only [nf]
          refine WP.loud rfl rfl ?_; refine Op.buildSlice rfl ty_sl_51 ty_el2_51 rfl rfl rfl rfl (vs := [_]) rfl (segs := [(0, [_])]) (cs := [.pointer (some ⟨m, 0, none⟩)]) rfl rfl zS (fun bq => ?_)
          refine WP.loud rfl rfl ?_; refine Op.append (m := 1) rfl ty_sl_51 ty_el_51 rfl rfl rfl rfl rfl hoo4 (SlRd.lit (m := 1) zM rfl (Nat.le_refl _)) zT rfl (by omega) (by omega) (fun vn Ln hn2 => ?_)
          try simp only [nf]
          obtain ⟨An, cn, rfl, _⟩ := hn2.slice
          refine WP.mv rfl rfl ?_; refine WP.nil ?_; refine WP.sub [(0, _), (4, _), (5, _), (6, _), (11, _), (12, _), (13, _), (14, _), (122, _), (150, _), (165, _)] ?_ ⟨rfl, rfl, rfl, rfl, rfl, rfl, rfl, rfl, rfl, rfl, rfl, trivial⟩
          refine WP.pushL (f := Mi.L) (l := ms4) ⟨m, (.fa (fa0 (pq : Int))), Lk⟩ zT (by repeat (first | exact Rm.chunk | exact Rm.here | exact Rm.nil0 | apply Rm.skip | apply Rm.skipS)) ?_; try simp only [nf]
          refine WP.leave ?_; exact WP.meet (⟨W4, wv4, (ms4 ++ [⟨m, (.fa (fa0 (pq : Int))), Lk⟩]), (nm4 + 1), .slice An (nm4 + 1) cn, tb4, xx4, J4, Ln, Lt4, Ll4⟩ : KpX) ⟨hJ4, hkw4.new (y := ⟨m, (.fa (fa0 (pq : Int))), Lk⟩) (FaI.new _ _ _ _) hp1 hp3 rfl, (by rw [List.length_append]; show ms4.length + 1 = _; rw [hml4]), (show nm4 + 1 ≤ i + 1 by omega), (by show tb4.tok ≤ 6 + (i + 1); omega), hwa4, (by show Own _ _ _ (miP (ms4 ++ [_])) _ _; rw [show miP (ms4 ++ [⟨m, (.fa (fa0 (pq : Int))), Lk⟩]) = miP ms4 ++ [.pointer (some ⟨m, 0, none⟩)] from by simp [miP]]; exact hn2), (fun y hy => by rcases List.mem_append.1 hy with hy | hy; exact hms4 y hy; cases List.mem_singleton.1 hy; exact ⟨fk, hmk⟩), hT4, hlg4⟩ ⟨rfl, rfl, rfl, rfl, rfl, rfl, trivial⟩ rfl zA
         ·refine WP.mv rfl rfl ?_
          refine WP.nil ?_; refine WP.sub [(0, _), (4, _), (5, _), (6, _), (11, _), (12, _), (13, _), (14, _), (122, _), (150, _), (165, _)] ?_ ⟨rfl, rfl, rfl, rfl, rfl, rfl, rfl, rfl, rfl, rfl, rfl, trivial⟩
          refine WP.next ?_; refine WP.condF rfl ?_; refine WP.seq ?_; refine WP.region [0, 1, 2] rfl ?_; refine WP.mv rfl rfl ?_; refine WP.split rfl rfl rfl rfl (Yld.eql rfl rfl rfl) (fun h331 => ?_) (fun h331 => ?_)
          ·refine WP.mv rfl rfl ?_
           refine WP.nil ?_; refine WP.sub [(0, _), (4, _), (5, _), (6, _), (11, _), (12, _), (13, _), (14, _), (122, _), (150, _), (165, _), (174, _)] ?_ ⟨rfl, rfl, rfl, rfl, rfl, rfl, rfl, rfl, rfl, rfl, rfl, rfl, trivial⟩
           refine WP.next ?_; refine WP.condT rfl ?_; refine WP.region [0, 1, 2, 3, 4, 5, 6] rfl ?_; iterate 3 refine WP.mv rfl rfl ?_
           refine WP.loud rfl rfl ?_; refine Op.cl (cac_NewEvict (s := st) (p := (pq : Int))) rfl Tryz.func16 rfl rfl rfl rfl ?_; rintro v J Lk - ⟨rfl, m, fk, rfl, hmk⟩
           try simp only [nf]
           refine WP.loud rfl rfl ?_; refine Op.buildSlice rfl ty_sl_51 ty_el2_51 rfl rfl rfl rfl (vs := [_]) rfl (segs := [(0, [_])]) (cs := [.pointer (some ⟨m, 0, none⟩)]) rfl rfl zS (fun bq => ?_)
           refine WP.loud rfl rfl ?_; refine Op.append (m := 1) rfl ty_sl_51 ty_el_51 rfl rfl rfl rfl rfl hoo4 (SlRd.lit (m := 1) zM rfl (Nat.le_refl _)) zT rfl (by omega) (by omega) (fun vn Ln hn2 => ?_)
           try simp only [nf]
           obtain ⟨An, cn, rfl, _⟩ := hn2.slice
           refine WP.mv rfl rfl ?_; refine WP.nil ?_; refine WP.sub [(0, _), (4, _), (5, _), (6, _), (11, _), (12, _), (13, _), (14, _), (122, _), (150, _), (165, _), (174, _)] ?_ ⟨rfl, rfl, rfl, rfl, rfl, rfl, rfl, rfl, rfl, rfl, rfl, rfl, trivial⟩
           refine WP.pushL (f := Mi.L) (l := ms4) ⟨m, (.ec (ec0 (pq : Int))), Lk⟩ zT (by repeat (first | exact Rm.chunk | exact Rm.here | exact Rm.nil0 | apply Rm.skip | apply Rm.skipS)) ?_; try simp only [nf]
           refine WP.leave ?_; exact WP.meet (⟨W4, wv4, (ms4 ++ [⟨m, (.ec (ec0 (pq : Int))), Lk⟩]), (nm4 + 1), .slice An (nm4 + 1) cn, tb4, xx4, J4, Ln, Lt4, Ll4⟩ : KpX) ⟨hJ4, hkw4.new (y := ⟨m, (.ec (ec0 (pq : Int))), Lk⟩) (EcI.new _ _ _ _) hp1 hp3 rfl, (by rw [List.length_append]; show ms4.length + 1 = _; rw [hml4]), (show nm4 + 1 ≤ i + 1 by omega), (by show tb4.tok ≤ 6 + (i + 1); omega), hwa4, (by show Own _ _ _ (miP (ms4 ++ [_])) _ _; rw [show miP (ms4 ++ [⟨m, (.ec (ec0 (pq : Int))), Lk⟩]) = miP ms4 ++ [.pointer (some ⟨m, 0, none⟩)] from by simp [miP]]; exact hn2), (fun y hy => by rcases List.mem_append.1 hy with hy | hy; exact hms4 y hy; cases List.mem_singleton.1 hy; exact ⟨fk, hmk⟩), hT4, hlg4⟩ ⟨rfl, rfl, rfl, rfl, rfl, rfl, trivial⟩ rfl zA
          ·refine WP.mv rfl rfl ?_
           refine WP.nil ?_; refine WP.sub [(0, _), (4, _), (5, _), (6, _), (11, _), (12, _), (13, _), (14, _), (122, _), (150, _), (165, _), (174, _)] ?_ ⟨rfl, rfl, rfl, rfl, rfl, rfl, rfl, rfl, rfl, rfl, rfl, rfl, trivial⟩
           refine WP.next ?_; refine WP.condF rfl ?_; refine WP.seq ?_; refine WP.region [0, 1, 2, 3, 4, 5, 6, 7, 8, 9, 10, 11] rfl ?_; refine WP.mv rfl rfl ?_; refine WP.vl rfl (Yld.len rfl ty_sl_51 rfl) ?_; refine WP.split rfl rfl rfl rfl (Yld.gtr rfl rfl rfl) (fun h352 => ?_) (fun h352 => ?_)
           ·refine WP.mv rfl rfl ?_
            iterate 2 refine WP.valG rfl rfl rfl rfl rfl rfl rfl (Yld.move rfl rfl) ?_
            refine WP.valG rfl rfl rfl rfl rfl rfl rfl (Yld.indexAddr (i := i) rfl ty_sl_22 (congrArg (fun a => some (Value.slice a ls.length cl)) eAl) rfl hi) ?_; refine WP.valG rfl rfl rfl rfl rfl rfl rfl (Yld.fieldAddr rfl ty_fd_53_3 rfl) ?_; refine WP.valG rfl rfl rfl rfl rfl rfl rfl (Yld.loadC (v := .int .i64 ls[i].n) rfl ty_sc_3 rfl (There.i hbl) hc3) ?_; refine WP.splitG rfl rfl rfl rfl rfl rfl rfl (Yld.geq rfl rfl rfl) (fun h359 => ?_) (fun h359 => ?_)
            ·refine WP.vl rfl (Yld.pickT rfl rfl rfl) ?_
             refine WP.mv rfl rfl ?_; refine WP.nil ?_; refine WP.sub [(0, _), (4, _), (5, _), (6, _), (11, _), (12, _), (13, _), (14, _), (122, _), (150, _), (165, _), (174, _), (183, _)] ?_ ⟨rfl, rfl, rfl, rfl, rfl, rfl, rfl, rfl, rfl, rfl, rfl, rfl, rfl, trivial⟩
             refine WP.next ?_; refine WP.condT rfl ?_; have hn0 : 0 < nm4 := by omega
             obtain ⟨bm, cap, sp, hve, rfl, _, _⟩ := hoo4.get hn0
             cases hve
             try simp only [nf]
             obtain ⟨kk, hkv, hkk⟩ := (tmod_nat (a := ls[i].n) (m := nm4) hn0).1 (by have := Int.tmod_nonneg (nm4 : Int) (show 0 ≤ ls[i].n by omega); omega)
             have hkm : kk < ms4.length := by omega
             have hptr := miP_at hkm sp
             have hm4 := hms4 _ (List.getElem_mem hkm)
             have hmk4 := hkw4.ms _ (List.getElem_mem hkm)
             refine WP.region [0, 1, 2, 3, 4, 5, 6, 7, 8, 9, 10, 11] rfl ?_; iterate 3 refine WP.mv rfl rfl ?_
             refine WP.vl rfl (Yld.indexAddr (i := i) rfl ty_sl_22 (congrArg (fun a => some (Value.slice a ls.length cl)) eAl) rfl hi) ?_; refine WP.vl rfl (Yld.fieldAddr rfl ty_fd_53_3 rfl) ?_; refine WP.vl rfl (Yld.loadC (v := .int .i64 ls[i].n) rfl ty_sc_3 rfl (There.i hbl) hc3) ?_; refine WP.mv rfl rfl ?_; refine WP.vl rfl (Yld.len rfl ty_sl_51 rfl) ?_; refine WP.vl rfl (Yld.remT rfl rfl rfl ⟨by omega, by omega⟩) ?_; rw [hkv]
             refine WP.vl rfl (Yld.indexAddr (i := kk) rfl ty_sl_51 rfl rfl hkk) ?_; refine WP.vl rfl (Yld.ld (v := .pointer (some ⟨ms4[kk].m, 0, none⟩)) rfl ty_sc_55 rfl hptr) ?_; refine WP.outL (f := Mi.L) (l := ms4) kk hkm (by repeat (first | exact Rm.chunk | exact Rm.here | exact Rm.nil0 | apply Rm.skip | apply Rm.skipS)) ?_; try simp only [nf]
             refine WP.loud rfl rfl ?_; refine Op.cl (mx_Step hst4 hT4 hlg4 hm4 hkw4.w hmk4.2 hmk4.1 (by decide : bdA.b ≤ 1099511627776) (by omega)) rfl Tryz.func17 rfl rfl rfl rfl ?_; rintro v J5 L3611 hJ5 ⟨c5, z5, tb5, xx5, Lm5, Lt5, Ll5, rfl, hs5, rfl, hm5, hT5, hlg5⟩
             try simp only [nf]
             obtain ⟨hkw5, htk5⟩ := hkw4.step hkm hs5 (m := ms4[kk].m) (L := Lm5)
             refine WP.nil ?_; refine WP.sub [(0, _), (4, _), (5, _), (6, _), (11, _), (12, _), (13, _), (14, _), (122, _), (150, _), (165, _), (174, _), (183, _)] ?_ ⟨rfl, rfl, rfl, rfl, rfl, rfl, rfl, rfl, rfl, rfl, rfl, rfl, rfl, trivial⟩
             refine WP.backL (f := Mi.L) (l := ms4) kk hkm ⟨ms4[kk].m, z5, Lm5⟩ zT (by repeat (first | exact Rm.chunk | exact Rm.here | exact Rm.nil0 | apply Rm.skip | apply Rm.skipS)) ?_; try simp only [nf]
             refine WP.leave ?_; exact WP.meet (⟨W4, wv4, (ms4.set kk ⟨ms4[kk].m, z5, Lm5⟩), nm4, .slice (some ⟨bm, 0, none⟩) nm4 co4, tb5, xx5, J5, [(bm, row 55 (miP ms4 ++ sp))], Lt5, Ll5⟩ : KpX) ⟨Imm.le_trans hJ4 hJ5, hkw5, (by rw [List.length_set]; exact hml4), (show nm4 ≤ i + 1 by omega), (by show tb5.tok ≤ 6 + (i + 1); omega), hwa4.mono hJ5, (by show Own _ _ _ (miP (ms4.set kk ⟨ms4[kk].m, z5, Lm5⟩)) _ _; rw [miP_set (y := ⟨ms4[kk].m, z5, Lm5⟩) hkm rfl]; exact hoo4), (hms4.mono hJ5).set kk hm5, hT5, hlg5⟩ ⟨rfl, rfl, rfl, rfl, rfl, rfl, trivial⟩ rfl zA
            ·refine WP.vl rfl (Yld.pickT rfl rfl rfl) ?_
             refine WP.mv rfl rfl ?_; refine WP.nil ?_; refine WP.sub [(0, _), (4, _), (5, _), (6, _), (11, _), (12, _), (13, _), (14, _), (122, _), (150, _), (165, _), (174, _), (183, _)] ?_ ⟨rfl, rfl, rfl, rfl, rfl, rfl, rfl, rfl, rfl, rfl, rfl, rfl, rfl, trivial⟩
             refine WP.next ?_; refine WP.condF rfl ?_; refine WP.skip (WP.leave ?_)
             exact WP.meet (⟨W4, wv4, ms4, nm4, .slice Ao4 nm4 co4, tb4, xx4, J4, Lo4, Lt4, Ll4⟩ : KpX) ⟨hJ4, hkw4, hml4, (show nm4 ≤ i + 1 by omega), (by show tb4.tok ≤ 6 + (i + 1); omega), hwa4, hoo4, hms4, hT4, hlg4⟩ ⟨rfl, rfl, rfl, rfl, rfl, rfl, trivial⟩ rfl zA
           ·refine WP.mv rfl rfl ?_
            iterate 6 refine WP.passG rfl rfl rfl rfl rfl rfl rfl rfl ?_
            refine WP.vl rfl (Yld.pickF rfl rfl rfl) ?_; refine WP.mv rfl rfl ?_; refine WP.nil ?_; refine WP.sub [(0, _), (4, _), (5, _), (6, _), (11, _), (12, _), (13, _), (14, _), (122, _), (150, _), (165, _), (174, _), (183, _)] ?_ ⟨rfl, rfl, rfl, rfl, rfl, rfl, rfl, rfl, rfl, rfl, rfl, rfl, rfl, trivial⟩
            refine WP.next ?_; refine WP.condF rfl ?_; refine WP.skip (WP.leave ?_)
            exact WP.meet (⟨W4, wv4, ms4, nm4, .slice Ao4 nm4 co4, tb4, xx4, J4, Lo4, Lt4, Ll4⟩ : KpX) ⟨hJ4, hkw4, hml4, (show nm4 ≤ i + 1 by omega), (by show tb4.tok ≤ 6 + (i + 1); omega), hwa4, hoo4, hms4, hT4, hlg4⟩ ⟨rfl, rfl, rfl, rfl, rfl, rfl, trivial⟩ rfl zA
     ·rintro ⟨W6, wv6, ms6, nm6, vms6, tb6, xx6, J6, Lo6, Lt6, Ll6⟩ ⟨hJ6, hkw6, hml6, hmi6, htk6, hwa6, hoo6, hms6, hT6, hlg6⟩; dsimp only at hJ6 hkw6 hml6 hmi6 htk6 hwa6 hoo6 hms6 hT6 hlg6; obtain ⟨Ao6, co6, rfl, _⟩ := hoo6.slice; have hst6 := (Imm.le_trans hJ03 hJ6).2 _ _ hst_0; have hrg6 := (Imm.le_trans hJ03 hJ6).2 _ _ hrg_0; have hwl6 := hwa6.len
      refine WP.seq ?_; refine WP.region [0] rfl ?_; refine WP.mv rfl rfl ?_; refine WP.nil (WP.next (WP.block ?_))
      refine WP.loop (X := HsX) (fun u : HsX => [(0, .slice Al ls.length cl), (4, .pointer (some ⟨x, 0, none⟩)), (5, .pointer (some ⟨st, 0, none⟩)), (6, .pointer (some ⟨bw, 0, none⟩)), (11, .slice Ao6 nm6 co6), (12, .int .i64 (i : Int)), (16, .int .i64 ((u.j + 1 : Nat) : Int))]) (fun u => u.J) (fun u : HsX => (bw, row 39 wv6) :: (ms6.flatMap Mi.L ++ (Lo6 ++ (u.Lt ++ (u.Ll ++ F))))) (fun u : HsX => u.j ≤ 3 ∧ J6.le u.J ∧ u.tb = tb6 ∧ u.x = xx6 ∧ IsT u.J t u.tb u.Lt ∧ IsLog u.J l s d (8 + 32 * 60) u.x (Dk.new (8 + 32 * 60)) u.Ll) (fun u => 3 - u.j) ⟨0, tb6, xx6, J6, Lt6, Ll6⟩ ⟨Nat.zero_le _, Imm.le_refl _, rfl, rfl, hT6, hlg6⟩ ⟨rfl, rfl, rfl, rfl, rfl, rfl, rfl, trivial⟩ rfl zA ?_; rintro ⟨j, tb7, xx7, J7, Lt7, Ll7⟩ ⟨hj, hJ7, htb7, hxx7, hT7, hlg7⟩; dsimp only at hj hJ7 htb7 hxx7 hT7 hlg7; have hkw7 : KW W6 tb7 xx7 ms6 := (by rw [htb7, hxx7]; exact hkw6); have htk7 : tb7.tok ≤ 6 + (i + 1) := (by rw [htb7]; exact htk6)
      try dsimp only
      try simp only [nf]
      refine WP.seq (WP.seq ?_)
      refine WP.region [0, 1] rfl ?_; refine WP.mv rfl rfl ?_; refine WP.split rfl rfl rfl rfl (Yld.leq rfl rfl rfl) (fun hj38 => ?_) (fun hj38 => ?_)
      ·obtain ⟨vq, hvq, hsq⟩ := hwa6.at_ (j + 1) (by omega) (by omega)
       have hWq := hkw7.nn (j + 1) (by omega) (by omega)
       obtain ⟨eq_, heq, _, hokq⟩ := hkw7.w.en _ hWq
       refine WP.nil ?_; refine WP.sub [(0, _), (4, _), (5, _), (6, _), (11, _), (12, _), (16, _), (208, _)] ?_ ⟨rfl, rfl, rfl, rfl, rfl, rfl, rfl, rfl, trivial⟩
       refine WP.next ?_; refine WP.condT rfl ?_; refine WP.skip (WP.next (WP.seq (WP.block (WP.seq ?_))))
       refine WP.region [0, 1, 2, 3, 4, 5, 6] rfl ?_; iterate 3 refine WP.mv rfl rfl ?_
       refine WP.vl rfl (Yld.indexAddrA (i := j + 1) rfl ty_ar_39 rfl rfl (by omega)) ?_; refine WP.vl rfl (Yld.ld (v := vq) rfl ty_sc_38 rfl hvq) ?_; refine WP.loud rfl rfl ?_; refine Op.cl (law_has hT7 (hJ7.2 _ _ hrg6) heq (hsq.mono (Imv.le hJ7)) (fun q => by rcases hokq.st with ⟨_, _, a3⟩ | ⟨_, a1, a2, _⟩; (exfalso; have := hokq.nf.pos; rw [← a3, q] at this; exact absurd this (Nat.not_lt_zero _)); omega) (fun q => by cases q) (fun q => by rw [hokq.nds.resolve_left q]) (fun q => by rw [hokq.nds.resolve_left q]; exact hokq.nf)) rfl Tryz.func18 rfl rfl rfl rfl ?_; rintro v J8 L405 hJ8 ⟨rfl, hT8⟩
       try simp only [nf]
       refine WP.mv rfl rfl ?_; refine WP.nil ?_; refine WP.sub [(0, _), (4, _), (5, _), (6, _), (11, _), (12, _), (16, _), (17, _), (208, _)] ?_ ⟨rfl, rfl, rfl, rfl, rfl, rfl, rfl, rfl, rfl, trivial⟩
       refine WP.next (WP.seq ?_)
       refine WP.region [0, 1] rfl ?_; refine WP.mv rfl rfl ?_; refine WP.vl rfl (Yld.not rfl rfl) ?_; refine WP.nil ?_; refine WP.sub [(0, _), (4, _), (5, _), (6, _), (11, _), (12, _), (16, _), (17, _), (208, _), (218, _)] ?_ ⟨rfl, rfl, rfl, rfl, rfl, rfl, rfl, rfl, rfl, rfl, trivial⟩
       refine WP.next ?_; refine WP.condF rfl ?_; refine WP.skip (WP.leave (WP.next ?_))
       refine WP.region [0, 1, 2] rfl ?_; refine WP.mv rfl rfl ?_; refine WP.vl rfl (Yld.add64 rfl rfl rfl (by omega)) ?_; refine WP.mv rfl rfl ?_; refine WP.nil ?_; refine WP.sub [(0, _), (4, _), (5, _), (6, _), (11, _), (12, _), (16, _), (17, _), (208, _), (218, _)] ?_ ⟨rfl, rfl, rfl, rfl, rfl, rfl, rfl, rfl, rfl, rfl, trivial⟩
       exact WP.again ⟨j + 1, tb7, xx7, J8, L405, Ll7⟩ ⟨(show j + 1 ≤ 3 by omega), Imm.le_trans hJ7 hJ8, htb7, hxx7, hT8, hlg7.mono hJ8⟩ (show 3 - (j + 1) < 3 - j by omega) ⟨rfl, rfl, rfl, rfl, rfl, rfl, rfl, trivial⟩ rfl zA
      ·refine WP.nil ?_
       refine WP.sub [(0, _), (4, _), (5, _), (6, _), (11, _), (12, _), (16, _), (208, _)] ?_ ⟨rfl, rfl, rfl, rfl, rfl, rfl, rfl, rfl, trivial⟩
       refine WP.next ?_; refine WP.condF rfl ?_; refine WP.exit (WP.thenE (WP.thenE (WP.hit (WP.leave (WP.next ?_)))))
       refine WP.region [0, 1, 2] rfl ?_; refine WP.mv rfl rfl ?_; refine WP.vl rfl (Yld.add64 rfl rfl rfl (by omega)) ?_; refine WP.mv rfl rfl ?_; refine WP.nil ?_; refine WP.sub [(0, _), (4, _), (5, _), (6, _), (11, _), (12, _), (16, _), (208, _)] ?_ ⟨rfl, rfl, rfl, rfl, rfl, rfl, rfl, rfl, trivial⟩
       exact WP.again (i + 1, ⟨W6, wv6, ms6, nm6, .slice Ao6 nm6 co6, tb7, xx7, J7, Lo6, Lt7, Ll7⟩) ⟨(show i + 1 ≤ ls.length by omega), (show i + 1 ≤ 300 by omega), Imm.le_trans hJ6 hJ7, hkw7, hml6, hmi6, htk7, hwa6.mono hJ7, hoo6, hms6.mono hJ7, hT7, hlg7⟩ (show ls.length - (i + 1) < ls.length - i by omega) ⟨rfl, rfl, rfl, rfl, rfl, rfl, trivial⟩ rfl zA
   ·refine WP.vl rfl (Yld.pickT rfl rfl rfl) ?_
    refine WP.nil ?_; refine WP.sub [(0, _), (4, _), (5, _), (6, _), (11, _), (12, _), (92, _)] ?_ ⟨rfl, rfl, rfl, rfl, rfl, rfl, rfl, trivial⟩
    refine WP.next ?_; refine WP.condF rfl ?_; refine WP.exit (WP.thenE (WP.thenE (WP.hit (WP.next (WP.seq (WP.seq ?_))))))
    refine WP.region [0] rfl ?_; refine WP.mv rfl rfl ?_; refine WP.nil (WP.next (WP.block ?_))
    refine WP.loop (X := HsX) (fun u : HsX => [(4, .pointer (some ⟨x, 0, none⟩)), (5, .pointer (some ⟨st, 0, none⟩)), (6, .pointer (some ⟨bw, 0, none⟩)), (18, .int .i64 ((u.j + 1 : Nat) : Int))]) (fun u => u.J) (fun u : HsX => (bw, row 39 wv4) :: (u.Lt ++ (u.Ll ++ F))) (fun u : HsX => u.j ≤ 3 ∧ J4.le u.J ∧ CW 60 bdA W4 u.tb u.x ∧ u.tb.tok ≤ 306 + 99 * u.j ∧ IsT u.J t u.tb u.Lt ∧ IsLog u.J l s d (8 + 32 * 60) u.x (Dk.new (8 + 32 * 60)) u.Ll) (fun u => 3 - u.j) ⟨0, tb4, xx4, J4, Lt4, Ll4⟩ ⟨Nat.zero_le _, Imm.le_refl _, hkw4.w, (by show tb4.tok ≤ 306 + 99 * 0; omega), hT4, hlg4⟩ ⟨rfl, rfl, rfl, rfl, trivial⟩ rfl zA ?_; rintro ⟨j, tb7, xx7, J7, Lt7, Ll7⟩ ⟨hj, hJ7, hw7, htk7, hT7, hlg7⟩; dsimp only at hj hJ7 hw7 htk7 hT7 hlg7
    try dsimp only
    try simp only [nf]
    refine WP.seq (WP.seq ?_)
    refine WP.region [0, 1] rfl ?_; refine WP.mv rfl rfl ?_; refine WP.split rfl rfl rfl rfl (Yld.leq rfl rfl rfl) (fun hj44 => ?_) (fun hj44 => ?_)
    ·obtain ⟨vq, hvq, hsq⟩ := hwa4.at_ (j + 1) (by omega) (by omega)
     have hWq := hkw4.nn (j + 1) (by omega) (by omega)
     refine WP.nil ?_; refine WP.sub [(4, _), (5, _), (6, _), (18, _), (220, _)] ?_ ⟨rfl, rfl, rfl, rfl, rfl, trivial⟩
     refine WP.next ?_; refine WP.condT rfl ?_; refine WP.skip (WP.next (WP.seq (WP.block (WP.seq ?_))))
     refine WP.region [0, 1, 2, 3, 4] rfl ?_; iterate 2 refine WP.mv rfl rfl ?_
     refine WP.loud rfl rfl ?_; refine Op.cl (cac_NewFault (s := st) (l := l) (p := ((j + 1 : Nat) : Int))) rfl Tryz.func15 rfl rfl rfl rfl ?_; rintro v J LnG - ⟨rfl, mG, fG, rfl, hfG⟩
     try simp only [nf]
     refine WP.loud rfl rfl ?_; refine Op.cl (law_count (z := .fa (fa0 ((j + 1 : Nat) : Int))) (hJ7.2 _ _ hst4) hT7 hlg7 ⟨fG, hfG⟩ hw7 hWq (FaI.new _ _ _ _) (by decide : bdA.b ≤ 1099511627776) (by omega)) rfl Tryz.func19 rfl rfl rfl rfl ?_; rintro v JG LcG hJG ⟨nG, zG, tbG, xxG, LmG, LtG, LlG, rfl, hcG, rfl, hmG, hTG, hlgG, wG, hgG, hiG, hpG, htG⟩
     try simp only [nf]
     have hmuG : (fa0 ((j + 1 : Nat) : Int)).mu bdA.k tb7 ≤ 99 := Nat.le_trans (Nat.le_of_eq (Fa.mu1 rfl)) (by decide)
     have hbG := CountsF.bound (f := 99) (z := .fa (fa0 ((j + 1 : Nat) : Int))) hw7 hWq (FaI.new _ _ _ _) hmuG hcG
     obtain ⟨_, eG, heG, hneG, _⟩ := fa_in (f := 99) hw7 hWq (FaI.new _ _ _ _) (by show (1 : Nat) ≠ 9; decide) (fun q => absurd rfl q) hmuG hcG
     have hokG := (wG.held hWq heG).ok
     have hnG := hokG.nds.resolve_left hneG
     have hsqG := hsq.mono (Imv.le (Imm.le_trans hJ7 hJG))
     refine WP.mv rfl rfl ?_; refine WP.nil ?_; refine WP.sub [(4, _), (5, _), (6, _), (18, _), (19, _), (220, _)] ?_ ⟨rfl, rfl, rfl, rfl, rfl, rfl, trivial⟩
     refine WP.next (WP.seq ?_)
     refine WP.region [0, 1, 2, 3, 4, 5, 6] rfl ?_; iterate 3 refine WP.mv rfl rfl ?_
     refine WP.vl rfl (Yld.indexAddrA (i := j + 1) rfl ty_ar_39 rfl rfl (by omega)) ?_; refine WP.vl rfl (Yld.ld (v := vq) rfl ty_sc_38 rfl hvq) ?_; refine WP.loud rfl rfl ?_; refine Op.cl (law_has hTG ((Imm.le_trans hJ7 hJG).2 _ _ hrg4) heG hsqG (fun q => absurd q hneG) (fun _ => hneG) (fun _ => by rw [hnG]) (fun _ => by rw [hnG]; exact hokG.nf)) rfl Tryz.func18 rfl rfl rfl rfl ?_; rintro v J8 L475 hJ8 ⟨rfl, hT8⟩
     try simp only [nf]
     refine WP.mv rfl rfl ?_; refine WP.nil ?_; refine WP.sub [(4, _), (5, _), (6, _), (18, _), (19, _), (20, _), (220, _)] ?_ ⟨rfl, rfl, rfl, rfl, rfl, rfl, rfl, trivial⟩
     refine WP.next (WP.seq ?_)
     refine WP.region [0, 1, 2, 3, 4, 5] rfl ?_; refine WP.mv rfl rfl ?_; refine WP.vl rfl (Yld.lss rfl rfl rfl false (decide_eq_false (by omega))) ?_; refine WP.mv rfl rfl ?_; refine WP.valG rfl rfl rfl rfl rfl rfl rfl (Yld.move rfl rfl) ?_; refine WP.valG rfl rfl rfl rfl rfl rfl rfl (Yld.not rfl rfl) ?_; refine WP.vl rfl (Yld.pickF rfl rfl rfl) ?_; refine WP.nil ?_; refine WP.sub [(4, _), (5, _), (6, _), (18, _), (19, _), (20, _), (220, _), (238, _)] ?_ ⟨rfl, rfl, rfl, rfl, rfl, rfl, rfl, rfl, trivial⟩
     refine WP.next ?_; refine WP.condF rfl ?_; refine WP.skip (WP.leave (WP.next ?_))
     refine WP.region [0, 1, 2] rfl ?_; refine WP.mv rfl rfl ?_; refine WP.vl rfl (Yld.add64 rfl rfl rfl (by omega)) ?_; refine WP.mv rfl rfl ?_; refine WP.nil ?_; refine WP.sub [(4, _), (5, _), (6, _), (18, _), (19, _), (20, _), (220, _), (238, _)] ?_ ⟨rfl, rfl, rfl, rfl, rfl, rfl, rfl, rfl, trivial⟩
     exact WP.again ⟨j + 1, tbG, xxG, J8, L475, LlG⟩ ⟨(show j + 1 ≤ 3 by omega), Imm.le_trans hJ7 (Imm.le_trans hJG hJ8), wG, (show tbG.tok ≤ 306 + 99 * (j + 1) by omega), hT8, hlgG.mono hJ8⟩ (show 3 - (j + 1) < 3 - j by omega) ⟨rfl, rfl, rfl, rfl, trivial⟩ rfl zA
    ·refine WP.nil ?_
     refine WP.sub [(4, _), (5, _), (6, _), (18, _), (220, _)] ?_ ⟨rfl, rfl, rfl, rfl, rfl, trivial⟩
     refine WP.next ?_; refine WP.condF rfl ?_; refine WP.exit (WP.thenE (WP.thenE (WP.hit (WP.next (WP.seq ?_)))))
     refine WP.region [0] rfl ?_; refine WP.mv rfl rfl ?_; refine WP.nil (WP.next (WP.ret ?_))
     refine WP.fn .ret (.inr rfl) (res1 rfl rfl) [] (Imm.le_trans hJ_0 (Imm.le_trans hJ03 (Imm.le_trans hJ4 hJ7))) ?_; exact ⟨rfl, rfl⟩
  ·refine WP.mv rfl rfl ?_
   iterate 2 refine WP.passG rfl rfl rfl rfl rfl rfl rfl rfl ?_
   refine WP.vl rfl (Yld.pickF rfl rfl rfl) ?_; refine WP.nil ?_; refine WP.sub [(0, _), (4, _), (5, _), (6, _), (11, _), (12, _), (92, _)] ?_ ⟨rfl, rfl, rfl, rfl, rfl, rfl, rfl, trivial⟩
   refine WP.next ?_; refine WP.condF rfl ?_; refine WP.exit (WP.thenE (WP.thenE (WP.hit (WP.next (WP.seq (WP.seq ?_))))))
   refine WP.region [0] rfl ?_; refine WP.mv rfl rfl ?_; refine WP.nil (WP.next (WP.block ?_))
   refine WP.loop (X := HsX) (fun u : HsX => [(4, .pointer (some ⟨x, 0, none⟩)), (5, .pointer (some ⟨st, 0, none⟩)), (6, .pointer (some ⟨bw, 0, none⟩)), (18, .int .i64 ((u.j + 1 : Nat) : Int))]) (fun u => u.J) (fun u : HsX => (bw, row 39 wv4) :: (u.Lt ++ (u.Ll ++ F))) (fun u : HsX => u.j ≤ 3 ∧ J4.le u.J ∧ CW 60 bdA W4 u.tb u.x ∧ u.tb.tok ≤ 306 + 99 * u.j ∧ IsT u.J t u.tb u.Lt ∧ IsLog u.J l s d (8 + 32 * 60) u.x (Dk.new (8 + 32 * 60)) u.Ll) (fun u => 3 - u.j) ⟨0, tb4, xx4, J4, Lt4, Ll4⟩ ⟨Nat.zero_le _, Imm.le_refl _, hkw4.w, (by show tb4.tok ≤ 306 + 99 * 0; omega), hT4, hlg4⟩ ⟨rfl, rfl, rfl, rfl, trivial⟩ rfl zA ?_; rintro ⟨j, tb7, xx7, J7, Lt7, Ll7⟩ ⟨hj, hJ7, hw7, htk7, hT7, hlg7⟩; dsimp only at hj hJ7 hw7 htk7 hT7 hlg7
   try dsimp only
   try simp only [nf]
   refine WP.seq (WP.seq ?_)
   refine WP.region [0, 1] rfl ?_; refine WP.mv rfl rfl ?_; refine WP.split rfl rfl rfl rfl (Yld.leq rfl rfl rfl) (fun hj44 => ?_) (fun hj44 => ?_)
   ·obtain ⟨vq, hvq, hsq⟩ := hwa4.at_ (j + 1) (by omega) (by omega)
    have hWq := hkw4.nn (j + 1) (by omega) (by omega)
    refine WP.nil ?_; refine WP.sub [(4, _), (5, _), (6, _), (18, _), (220, _)] ?_ ⟨rfl, rfl, rfl, rfl, rfl, trivial⟩
    refine WP.next ?_; refine WP.condT rfl ?_; refine WP.skip (WP.next (WP.seq (WP.block (WP.seq ?_))))
    refine WP.region [0, 1, 2, 3, 4] rfl ?_; iterate 2 refine WP.mv rfl rfl ?_
    refine WP.loud rfl rfl ?_; refine Op.cl (cac_NewFault (s := st) (l := l) (p := ((j + 1 : Nat) : Int))) rfl Tryz.func15 rfl rfl rfl rfl ?_; rintro v J LnG - ⟨rfl, mG, fG, rfl, hfG⟩
    try simp only [nf]
    refine WP.loud rfl rfl ?_; refine Op.cl (law_count (z := .fa (fa0 ((j + 1 : Nat) : Int))) (hJ7.2 _ _ hst4) hT7 hlg7 ⟨fG, hfG⟩ hw7 hWq (FaI.new _ _ _ _) (by decide : bdA.b ≤ 1099511627776) (by omega)) rfl Tryz.func19 rfl rfl rfl rfl ?_; rintro v JG LcG hJG ⟨nG, zG, tbG, xxG, LmG, LtG, LlG, rfl, hcG, rfl, hmG, hTG, hlgG, wG, hgG, hiG, hpG, htG⟩
    try simp only [nf]
    have hmuG : (fa0 ((j + 1 : Nat) : Int)).mu bdA.k tb7 ≤ 99 := Nat.le_trans (Nat.le_of_eq (Fa.mu1 rfl)) (by decide)
    have hbG := CountsF.bound (f := 99) (z := .fa (fa0 ((j + 1 : Nat) : Int))) hw7 hWq (FaI.new _ _ _ _) hmuG hcG
    obtain ⟨_, eG, heG, hneG, _⟩ := fa_in (f := 99) hw7 hWq (FaI.new _ _ _ _) (by show (1 : Nat) ≠ 9; decide) (fun q => absurd rfl q) hmuG hcG
    have hokG := (wG.held hWq heG).ok
    have hnG := hokG.nds.resolve_left hneG
    have hsqG := hsq.mono (Imv.le (Imm.le_trans hJ7 hJG))
    refine WP.mv rfl rfl ?_; refine WP.nil ?_; refine WP.sub [(4, _), (5, _), (6, _), (18, _), (19, _), (220, _)] ?_ ⟨rfl, rfl, rfl, rfl, rfl, rfl, trivial⟩
    refine WP.next (WP.seq ?_)
    refine WP.region [0, 1, 2, 3, 4, 5, 6] rfl ?_; iterate 3 refine WP.mv rfl rfl ?_
    refine WP.vl rfl (Yld.indexAddrA (i := j + 1) rfl ty_ar_39 rfl rfl (by omega)) ?_; refine WP.vl rfl (Yld.ld (v := vq) rfl ty_sc_38 rfl hvq) ?_; refine WP.loud rfl rfl ?_; refine Op.cl (law_has hTG ((Imm.le_trans hJ7 hJG).2 _ _ hrg4) heG hsqG (fun q => absurd q hneG) (fun _ => hneG) (fun _ => by rw [hnG]) (fun _ => by rw [hnG]; exact hokG.nf)) rfl Tryz.func18 rfl rfl rfl rfl ?_; rintro v J8 L475 hJ8 ⟨rfl, hT8⟩
    try simp only [nf]
    refine WP.mv rfl rfl ?_; refine WP.nil ?_; refine WP.sub [(4, _), (5, _), (6, _), (18, _), (19, _), (20, _), (220, _)] ?_ ⟨rfl, rfl, rfl, rfl, rfl, rfl, rfl, trivial⟩
    refine WP.next (WP.seq ?_)
    refine WP.region [0, 1, 2, 3, 4, 5] rfl ?_; refine WP.mv rfl rfl ?_; refine WP.vl rfl (Yld.lss rfl rfl rfl false (decide_eq_false (by omega))) ?_; refine WP.mv rfl rfl ?_; refine WP.valG rfl rfl rfl rfl rfl rfl rfl (Yld.move rfl rfl) ?_; refine WP.valG rfl rfl rfl rfl rfl rfl rfl (Yld.not rfl rfl) ?_; refine WP.vl rfl (Yld.pickF rfl rfl rfl) ?_; refine WP.nil ?_; refine WP.sub [(4, _), (5, _), (6, _), (18, _), (19, _), (20, _), (220, _), (238, _)] ?_ ⟨rfl, rfl, rfl, rfl, rfl, rfl, rfl, rfl, trivial⟩
    refine WP.next ?_; refine WP.condF rfl ?_; refine WP.skip (WP.leave (WP.next ?_))
    refine WP.region [0, 1, 2] rfl ?_; refine WP.mv rfl rfl ?_; refine WP.vl rfl (Yld.add64 rfl rfl rfl (by omega)) ?_; refine WP.mv rfl rfl ?_; refine WP.nil ?_; refine WP.sub [(4, _), (5, _), (6, _), (18, _), (19, _), (20, _), (220, _), (238, _)] ?_ ⟨rfl, rfl, rfl, rfl, rfl, rfl, rfl, rfl, trivial⟩
    exact WP.again ⟨j + 1, tbG, xxG, J8, L475, LlG⟩ ⟨(show j + 1 ≤ 3 by omega), Imm.le_trans hJ7 (Imm.le_trans hJG hJ8), wG, (show tbG.tok ≤ 306 + 99 * (j + 1) by omega), hT8, hlgG.mono hJ8⟩ (show 3 - (j + 1) < 3 - j by omega) ⟨rfl, rfl, rfl, rfl, trivial⟩ rfl zA
   ·refine WP.nil ?_
    refine WP.sub [(4, _), (5, _), (6, _), (18, _), (220, _)] ?_ ⟨rfl, rfl, rfl, rfl, rfl, trivial⟩
    refine WP.next ?_; refine WP.condF rfl ?_; refine WP.exit (WP.thenE (WP.thenE (WP.hit (WP.next (WP.seq ?_)))))
    refine WP.region [0] rfl ?_; refine WP.mv rfl rfl ?_; refine WP.nil (WP.next (WP.ret ?_))
    refine WP.fn .ret (.inr rfl) (res1 rfl rfl) [] (Imm.le_trans hJ_0 (Imm.le_trans hJ03 (Imm.le_trans hJ4 hJ7))) ?_; exact ⟨rfl, rfl⟩


end Go.Hp
