import Derived.Test.YtilgaelpbgfnnaaGreatTxoF
set_option linter.unusedVariables false
set_option linter.unusedSimpArgs false
namespace Go.Hp
open Go Go.Proofs

def wonB (w : Option Nat) (i : Nat) : Nat := match w with
 | some k => if k < i then 1 else 0
 | none => 0
theorem wonB_le (w : Option Nat) (i : Nat) : wonB w i ≤ 1 := by cases w <;> simp only [wonB] <;> (try split) <;> omega
theorem wonB_at {w : Option Nat} {i : Nat} (h : w = some i) : wonB w i = 0 ∧ wonB w (i + 1) = 1 := by subst h; simp [wonB]
theorem wonB_ne {w : Option Nat} {i : Nat} (h : w ≠ some i) : wonB w (i + 1) = wonB w i := by
 cases w with
 | none => rfl
 | some k =>
  have : k ≠ i := fun e => h (by rw [e])
  simp only [wonB]
  by_cases q : k < i
  ·rw [if_pos q, if_pos (by omega)]
  ·rw [if_neg q, if_neg (by omega)]
theorem one_el {J : Imm} {i : Nat} {v : Value} (hv : RNodes J v [(true, [UInt8.ofNat i])]) : ∀ x ∈ [(onP i, v)], RNodes J x.2 x.1.nodes := fun x hx => by
 cases List.mem_singleton.1 hx; exact hv
theorem one_sz {i : Nat} {v : Value} : (∀ x ∈ [(onP i, v)], x.1.nodes.length ≤ 4398046510976) ∧ ∀ x ∈ [(onP i, v)], ∀ y ∈ x.1.nodes, y.2.length ≤ 140737488351232 := by
 refine ⟨fun x hx => ?_, fun x hx y hy => ?_⟩
 ·cases List.mem_singleton.1 hx; show 1 ≤ _; decide
 ·cases List.mem_singleton.1 hx; cases List.mem_singleton.1 hy; show 1 ≤ _; decide
def OSt (gs : List (Nat × Gp)) : Prop := ∀ i (h : i < gs.length), ∃ ps, prs ps = onR i ∧ gs[i].2 = ⟨0, cm0, 1, ps, [], 0, []⟩
theorem OSt.snoc {gs : List (Nat × Gp)} {i g : Nat} {pl : List (Pr × Value)} (h : OSt gs) (hl : gs.length = i) (hp : prs pl = onR i) : OSt (gs ++ [(g, ⟨0, cm0, 1, pl, [], 0, []⟩)]) := fun j hj => by
 by_cases e : j < gs.length
 ·rw [List.getElem_append_left e]; exact h j e
 ·simp only [List.length_append, List.length_cons, List.length_nil] at hj
  obtain rfl : j = gs.length := by omega
  rw [List.getElem_append_right (Nat.le_refl _)]
  simp only [Nat.sub_self, List.getElem_cons_zero]
  exact ⟨pl, by rw [hp, hl], rfl⟩
theorem ptrs_last {l : List Value} {v : Value} {sp : List Value} {i : Nat} (h : l.length = i) : ((l ++ [v]) ++ sp)[0 + i * 1]? = some v := by
 subst h; simp
structure BoX where
 i : Nat
 J : Imm
 gs : List (Nat × Gp)
 v : Value
 Lo : Chunks
 L : Chunks
structure OgX where
 g : Nat
 ps : List (Pr × Value)
 J : Imm
 v : Value
 Lo : Chunks
 L : Chunks
structure CtX where
 i : Nat
 f : Int
 J : Imm
 Ll : Chunks
set_option maxHeartbeats 2000000 in
theorem txo_TxnOne {I : Imm} {mi no : Int} {ps : List Int} {vp : Value} (hps : SlRd (Im I) vp ps.length 1 (ps.map (Value.int .i64))) (hln : ps.length ≤ 140737488351232) : Spec Tryz.prog 4 [.int .i64 mi, vp, .int .i64 no] I [] (fun v J L => v = .bool true ∧ L = []) := by
 obtain ⟨Ap, cp, rfl, _, _, _⟩ := id hps
 refine Spec.of Tryz.func4 rfl Tryz.ntmps4 (Nat.le_of_ble_eq_true rfl) (fun F => ?_)
 try simp only [nf]
 dsimp only [argsEnv]
 refine WP.seq ?_; refine WP.region [0] rfl ?_; refine WP.mv rfl rfl ?_; refine WP.nil (WP.next (WP.seq ?_))
 refine WP.region [0, 1] rfl ?_; refine WP.loud rfl rfl ?_; refine Op.cl txn_awake rfl Tryz.func9 rfl rfl rfl rfl ?_; rintro v Ja L1 hJa ⟨rfl, rfl⟩
 try simp only [nf]
 have hps := hps.mono (fun b o h => hJa.2 b o h)
 refine WP.mv rfl rfl ?_; refine WP.nil ?_; refine WP.sub [(0, _), (1, _), (2, _), (6, _), (7, _)] ?_ ⟨rfl, rfl, rfl, rfl, rfl, trivial⟩
 refine WP.next (WP.seq ?_)
 refine WP.region [0, 1] rfl ?_; refine WP.loud rfl rfl ?_; refine Op.cl (txn_Begun (m := 40) (by decide) (by decide)) rfl Tryz.func10 rfl rfl rfl rfl ?_; rintro v J Lb - ⟨rfl, x, d, s, l, t, q, rt, rm, r9, tb0, Ll, Lt0, rfl, rfl, hl, hT0, hk0, hn0, hs0, hg0⟩
 try simp only [nf]
 refine WP.mv rfl rfl ?_; refine WP.nil ?_; refine WP.sub [(0, _), (1, _), (2, _), (6, _), (7, _), (8, _)] ?_ ⟨rfl, rfl, rfl, rfl, rfl, rfl, trivial⟩
 refine WP.next (WP.seq (WP.seq ?_))
 refine WP.region [0, 1, 2, 3, 4, 5] rfl ?_; refine WP.mv rfl rfl ?_; refine WP.vl rfl (Yld.not rfl rfl) ?_; refine WP.mv rfl rfl ?_; refine WP.valG rfl rfl rfl rfl rfl rfl rfl (Yld.move rfl rfl) ?_; refine WP.valG rfl rfl rfl rfl rfl rfl rfl (Yld.eqlNil rfl ty_pt_24 rfl rfl) ?_; refine WP.vl rfl (Yld.pickF rfl rfl rfl) ?_; refine WP.nil ?_; refine WP.sub [(0, _), (1, _), (2, _), (6, _), (7, _), (8, _), (31, _)] ?_ ⟨rfl, rfl, rfl, rfl, rfl, rfl, rfl, trivial⟩
 refine WP.next ?_; refine WP.condF rfl ?_; refine WP.skip (WP.next (WP.seq (WP.seq ?_)))
 refine WP.region [0, 1, 2, 3, 4, 5] rfl ?_; refine WP.mv rfl rfl ?_; refine WP.split rfl rfl rfl rfl (Yld.lss rfl rfl rfl) (fun h51 => ?_) (fun h51 => ?_)
 ·refine WP.mv rfl rfl ?_
  iterate 2 refine WP.passG rfl rfl rfl rfl rfl rfl rfl rfl ?_
  refine WP.vl rfl (Yld.pickT rfl rfl rfl) ?_; refine WP.nil ?_; refine WP.sub [(0, _), (1, _), (2, _), (6, _), (7, _), (8, _), (31, _), (37, _)] ?_ ⟨rfl, rfl, rfl, rfl, rfl, rfl, rfl, rfl, trivial⟩
  refine WP.next ?_; refine WP.condT rfl ?_; refine WP.seq ?_; refine WP.region [0] rfl ?_; refine WP.mv rfl rfl ?_; refine WP.nil (WP.next (WP.ret ?_))
  refine WP.fn .ret (.inr rfl) (res1 rfl rfl) [] hJa ?_; exact ⟨rfl, rfl⟩
 ·refine WP.mv rfl rfl ?_
  refine WP.valG rfl rfl rfl rfl rfl rfl rfl (Yld.move rfl rfl) ?_; refine WP.splitG rfl rfl rfl rfl rfl rfl rfl (Yld.gtr rfl rfl rfl) (fun h54 => ?_) (fun h54 => ?_)
  ·refine WP.vl rfl (Yld.pickF rfl rfl rfl) ?_
   refine WP.nil ?_; refine WP.sub [(0, _), (1, _), (2, _), (6, _), (7, _), (8, _), (31, _), (37, _)] ?_ ⟨rfl, rfl, rfl, rfl, rfl, rfl, rfl, rfl, trivial⟩
   refine WP.next ?_; refine WP.condT rfl ?_; refine WP.seq ?_; refine WP.region [0] rfl ?_; refine WP.mv rfl rfl ?_; refine WP.nil (WP.next (WP.ret ?_))
   refine WP.fn .ret (.inr rfl) (res1 rfl rfl) [] hJa ?_; exact ⟨rfl, rfl⟩
  ·refine WP.vl rfl (Yld.pickF rfl rfl rfl) ?_
   refine WP.nil ?_; refine WP.sub [(0, _), (1, _), (2, _), (6, _), (7, _), (8, _), (31, _), (37, _)] ?_ ⟨rfl, rfl, rfl, rfl, rfl, rfl, rfl, rfl, trivial⟩
   refine WP.next ?_; refine WP.condF rfl ?_; refine WP.skip (WP.next (WP.seq ?_))
   obtain ⟨n, rfl⟩ : ∃ n : Nat, mi = (n : Int) := ⟨mi.toNat, by omega⟩
   obtain ⟨x0, hx0⟩ : ∃ u, u = (⟨1, ⟨40, 1, 1⟩, 0, 8, [], 0, 0, 8⟩ : Lg) := ⟨_, rfl⟩
   rw [← hx0] at hl
   have hlb0 : LgB x0 := by rw [hx0]; exact ⟨rfl, rfl, ⟨40, 1, by decide, rfl⟩, fun r h => by cases h⟩
   have hup0 : tb0.upto 0 := fun k => by rw [hg0]; constructor; (intro h; cases h); (intro h; omega)
   have hr0 : x0.rs.length = 0 := by rw [hx0]; rfl
   have hlo0 : x0.lo = 0 := by rw [hx0]; rfl
   refine WP.region [0, 1, 2, 3, 4, 5, 6, 7, 8, 9] rfl ?_; refine WP.mv rfl rfl ?_; refine WP.vl rfl (Yld.nilCheck rfl rfl) ?_; refine WP.vl rfl (Yld.fieldAddr rfl ty_fd_38_3 rfl) ?_; refine WP.vl rfl (Yld.ld (v := .pointer (some ⟨t, 0, none⟩)) rfl ty_sc_32 rfl rfl) ?_; refine WP.loud rfl rfl ?_; refine Op.cl (tabT_AllocN hT0 (by omega) (m := 0) (by decide) hup0) rfl Tryz.func11 rfl rfl rfl rfl ?_; rintro v J0 Lt hJ0 ⟨tb, rfl, hu1, hup1, hT⟩
   try simp only [nf]
   refine WP.mv rfl rfl ?_; iterate 2 refine WP.vl rfl (Yld.extract rfl rfl rfl) ?_
   iterate 2 refine WP.mv rfl rfl ?_
   refine WP.nil ?_; refine WP.sub [(0, _), (1, _), (2, _), (6, _), (7, _), (8, _), (9, _), (10, _), (31, _), (37, _)] ?_ ⟨rfl, rfl, rfl, rfl, rfl, rfl, rfl, rfl, rfl, rfl, trivial⟩
   refine WP.next (WP.seq (WP.seq ?_))
   refine WP.region [0, 1, 2, 3, 4, 5] rfl ?_; refine WP.mv rfl rfl ?_; refine WP.vl rfl (Yld.neq rfl rfl rfl false (decide_eq_false (by simp))) ?_; refine WP.mv rfl rfl ?_; refine WP.valG rfl rfl rfl rfl rfl rfl rfl (Yld.move rfl rfl) ?_; refine WP.valG rfl rfl rfl rfl rfl rfl rfl (Yld.neq rfl rfl rfl false (decide_eq_false (by simp))) ?_; refine WP.vl rfl (Yld.pickF rfl rfl rfl) ?_; refine WP.nil ?_; refine WP.sub [(0, _), (1, _), (2, _), (6, _), (7, _), (8, _), (9, _), (10, _), (31, _), (37, _), (51, _)] ?_ ⟨rfl, rfl, rfl, rfl, rfl, rfl, rfl, rfl, rfl, rfl, rfl, trivial⟩
   refine WP.next ?_; refine WP.condF rfl ?_; refine WP.skip (WP.next (WP.seq ?_))
   refine WP.region [0] rfl ?_; refine WP.mv rfl rfl ?_; refine WP.nil (WP.next (WP.seq (WP.seq ?_)))
   refine WP.region [0] rfl ?_; refine WP.mv rfl rfl ?_; refine WP.nil (WP.next (WP.block ?_))
   refine WP.loop (X := BoX) (fun u : BoX => [(0, .int .i64 (n : Int)), (1, .slice Ap ps.length cp), (2, .int .i64 no), (8, .pointer (some ⟨x, 0, none⟩)), (11, u.v), (12, .int .i64 (u.i : Int))]) (fun u => u.J) (fun u : BoX => (x, row 38 [.pointer (some ⟨d, 0, none⟩), .pointer (some ⟨s, 0, none⟩), .pointer (some ⟨l, 0, none⟩), .pointer (some ⟨t, 0, none⟩), .pointer (some ⟨q, 0, none⟩), .pointer (some ⟨rt, 0, none⟩), .pointer (some ⟨rm, 0, none⟩), .pointer (some ⟨r9, 0, none⟩)]) :: (u.Lo ++ (u.L ++ (Lt ++ (Ll ++ F))))) (fun u : BoX => J0.le u.J ∧ IsGrs u.J l t u.gs u.L ∧ u.gs.length = u.i ∧ u.i ≤ n ∧ OSt u.gs ∧ Own 46 1 u.v (ptrsV u.gs) u.i u.Lo) (fun u => n - u.i) ⟨0, J0, [], .slice none 0 0, [], []⟩ ⟨Imm.le_refl _, .nil, rfl, Nat.zero_le _, fun i h => absurd h (Nat.not_lt_zero _), .none0⟩ ⟨rfl, rfl, rfl, rfl, rfl, rfl, trivial⟩ rfl zA ?_; rintro ⟨i, J, gs, vo, Lo, L1⟩ ⟨hJ, hgs, hlen, hle, hst, ho⟩; dsimp only at hJ hgs hlen hle hst ho; obtain ⟨Ao, co, rfl, _⟩ := ho.slice
   try dsimp only
   try simp only [nf]
   refine WP.seq (WP.seq ?_)
   refine WP.region [0, 1, 2] rfl ?_; iterate 2 refine WP.mv rfl rfl ?_
   refine WP.split rfl rfl rfl rfl (Yld.lss rfl rfl rfl) (fun hlt => ?_) (fun hlt => ?_)
   ·refine WP.nil ?_
    refine WP.sub [(0, _), (1, _), (2, _), (8, _), (11, _), (12, _), (54, _)] ?_ ⟨rfl, rfl, rfl, rfl, rfl, rfl, rfl, trivial⟩
    refine WP.next ?_; refine WP.condT rfl ?_; refine WP.skip (WP.next (WP.seq (WP.block ?_)))
    refine WP.cut (X := OgX) (fun u : OgX => [(0, .int .i64 (n : Int)), (1, .slice Ap ps.length cp), (2, .int .i64 no), (8, .pointer (some ⟨x, 0, none⟩)), (11, u.v), (12, .int .i64 (i : Int))]) (fun u => u.J) (fun u : OgX => (x, row 38 [.pointer (some ⟨d, 0, none⟩), .pointer (some ⟨s, 0, none⟩), .pointer (some ⟨l, 0, none⟩), .pointer (some ⟨t, 0, none⟩), .pointer (some ⟨q, 0, none⟩), .pointer (some ⟨rt, 0, none⟩), .pointer (some ⟨rm, 0, none⟩), .pointer (some ⟨r9, 0, none⟩)]) :: (u.Lo ++ (L1 ++ (u.L ++ (Lt ++ (Ll ++ F)))))) (fun u : OgX => J.le u.J ∧ prs u.ps = onR i ∧ IsGr u.J u.g l t ⟨0, cm0, 1, u.ps, [], 0, []⟩ u.L ∧ Own 46 1 u.v (ptrsV gs ++ [.pointer (some ⟨u.g, 0, none⟩)]) (i + 1) u.Lo) ?_ ?_
    ·skip
     refine WD.start Tryzmixed 17 (fun c o => c = x ∧ o = row 38 [.pointer (some ⟨d, 0, none⟩), .pointer (some ⟨s, 0, none⟩), .pointer (some ⟨l, 0, none⟩), .pointer (some ⟨t, 0, none⟩), .pointer (some ⟨q, 0, none⟩), .pointer (some ⟨rt, 0, none⟩), .pointer (some ⟨rm, 0, none⟩), .pointer (some ⟨r9, 0, none⟩)]) (fun _ _ => False) (by rintro _ _ ⟨rfl, rfl⟩; exact zM) (fun _ _ h => h.elim) 19 [false, false, false, false, false, false, false, false, false, false, false, false, false, false, false, false, false, false, false] rfl rfl ?_; refine WD.vl (i := 0) rfl (Yld.move rfl rfl) ?_; refine WD.vl (i := 1) rfl (Yld.move rfl rfl) ?_; refine WD.vl (i := 2) rfl (Yld.nilCheck rfl rfl) ?_; refine WD.vl (i := 3) rfl (Yld.fieldAddr rfl ty_fd_38_2 rfl) ?_; refine WD.val1 (i := 4) rfl rfl rfl rfl zK rfl zK (Yld.load (v := .pointer (some ⟨l, 0, none⟩)) rfl ty_sc_31 rfl (.inl ⟨rfl, rfl⟩) rfl) ?_; refine WD.vl (i := 5) rfl (Yld.move rfl rfl) ?_; refine WD.vl (i := 6) rfl (Yld.nilCheck rfl rfl) ?_; refine WD.vl (i := 7) rfl (Yld.fieldAddr rfl ty_fd_38_3 rfl) ?_; refine WD.val1 (i := 8) rfl rfl rfl rfl zK rfl zK (Yld.load (v := .pointer (some ⟨t, 0, none⟩)) rfl ty_sc_32 rfl (.inl ⟨rfl, rfl⟩) rfl) ?_; refine WD.vl (i := 9) rfl (Yld.move rfl rfl) ?_; refine WD.vl (i := 10) rfl (Yld.convN8 i rfl ty_un_3 ty_ik_5 rfl) ?_; refine WD.loud (i := 11) zK rfl rfl rfl ?_; refine Op.buildSlice rfl ty_sl_49 ty_el2_49 rfl rfl rfl rfl (vs := [_]) rfl (segs := [(0, [_])]) (cs := bytesV [UInt8.ofNat (i)]) rfl rfl zS (fun ba => ?_)
     refine WD.gR ?_; refine WD.loud (i := 12) zK rfl rfl rfl ?_; refine Op.cl (txn_PageO (b := ba) (d := [UInt8.ofNat i])) rfl Tryz.func14 rfl rfl rfl rfl ?_; rintro v J12 L12 hJ12 ⟨rfl, hr12⟩
     try simp only [nf]
     obtain ⟨A12, c12, rfl⟩ := hr12.sl
     refine WD.gR ?_; refine WD.vl (i := 13) rfl (Yld.buildS (pl := [(0, 0, 1), (2, 2, 1)]) rfl ty_zr_51 ty_zd_51 zK rfl (vs := [_, _]) rfl (segs := [(0, [_]), (2, [_])]) rfl rfl zS) ?_; refine WD.loud (i := 14) zK rfl rfl rfl ?_; refine Op.buildSlice rfl ty_sl_52 ty_el2_52 rfl rfl rfl rfl (vs := [_]) rfl (segs := [(0, [.int .i64 1, .int .i64 0, .slice A12 1 c12])]) (cs := prC [(onP i, .slice A12 1 c12)]) rfl rfl (.seg (Nat.le_refl _) rfl .nil) (fun bp => ?_)
     refine WD.gR ?_; refine WD.loud (i := 15) zK rfl rfl rfl ?_; refine Op.cl (txn_NewO (b := bp) (tok := 1) (pages := [(onP i, .slice A12 1 c12)]) (one_el hr12) (by show 1 ≤ _; decide) one_sz) rfl Tryz.func13 rfl rfl rfl rfl ?_; rintro v J15 Lg0 hJ15 ⟨g, pl, Lg, rfl, hpl, rfl, hgr⟩
     try simp only [nf]
     refine WD.gR ?_; refine WD.loud (i := 16) zK rfl rfl rfl ?_; refine Op.buildSlice rfl ty_sl_26 ty_el2_26 rfl rfl rfl rfl (vs := [_]) rfl (segs := [(0, [_])]) (cs := [.pointer (some ⟨g, 0, none⟩)]) rfl rfl zS (fun bq => ?_)
     refine WD.gR ?_; refine WD.loud (i := 17) zK rfl rfl rfl ?_; refine Op.append (m := 1) rfl ty_sl_26 ty_el_26 rfl rfl rfl rfl rfl ho (SlRd.lit (m := 1) zM rfl (Nat.le_refl _)) zT rfl (by omega) (by omega) (fun vq Lq hq => ?_)
     try simp only [nf]
     refine WD.go (.inl rfl) (fun _ _ h => h.elim) ?_; refine WD.vl (i := 18) rfl (Yld.assign rfl rfl) ?_; refine WD.done zK ?_; refine WP.sub [(0, _), (1, _), (2, _), (8, _), (11, _), (12, _), (54, _)] ?_ ⟨rfl, rfl, rfl, rfl, rfl, rfl, rfl, trivial⟩
     exact WP.meet (⟨g, pl, J15, vq, Lq, _⟩ : OgX) ⟨Imm.le_trans hJ12 hJ15, hpl, hgr, hq⟩ ⟨rfl, rfl, rfl, rfl, rfl, rfl, trivial⟩ rfl zA
    ·rintro ⟨g, pl, J4, vq, Lq, Lg⟩ ⟨hJ4, hpl, hgr, hown⟩; dsimp only at hJ4 hpl hgr hown; obtain ⟨bq, cq, sp, rfl, rfl, _, _⟩ := hown.get (Nat.succ_pos i); have hcg := ptrs_last (v := .pointer (some ⟨g, 0, none⟩)) (sp := sp) ((ptrsV_len gs).trans hlen); rw [show ptrsV gs ++ [.pointer (some ⟨g, 0, none⟩)] = ptrsV (gs ++ [(g, (⟨0, cm0, 1, pl, [], 0, []⟩ : Gp))]) by simp [ptrsV]] at hown hcg ⊢
     refine WP.seq ?_; refine WP.region [0, 1, 2, 3, 4] rfl ?_; iterate 2 refine WP.mv rfl rfl ?_
     refine WP.vl rfl (Yld.indexAddr (i := i) rfl ty_sl_26 rfl rfl (Nat.lt_succ_self i)) ?_; refine WP.vl rfl (Yld.ld rfl ty_sc_46 rfl hcg) ?_; refine WP.vl rfl (Yld.eqlNil rfl ty_pt_46 rfl rfl) ?_; refine WP.nil ?_; refine WP.sub [(0, _), (1, _), (2, _), (8, _), (11, _), (12, _), (79, _)] ?_ ⟨rfl, rfl, rfl, rfl, rfl, rfl, rfl, trivial⟩
     refine WP.next ?_; refine WP.condF rfl ?_; refine WP.skip (WP.leave (WP.next ?_))
     refine WP.region [0, 1, 2] rfl ?_; refine WP.mv rfl rfl ?_; refine WP.vl rfl (Yld.add64 rfl rfl rfl (by omega)) ?_; refine WP.mv rfl rfl ?_; refine WP.nil ?_; refine WP.sub [(0, _), (1, _), (2, _), (8, _), (11, _), (12, _), (79, _)] ?_ ⟨rfl, rfl, rfl, rfl, rfl, rfl, rfl, trivial⟩
     exact WP.again (⟨i + 1, J4, gs ++ [(g, ⟨0, cm0, 1, pl, [], 0, []⟩)], _, _, L1 ++ Lg⟩ : BoX) ⟨Imm.le_trans hJ hJ4, (hgs.mono hJ4).snoc hgr, by show (gs ++ [_]).length = i + 1; rw [List.length_append, hlen]; rfl, (show i + 1 ≤ n by omega), hst.snoc hlen hpl, hown⟩ (show n - (i + 1) < n - i by omega) ⟨rfl, rfl, rfl, rfl, rfl, rfl, trivial⟩ rfl zA
   ·obtain rfl : n = i := by omega
    refine WP.shO ho (fun J1 hJ1 hls => ?_)
    have hinv := OInv.start hlb0 hlo0 hr0 hk0 hu1 hlen (by omega) hst
    have hlenf := hlen
    have hJ01 := Imm.le_trans hJ hJ1
    refine WP.nil ?_; refine WP.sub [(0, _), (1, _), (2, _), (8, _), (11, _), (12, _), (54, _)] ?_ ⟨rfl, rfl, rfl, rfl, rfl, rfl, rfl, trivial⟩
    refine WP.next ?_; refine WP.condF rfl ?_; refine WP.exit (WP.thenE (WP.thenE (WP.hit (WP.next (WP.seq (WP.seq ?_))))))
    refine WP.region [0] rfl ?_; refine WP.mv rfl rfl ?_; refine WP.nil (WP.next (WP.block ?_))
    refine WP.loop (X := PkX) (fun u : PkX => [(0, .int .i64 (n : Int)), (1, .slice Ap ps.length cp), (2, .int .i64 no), (8, .pointer (some ⟨x, 0, none⟩)), (11, .slice Ao n co), (13, .int .i64 (u.i : Int))]) (fun u => u.J) (fun u : PkX => (x, row 38 [.pointer (some ⟨d, 0, none⟩), .pointer (some ⟨s, 0, none⟩), .pointer (some ⟨l, 0, none⟩), .pointer (some ⟨t, 0, none⟩), .pointer (some ⟨q, 0, none⟩), .pointer (some ⟨rt, 0, none⟩), .pointer (some ⟨rm, 0, none⟩), .pointer (some ⟨r9, 0, none⟩)]) :: (u.L ++ (u.Lt ++ (u.Ll ++ F)))) (fun u : PkX => J1.le u.J ∧ IsGrs u.J l t u.gs u.L ∧ IsT u.J t u.tb u.Lt ∧ IsLog u.J l s d (8 + 32 * 40) u.x (Dk.new (8 + 32 * 40)) u.Ll ∧ (∃ w, OInv n 0 (1 + u.i) u.x u.tb u.gs w) ∧ u.gs.map (·.1) = gs.map (·.1) ∧ u.i ≤ ps.length) (fun u => ps.length - u.i) ⟨0, J1, x0, tb, gs, L1, Lt, Ll⟩ ⟨Imm.le_refl _, hgs.mono hJ1, hT.mono hJ01, hl.mono (Imm.le_trans hJ0 hJ01), ⟨_, hinv⟩, rfl, Nat.zero_le _⟩ ⟨rfl, rfl, rfl, rfl, rfl, rfl, trivial⟩ rfl zA ?_
    rintro ⟨j, J2, x2, tb2, gs2, L2, Lt2, Ll2⟩ ⟨hJ2, hgs2, hT2, hl2, ⟨w2, hinv2⟩, hmp, hle2⟩; dsimp only at hJ2 hgs2 hT2 hl2 hinv2 hmp hle2; have hlen2 := hinv2.len
    try dsimp only
    try simp only [nf]
    refine WP.seq (WP.seq ?_)
    refine WP.region [0, 1, 2, 3] rfl ?_; iterate 2 refine WP.mv rfl rfl ?_
    refine WP.vl rfl (Yld.len rfl ty_sl_22 rfl) ?_; refine WP.split rfl rfl rfl rfl (Yld.lss rfl rfl rfl) (fun hlt2 => ?_) (fun hlt2 => ?_)
    ·have hj : j < ps.length := by omega
     have hps2 := hps.mono (fun b o h => hJ0.2 b o h)
     have hps3 := hps2.mono (fun b o h => (Imm.le_trans hJ01 hJ2).2 b o h)
     obtain ⟨bp, kp, Tp, fp, arp, ep, hbp, hcp⟩ := ints_at hps3 hj
     obtain ⟨hk1, hk2⟩ := mod_nat (a := ps[j]) (m := n) (by omega)
     refine WP.nil ?_; refine WP.sub [(0, _), (1, _), (2, _), (8, _), (11, _), (13, _), (83, _)] ?_ ⟨rfl, rfl, rfl, rfl, rfl, rfl, rfl, trivial⟩
     refine WP.next ?_; refine WP.condT rfl ?_; refine WP.skip (WP.next (WP.seq (WP.block (WP.seq ?_))))
     refine WP.region [0, 1, 2, 3, 4, 5, 6] rfl ?_; iterate 2 refine WP.mv rfl rfl ?_
     refine WP.vl rfl (Yld.indexAddr (i := j) rfl ty_sl_22 (congrArg (fun a => some (Value.slice a ps.length cp)) ep) rfl hj) ?_; refine WP.vl rfl (Yld.loadC rfl ty_sc_3 rfl (There.i hbp) hcp) ?_; refine WP.mv rfl rfl ?_; refine WP.vl rfl (Yld.remT rfl rfl rfl ⟨by omega, by omega⟩) ?_; refine WP.mv rfl rfl ?_; refine WP.nil ?_; refine WP.sub [(0, _), (1, _), (2, _), (8, _), (11, _), (13, _), (14, _), (83, _)] ?_ ⟨rfl, rfl, rfl, rfl, rfl, rfl, rfl, rfl, trivial⟩
     refine WP.next ?_; refine WP.cut (X := Nat) (fun k : Nat => [(0, .int .i64 (n : Int)), (1, .slice Ap ps.length cp), (2, .int .i64 no), (8, .pointer (some ⟨x, 0, none⟩)), (11, .slice Ao n co), (13, .int .i64 (j : Int)), (14, .int .i64 (k : Int))]) (fun _ => J2) (fun _ : Nat => (x, row 38 [.pointer (some ⟨d, 0, none⟩), .pointer (some ⟨s, 0, none⟩), .pointer (some ⟨l, 0, none⟩), .pointer (some ⟨t, 0, none⟩), .pointer (some ⟨q, 0, none⟩), .pointer (some ⟨rt, 0, none⟩), .pointer (some ⟨rm, 0, none⟩), .pointer (some ⟨r9, 0, none⟩)]) :: (L2 ++ (Lt2 ++ (Ll2 ++ F)))) (fun k : Nat => k < n) ?_ ?_
     ·skip
      refine WP.seq ?_; refine WP.region [0, 1] rfl ?_; refine WP.mv rfl rfl ?_; refine WP.split rfl rfl rfl rfl (Yld.lss rfl rfl rfl) (fun hneg => ?_) (fun hneg => ?_)
      ·obtain ⟨k, hkv, hk⟩ := hk2 hneg
       refine WP.nil ?_; refine WP.sub [(0, _), (1, _), (2, _), (8, _), (11, _), (13, _), (14, _), (83, _), (93, _)] ?_ ⟨rfl, rfl, rfl, rfl, rfl, rfl, rfl, rfl, rfl, trivial⟩
       refine WP.next ?_; refine WP.condT rfl ?_; refine WP.region [0, 1, 2, 3] rfl ?_; iterate 2 refine WP.mv rfl rfl ?_
       refine WP.vl rfl (Yld.add64 rfl rfl rfl (by omega)) ?_; rw [hkv]
       refine WP.mv rfl rfl ?_; refine WP.nil ?_; refine WP.sub [(0, _), (1, _), (2, _), (8, _), (11, _), (13, _), (14, _), (83, _), (93, _)] ?_ ⟨rfl, rfl, rfl, rfl, rfl, rfl, rfl, rfl, rfl, trivial⟩
       exact WP.meet k hk ⟨rfl, rfl, rfl, rfl, rfl, rfl, rfl, trivial⟩ rfl zA
      ·obtain ⟨k, hkv, hk⟩ := hk1 hneg
       rw [hkv]
       refine WP.nil ?_; refine WP.sub [(0, _), (1, _), (2, _), (8, _), (11, _), (13, _), (14, _), (83, _), (93, _)] ?_ ⟨rfl, rfl, rfl, rfl, rfl, rfl, rfl, rfl, rfl, trivial⟩
       refine WP.next ?_; refine WP.condF rfl ?_; refine WP.skip ?_; exact WP.meet k hk ⟨rfl, rfl, rfl, rfl, rfl, rfl, rfl, trivial⟩ rfl zA
     ·intro k hk; have hkg : k < gs2.length := (by omega)
      obtain ⟨bl, kl, Tl, fl, arl, el, hbl, hcl⟩ := one_at (show SlRd (Im J2) (.slice Ao n co) (ptrsV gs2).length 1 (ptrsV gs2) by rw [ptrsV_of hmp, ptrsV_len, hlenf]; exact hls.mono (fun b o h => hJ2.2 b o h)) (show k < (ptrsV gs2).length by rw [ptrsV_len]; exact hkg)
      rw [show (ptrsV gs2)[k]'(by rw [ptrsV_len]; exact hkg) = .pointer (some ⟨(gs2[k]).1, 0, none⟩) by simp [ptrsV]] at hcl
      refine WP.region [0, 1, 2, 3, 4, 5, 6, 7] rfl ?_; iterate 2 refine WP.mv rfl rfl ?_
      refine WP.vl rfl (Yld.indexAddr (i := k) rfl ty_sl_26 (congrArg (fun a => some (Value.slice a n co)) el) rfl (by omega)) ?_; refine WP.vl rfl (Yld.loadC rfl ty_sc_46 rfl (There.i hbl) hcl) ?_; refine WP.vl rfl (Yld.nilCheck rfl rfl) ?_; refine WP.vl rfl (Yld.fieldAddr rfl ty_fd_60_0 rfl) ?_; refine WP.vl rfl (Yld.fieldAddr rfl ty_fd_58_0 rfl) ?_; refine WP.loud rfl rfl ?_; refine Op.cl (txo_StepK hgs2 hT2 hl2 hinv2 hkg (by omega)) rfl Tryz.func15 rfl rfl rfl rfl ?_; rintro v J3 L9 hJ3 ⟨bb, rfl, gs3, x3, tb3, w3, L3, Lt3, Ll3, rfl, hgs3, hT3, hl3, hinv3, hmp3, _⟩
      try simp only [nf]
      try simp only [nf]
      refine WP.nil ?_; refine WP.sub [(0, _), (1, _), (2, _), (8, _), (11, _), (13, _), (14, _)] ?_ ⟨rfl, rfl, rfl, rfl, rfl, rfl, rfl, trivial⟩
      refine WP.leave (WP.next ?_)
      refine WP.region [0, 1, 2] rfl ?_; refine WP.mv rfl rfl ?_; refine WP.vl rfl (Yld.add64 rfl rfl rfl (by omega)) ?_; refine WP.mv rfl rfl ?_; refine WP.nil ?_; refine WP.sub [(0, _), (1, _), (2, _), (8, _), (11, _), (13, _), (14, _)] ?_ ⟨rfl, rfl, rfl, rfl, rfl, rfl, rfl, trivial⟩
      exact WP.again (⟨j + 1, J3, x3, tb3, gs3, L3, Lt3, Ll3⟩ : PkX) ⟨Imm.le_trans hJ2 hJ3, hgs3, hT3, hl3, ⟨w3, hinv3⟩, hmp3.trans hmp, (show j + 1 ≤ ps.length by omega)⟩ (show ps.length - (j + 1) < ps.length - j by omega) ⟨rfl, rfl, rfl, rfl, rfl, rfl, trivial⟩ rfl zA
    ·obtain rfl : ps.length = j := by omega
     refine WP.nil ?_; refine WP.sub [(0, _), (1, _), (2, _), (8, _), (11, _), (13, _), (83, _)] ?_ ⟨rfl, rfl, rfl, rfl, rfl, rfl, rfl, trivial⟩
     refine WP.next ?_; refine WP.condF rfl ?_; refine WP.exit (WP.thenE (WP.thenE (WP.hit (WP.next (WP.seq ?_)))))
     refine WP.region [0, 1, 2, 3, 4, 5, 6] rfl ?_; refine WP.mv rfl rfl ?_; refine WP.vl rfl (Yld.nilCheck rfl rfl) ?_; refine WP.vl rfl (Yld.fieldAddr rfl ty_fd_38_2 rfl) ?_; refine WP.vl rfl (Yld.ld (v := .pointer (some ⟨l, 0, none⟩)) rfl ty_sc_31 rfl rfl) ?_; refine WP.loud rfl rfl ?_; refine Op.cl (log_Head hl2) rfl Tryz.func18 rfl rfl rfl rfl ?_; rintro v J L24 - ⟨rfl, rfl, rfl⟩
     try simp only [nf]
     refine WP.vl rfl (Yld.field (v := .int .i64 (x2.no : Int)) rfl ty_fl_56_0 ty_sc_3 rfl rfl) ?_; refine WP.mv rfl rfl ?_; refine WP.nil ?_; refine WP.sub [(0, _), (1, _), (2, _), (8, _), (11, _), (13, _), (15, _), (83, _)] ?_ ⟨rfl, rfl, rfl, rfl, rfl, rfl, rfl, rfl, trivial⟩
     refine WP.next (WP.seq ?_)
     refine WQ.start Tryzmixed 9 zK _ rfl [9, 10] rfl ?_; refine WQ.val rfl rfl rfl (Yld.move rfl rfl) ?_; refine WQ.val rfl rfl rfl (Yld.nilCheck rfl rfl) ?_; refine WQ.val rfl rfl rfl (Yld.fieldAddr rfl ty_fd_38_2 rfl) ?_; refine WQ.val rfl rfl rfl (Yld.ld (v := .pointer (some ⟨l, 0, none⟩)) rfl ty_sc_31 rfl rfl) ?_; refine WQ.val rfl rfl rfl (Yld.move rfl rfl) ?_; refine WQ.val rfl rfl rfl (Yld.nilCheck rfl rfl) ?_; refine WQ.val rfl rfl rfl (Yld.fieldAddr rfl ty_fd_38_3 rfl) ?_; refine WQ.val rfl rfl rfl (Yld.ld (v := .pointer (some ⟨t, 0, none⟩)) rfl ty_sc_32 rfl rfl) ?_; refine WQ.val rfl rfl rfl (Yld.move rfl rfl) ?_; refine WQ.nil ?_; refine WP.loud rfl rfl ?_; refine Op.cl txn_NewSettle rfl Tryz.func19 rfl rfl rfl rfl ?_; rintro v J L1 - ⟨rfl, hh, rfl, rfl⟩
     try simp only [nf]
     refine WP.mv rfl rfl ?_; refine WP.nil ?_; refine WP.sub [(0, _), (1, _), (2, _), (8, _), (11, _), (13, _), (15, _), (16, _), (83, _)] ?_ ⟨rfl, rfl, rfl, rfl, rfl, rfl, rfl, rfl, rfl, trivial⟩
     refine WP.next (WP.seq (WP.seq ?_))
     refine WP.region [0, 1] rfl ?_; refine WP.mv rfl rfl ?_; refine WP.vl rfl (Yld.eqlNil rfl ty_pt_66 rfl rfl) ?_; refine WP.nil ?_; refine WP.sub [(0, _), (1, _), (2, _), (8, _), (11, _), (13, _), (15, _), (16, _), (83, _), (122, _)] ?_ ⟨rfl, rfl, rfl, rfl, rfl, rfl, rfl, rfl, rfl, rfl, trivial⟩
     refine WP.next ?_; refine WP.condF rfl ?_; refine WP.skip (WP.next (WP.seq ?_))
     refine WP.region [0, 1] rfl ?_; refine WP.mv rfl rfl ?_; refine WP.loud rfl rfl ?_; refine Op.cl (txo_settle (h := hh) (no := no) hT2 hl2 hinv2 (by omega)) rfl Tryz.func20 rfl rfl rfl rfl ?_; rintro v J5 L28 hJ5 ⟨rfl, zs, x5, tb5, Lgs, Lt5, Ll5, rfl, hgh, hT5, hl5, hze, hinv5⟩
     try simp only [nf]
     try simp only [nf]
     have hgs5 := hgs2.mono hJ5
     refine WP.nil ?_; refine WP.sub [(0, _), (1, _), (2, _), (8, _), (11, _), (13, _), (15, _), (16, _), (83, _), (122, _)] ?_ ⟨rfl, rfl, rfl, rfl, rfl, rfl, rfl, rfl, rfl, rfl, trivial⟩
     refine WP.next (WP.seq (WP.seq ?_))
     refine WP.region [0] rfl ?_; refine WP.mv rfl rfl ?_; refine WP.nil (WP.next (WP.block ?_))
     refine WP.loop (X := PkX) (fun u : PkX => [(0, .int .i64 (n : Int)), (2, .int .i64 no), (8, .pointer (some ⟨x, 0, none⟩)), (11, .slice Ao n co), (15, .int .i64 (x2.no : Int)), (16, .pointer (some ⟨hh, 0, none⟩)), (17, .int .i64 (u.i : Int))]) (fun u => u.J) (fun u : PkX => (x, row 38 [.pointer (some ⟨d, 0, none⟩), .pointer (some ⟨s, 0, none⟩), .pointer (some ⟨l, 0, none⟩), .pointer (some ⟨t, 0, none⟩), .pointer (some ⟨q, 0, none⟩), .pointer (some ⟨rt, 0, none⟩), .pointer (some ⟨rm, 0, none⟩), .pointer (some ⟨r9, 0, none⟩)]) :: (u.L ++ (u.Lt ++ (u.Ll ++ (Lgs ++ F))))) (fun u : PkX => J5.le u.J ∧ IsGrs u.J l t u.gs u.L ∧ IsT u.J t u.tb u.Lt ∧ IsLog u.J l s d (8 + 32 * 40) u.x (Dk.new (8 + 32 * 40)) u.Ll ∧ (∃ w, OInv n 1 (1 + ps.length + 14 + 20 * u.i) u.x u.tb u.gs w) ∧ u.gs.map (·.1) = gs.map (·.1) ∧ u.i ≤ n ∧ ∀ (k : Nat) (h : k < u.gs.length), k < u.i → u.gs[k].2.at_ = 9) (fun u => n - u.i) ⟨0, J5, x5, tb5, gs2, L2, Lt5, Ll5⟩ ⟨Imm.le_refl _, hgs5, hT5, hl5, ⟨_, hinv5⟩, hmp, Nat.zero_le _, fun k h hk => absurd hk (Nat.not_lt_zero _)⟩ ⟨rfl, rfl, rfl, rfl, rfl, rfl, rfl, trivial⟩ rfl zA ?_
     rintro ⟨k, J4, x4, tb4, gs4, L4, Lt4, Ll4⟩ ⟨hJ4, hgs4, hT4, hl4, ⟨w4, hinv4⟩, hmp4, hle4, h9⟩; dsimp only at hJ4 hgs4 hT4 hl4 hinv4 hmp4 hle4 h9; have hlen4 := hinv4.len; have hJ14 := Imm.le_trans hJ2 (Imm.le_trans hJ5 hJ4)
     try dsimp only
     try simp only [nf]
     refine WP.seq (WP.seq ?_)
     refine WP.region [0, 1, 2] rfl ?_; iterate 2 refine WP.mv rfl rfl ?_
     refine WP.split rfl rfl rfl rfl (Yld.lss rfl rfl rfl) (fun hlt4 => ?_) (fun hlt4 => ?_)
     ·have hkg : k < gs4.length := by omega
      obtain ⟨bl, kl, Tl, fl, arl, el, hbl, hcl⟩ := one_at (show SlRd (Im J4) (.slice Ao n co) (ptrsV gs4).length 1 (ptrsV gs4) by rw [ptrsV_of hmp4, ptrsV_len, hlenf]; exact hls.mono (fun b o h => hJ14.2 b o h)) (show k < (ptrsV gs4).length by rw [ptrsV_len]; exact hkg)
      rw [show (ptrsV gs4)[k]'(by rw [ptrsV_len]; exact hkg) = .pointer (some ⟨(gs4[k]).1, 0, none⟩) by simp [ptrsV]] at hcl
      refine WP.nil ?_; refine WP.sub [(0, _), (2, _), (8, _), (11, _), (15, _), (16, _), (17, _), (127, _)] ?_ ⟨rfl, rfl, rfl, rfl, rfl, rfl, rfl, rfl, trivial⟩
      refine WP.next ?_; refine WP.condT rfl ?_; refine WP.skip (WP.next (WP.seq (WP.block ?_)))
      refine WP.region [0, 1, 2, 3, 4] rfl ?_; iterate 2 refine WP.mv rfl rfl ?_
      refine WP.vl rfl (Yld.indexAddr (i := k) rfl ty_sl_26 (congrArg (fun a => some (Value.slice a n co)) el) rfl (by omega)) ?_; refine WP.vl rfl (Yld.loadC rfl ty_sc_46 rfl (There.i hbl) hcl) ?_; refine WP.loud rfl rfl ?_; refine Op.cl (txo_runK hgs4 hT4 hl4 hinv4 hkg (by omega) h9) rfl Tryz.func16 rfl rfl rfl rfl ?_; rintro v J3 L9 hJ3 ⟨rfl, gs3, x3, tb3, w3, L3, Lt3, Ll3, rfl, hgs3, hT3, hl3, hinv3, hmp3, hq9⟩
      try simp only [nf]
      try simp only [nf]
      refine WP.nil ?_; refine WP.sub [(0, _), (2, _), (8, _), (11, _), (15, _), (16, _), (17, _), (127, _)] ?_ ⟨rfl, rfl, rfl, rfl, rfl, rfl, rfl, rfl, trivial⟩
      refine WP.leave (WP.next ?_)
      refine WP.region [0, 1, 2] rfl ?_; refine WP.mv rfl rfl ?_; refine WP.vl rfl (Yld.add64 rfl rfl rfl (by omega)) ?_; refine WP.mv rfl rfl ?_; refine WP.nil ?_; refine WP.sub [(0, _), (2, _), (8, _), (11, _), (15, _), (16, _), (17, _), (127, _)] ?_ ⟨rfl, rfl, rfl, rfl, rfl, rfl, rfl, rfl, trivial⟩
      exact WP.again (⟨k + 1, J3, x3, tb3, gs3, L3, Lt3, Ll3⟩ : PkX) ⟨Imm.le_trans hJ4 hJ3, hgs3, hT3, hl3, ⟨w3, hinv3.up (show 1 + ps.length + 14 + 20 * k + 20 ≤ 1 + ps.length + 14 + 20 * (k + 1) by omega)⟩, hmp3.trans hmp4, (show k + 1 ≤ n by omega), hq9⟩ (show n - (k + 1) < n - k by omega) ⟨rfl, rfl, rfl, rfl, rfl, rfl, rfl, trivial⟩ rfl zA
     ·obtain rfl : n = k := by omega
      have h9a : ∀ (j : Nat) (h : j < gs4.length), gs4[j].2.at_ = 9 := fun j h => h9 j h (by omega)
      obtain ⟨hcn, hcs⟩ := hinv4.counts h9a
      have hx58 := hinv4.x58
      refine WP.nil ?_; refine WP.sub [(0, _), (2, _), (8, _), (11, _), (15, _), (16, _), (17, _), (127, _)] ?_ ⟨rfl, rfl, rfl, rfl, rfl, rfl, rfl, rfl, trivial⟩
      refine WP.next ?_; refine WP.condF rfl ?_; refine WP.exit (WP.thenE (WP.thenE (WP.hit (WP.next (WP.seq ?_)))))
      refine WP.region [0] rfl ?_; refine WP.mv rfl rfl ?_; refine WP.nil (WP.next (WP.seq (WP.seq ?_)))
      refine WP.region [0] rfl ?_; refine WP.mv rfl rfl ?_; refine WP.nil (WP.next (WP.block ?_))
      refine WP.loop (X := CtX) (fun u : CtX => [(0, .int .i64 (n : Int)), (2, .int .i64 no), (8, .pointer (some ⟨x, 0, none⟩)), (11, .slice Ao n co), (15, .int .i64 u.f), (16, .pointer (some ⟨hh, 0, none⟩)), (18, .int .i64 ((wonB w4 u.i) : Int)), (19, .int .i64 (u.i : Int))]) (fun u => u.J) (fun u : CtX => (x, row 38 [.pointer (some ⟨d, 0, none⟩), .pointer (some ⟨s, 0, none⟩), .pointer (some ⟨l, 0, none⟩), .pointer (some ⟨t, 0, none⟩), .pointer (some ⟨q, 0, none⟩), .pointer (some ⟨rt, 0, none⟩), .pointer (some ⟨rm, 0, none⟩), .pointer (some ⟨r9, 0, none⟩)]) :: (L4 ++ (Lt4 ++ (u.Ll ++ (Lgs ++ F))))) (fun u : CtX => J4.le u.J ∧ IsLog u.J l s d (8 + 32 * 40) x4 (Dk.new (8 + 32 * 40)) u.Ll ∧ u.i ≤ n ∧ 0 ≤ u.f) (fun u => n - u.i) ⟨0, (x2.no : Int), J4, Ll4⟩ ⟨Imm.le_refl _, hl4, Nat.zero_le _, (show (0 : Int) ≤ (x2.no : Int) by omega)⟩ ⟨rfl, rfl, rfl, rfl, rfl, rfl, (by cases w4 <;> rfl), rfl, trivial⟩ rfl zA ?_; rintro ⟨j, f, Jc, Lc⟩ ⟨hJc, hlc, hlec, hf⟩; dsimp only at hJc hlc hlec hf; have hgsc := hgs4.mono hJc; have hJ1c := Imm.le_trans hJ14 hJc; have hwle := wonB_le w4 j
      try dsimp only
      try simp only [nf]
      refine WP.seq (WP.seq ?_)
      refine WP.region [0, 1, 2] rfl ?_; iterate 2 refine WP.mv rfl rfl ?_
      refine WP.split rfl rfl rfl rfl (Yld.lss rfl rfl rfl) (fun hlt5 => ?_) (fun hlt5 => ?_)
      ·have hjg : j < gs4.length := by omega
       obtain ⟨hcw, hcl5⟩ := hcs j hjg
       obtain ⟨bl, kl, Tl, fl, arl, el, hbl, hcl⟩ := one_at (show SlRd (Im Jc) (.slice Ao n co) (ptrsV gs4).length 1 (ptrsV gs4) by rw [ptrsV_of hmp4, ptrsV_len, hlenf]; exact hls.mono (fun b o h => hJ1c.2 b o h)) (show j < (ptrsV gs4).length by rw [ptrsV_len]; exact hjg)
       rw [show (ptrsV gs4)[j]'(by rw [ptrsV_len]; exact hjg) = .pointer (some ⟨(gs4[j]).1, 0, none⟩) by simp [ptrsV]] at hcl
       refine WP.nil ?_; refine WP.sub [(0, _), (2, _), (8, _), (11, _), (15, _), (16, _), (18, _), (19, _), (137, _)] ?_ ⟨rfl, rfl, rfl, rfl, rfl, rfl, rfl, rfl, rfl, trivial⟩
       refine WP.next ?_; refine WP.condT rfl ?_; refine WP.skip (WP.next (WP.seq (WP.block (WP.seq ?_))))
       refine WP.region [0, 1, 2, 3, 4, 5, 6, 7, 8, 9] rfl ?_; iterate 2 refine WP.mv rfl rfl ?_
       refine WP.vl rfl (Yld.indexAddr (i := j) rfl ty_sl_26 (congrArg (fun a => some (Value.slice a n co)) el) rfl (by omega)) ?_; refine WP.vl rfl (Yld.loadC rfl ty_sc_46 rfl (There.i hbl) hcl) ?_; refine WP.loud rfl rfl ?_; refine Op.cl (txn_GotK hgsc hjg) rfl Tryz.func17 rfl rfl rfl rfl ?_; rintro v J L4 - ⟨rfl, rfl, rfl⟩
       try simp only [nf]
       by_cases hwj : (decide (w4 = some j)) = true
       ·try rw [hwj]
        refine WP.mv rfl rfl ?_; iterate 2 refine WP.vl rfl (Yld.extract rfl rfl rfl) ?_
        iterate 2 refine WP.mv rfl rfl ?_
        refine WP.nil ?_; refine WP.sub [(0, _), (2, _), (8, _), (11, _), (15, _), (16, _), (18, _), (19, _), (20, _), (21, _), (137, _)] ?_ ⟨rfl, rfl, rfl, rfl, rfl, rfl, rfl, rfl, rfl, rfl, rfl, trivial⟩
        refine WP.next (WP.seq ?_)
        have hwj2 := of_decide_eq_true hwj
        obtain ⟨hz0, hc1, _⟩ := hcw hwj2
        obtain ⟨hw0, hw1⟩ := wonB_at hwj2
        refine WP.region [0, 1] rfl ?_; refine WP.mv rfl rfl ?_; refine WP.vl rfl (Yld.eql rfl rfl rfl true (decide_eq_true (by first | exact hz0 | omega))) ?_; refine WP.nil ?_; refine WP.sub [(0, _), (2, _), (8, _), (11, _), (15, _), (16, _), (18, _), (19, _), (20, _), (21, _), (137, _), (149, _)] ?_ ⟨rfl, rfl, rfl, rfl, rfl, rfl, rfl, rfl, rfl, rfl, rfl, rfl, trivial⟩
        refine WP.next ?_; refine WP.condT rfl ?_; refine WP.seq ?_; refine WP.region [0, 1, 2] rfl ?_; refine WP.mv rfl rfl ?_; refine WP.vl rfl (Yld.add64 rfl rfl rfl (by omega)) ?_; refine WP.mv rfl rfl ?_; refine WP.nil ?_; refine WP.sub [(0, _), (2, _), (8, _), (11, _), (15, _), (16, _), (18, _), (19, _), (20, _), (21, _), (137, _), (149, _)] ?_ ⟨rfl, rfl, rfl, rfl, rfl, rfl, rfl, rfl, rfl, rfl, rfl, rfl, trivial⟩
        refine WP.next ?_; refine WP.cut (X := Int) (fun f : Int => [(0, .int .i64 (n : Int)), (2, .int .i64 no), (8, .pointer (some ⟨x, 0, none⟩)), (11, .slice Ao n co), (15, .int .i64 f), (16, .pointer (some ⟨hh, 0, none⟩)), (18, .int .i64 ((wonB w4 j + 1 : Nat) : Int)), (19, .int .i64 (j : Int)), (20, .int .i64 (if gs4[j].2.c.e ≠ 0 then 0 else gs4[j].2.c.txn))]) (fun _ => Jc) (fun _ : Int => (x, row 38 [.pointer (some ⟨d, 0, none⟩), .pointer (some ⟨s, 0, none⟩), .pointer (some ⟨l, 0, none⟩), .pointer (some ⟨t, 0, none⟩), .pointer (some ⟨q, 0, none⟩), .pointer (some ⟨rt, 0, none⟩), .pointer (some ⟨rm, 0, none⟩), .pointer (some ⟨r9, 0, none⟩)]) :: (L4 ++ (Lt4 ++ (Lc ++ (Lgs ++ F))))) (fun f : Int => 0 ≤ f) ?_ ?_
        ·skip
         refine WP.seq ?_; refine WP.region [0, 1, 2] rfl ?_; iterate 2 refine WP.mv rfl rfl ?_
         refine WP.split rfl rfl rfl rfl (Yld.eql rfl rfl rfl) (fun h402 => ?_) (fun h402 => ?_)
         ·refine WP.nil ?_
          refine WP.sub [(0, _), (2, _), (8, _), (11, _), (15, _), (16, _), (18, _), (19, _), (20, _), (21, _), (137, _), (149, _), (154, _)] ?_ ⟨rfl, rfl, rfl, rfl, rfl, rfl, rfl, rfl, rfl, rfl, rfl, rfl, rfl, trivial⟩
          refine WP.next ?_; refine WP.condT rfl ?_; refine WP.region [0] rfl ?_; refine WP.mv rfl rfl ?_; refine WP.nil ?_; exact WP.meet (0 : Int) (by decide) ⟨rfl, rfl, rfl, rfl, rfl, rfl, rfl, rfl, rfl, trivial⟩ rfl zA
         ·refine WP.nil ?_
          refine WP.sub [(0, _), (2, _), (8, _), (11, _), (15, _), (16, _), (18, _), (19, _), (20, _), (21, _), (137, _), (149, _), (154, _)] ?_ ⟨rfl, rfl, rfl, rfl, rfl, rfl, rfl, rfl, rfl, rfl, rfl, rfl, rfl, trivial⟩
          refine WP.next ?_; refine WP.condF rfl ?_; refine WP.skip ?_; exact WP.meet f hf ⟨rfl, rfl, rfl, rfl, rfl, rfl, rfl, rfl, rfl, trivial⟩ rfl zA
        ·intro f40 h40; rw [if_neg (fun h => h hz0)]
         refine WP.seq ?_; refine WP.region [0, 1, 2, 3, 4, 5, 6] rfl ?_; refine WP.mv rfl rfl ?_; refine WP.vl rfl (Yld.nilCheck rfl rfl) ?_; refine WP.vl rfl (Yld.fieldAddr rfl ty_fd_38_2 rfl) ?_; refine WP.vl rfl (Yld.ld (v := .pointer (some ⟨l, 0, none⟩)) rfl ty_sc_31 rfl rfl) ?_; refine WP.mv rfl rfl ?_; refine WP.loud rfl rfl ?_; refine Op.cl (law_commits hlc (nn := gs4[j].2.c.txn) hinv4.lo hinv4.lg.bl (by omega) hinv4.lg.base) rfl Tryz.func21 rfl rfl rfl rfl ?_; rintro v Jm Lm hJm ⟨rfl, hlm⟩
         try simp only [nf]
         refine WP.mv rfl rfl ?_; refine WP.nil ?_; refine WP.sub [(0, _), (2, _), (8, _), (11, _), (15, _), (16, _), (18, _), (19, _), (20, _), (22, _)] ?_ ⟨rfl, rfl, rfl, rfl, rfl, rfl, rfl, rfl, rfl, rfl, trivial⟩
         refine WP.next (WP.seq ?_)
         refine WP.region [0, 1] rfl ?_; refine WP.mv rfl rfl ?_; refine WP.vl rfl (Yld.lss rfl rfl rfl false (decide_eq_false (by omega))) ?_; refine WP.nil ?_; refine WP.sub [(0, _), (2, _), (8, _), (11, _), (15, _), (16, _), (18, _), (19, _), (20, _), (22, _), (162, _)] ?_ ⟨rfl, rfl, rfl, rfl, rfl, rfl, rfl, rfl, rfl, rfl, rfl, trivial⟩
         refine WP.next ?_; refine WP.condF rfl ?_; refine WP.skip (WP.leave (WP.next ?_))
         refine WP.region [0, 1, 2] rfl ?_; refine WP.mv rfl rfl ?_; refine WP.vl rfl (Yld.add64 rfl rfl rfl (by omega)) ?_; refine WP.mv rfl rfl ?_; refine WP.nil ?_; refine WP.sub [(0, _), (2, _), (8, _), (11, _), (15, _), (16, _), (18, _), (19, _), (20, _), (22, _), (162, _)] ?_ ⟨rfl, rfl, rfl, rfl, rfl, rfl, rfl, rfl, rfl, rfl, rfl, trivial⟩
         rw [show wonB w4 j + 1 = wonB w4 (j + 1) by omega]
         exact WP.again (⟨j + 1, f40, Jm, Lm⟩ : CtX) ⟨Imm.le_trans hJc hJm, hlm, (show j + 1 ≤ n by omega), h40⟩ (show n - (j + 1) < n - j by omega) ⟨rfl, rfl, rfl, rfl, rfl, rfl, rfl, rfl, trivial⟩ rfl zA
       ·have hwj : (decide (w4 = some j)) = false := eq_false_of_ne_true hwj
        try rw [hwj]
        refine WP.mv rfl rfl ?_; iterate 2 refine WP.vl rfl (Yld.extract rfl rfl rfl) ?_
        iterate 2 refine WP.mv rfl rfl ?_
        refine WP.nil ?_; refine WP.sub [(0, _), (2, _), (8, _), (11, _), (15, _), (16, _), (18, _), (19, _), (20, _), (21, _), (137, _)] ?_ ⟨rfl, rfl, rfl, rfl, rfl, rfl, rfl, rfl, rfl, rfl, rfl, trivial⟩
        refine WP.next (WP.seq ?_)
        have hwj2 := of_decide_eq_false hwj
        have hz5 := hcl5 hwj2
        refine WP.region [0, 1] rfl ?_; refine WP.mv rfl rfl ?_; refine WP.vl rfl (Yld.eql rfl rfl rfl false (decide_eq_false (by first | exact hz0 | omega))) ?_; refine WP.nil ?_; refine WP.sub [(0, _), (2, _), (8, _), (11, _), (15, _), (16, _), (18, _), (19, _), (20, _), (21, _), (137, _), (149, _)] ?_ ⟨rfl, rfl, rfl, rfl, rfl, rfl, rfl, rfl, rfl, rfl, rfl, rfl, trivial⟩
        refine WP.next ?_; refine WP.condF rfl ?_; refine WP.seq ?_; refine WP.region [0, 1] rfl ?_; refine WP.mv rfl rfl ?_; refine WP.vl rfl (Yld.neq rfl rfl rfl false (decide_eq_false (by exact fun h => h hz5))) ?_; refine WP.nil ?_; refine WP.sub [(0, _), (2, _), (8, _), (11, _), (15, _), (16, _), (18, _), (19, _), (20, _), (21, _), (137, _), (149, _), (164, _)] ?_ ⟨rfl, rfl, rfl, rfl, rfl, rfl, rfl, rfl, rfl, rfl, rfl, rfl, rfl, trivial⟩
        refine WP.next ?_; refine WP.condF rfl ?_; refine WP.skip (WP.leave (WP.next ?_))
        refine WP.region [0, 1, 2] rfl ?_; refine WP.mv rfl rfl ?_; refine WP.vl rfl (Yld.add64 rfl rfl rfl (by omega)) ?_; refine WP.mv rfl rfl ?_; refine WP.nil ?_; refine WP.sub [(0, _), (2, _), (8, _), (11, _), (15, _), (16, _), (18, _), (19, _), (20, _), (21, _), (137, _), (149, _), (164, _)] ?_ ⟨rfl, rfl, rfl, rfl, rfl, rfl, rfl, rfl, rfl, rfl, rfl, rfl, rfl, trivial⟩
        rw [← wonB_ne hwj2]
        exact WP.again (⟨j + 1, f, Jc, Lc⟩ : CtX) ⟨hJc, hlc, (show j + 1 ≤ n by omega), hf⟩ (show n - (j + 1) < n - j by omega) ⟨rfl, rfl, rfl, rfl, rfl, rfl, rfl, rfl, trivial⟩ rfl zA
      ·obtain rfl : n = j := by omega
       refine WP.nil ?_; refine WP.sub [(0, _), (2, _), (8, _), (11, _), (15, _), (16, _), (18, _), (19, _), (137, _)] ?_ ⟨rfl, rfl, rfl, rfl, rfl, rfl, rfl, rfl, rfl, trivial⟩
       refine WP.next ?_; refine WP.condF rfl ?_; refine WP.exit (WP.thenE (WP.thenE (WP.hit (WP.next (WP.seq ?_)))))
       refine WP.region [0, 1, 2, 3, 4, 5] rfl ?_; refine WP.mv rfl rfl ?_; refine WP.vl rfl (Yld.nilCheck rfl rfl) ?_; refine WP.vl rfl (Yld.fieldAddr rfl ty_fd_38_2 rfl) ?_; refine WP.vl rfl (Yld.ld (v := .pointer (some ⟨l, 0, none⟩)) rfl ty_sc_31 rfl rfl) ?_; refine WP.loud rfl rfl ?_; refine Op.cl (law_commits hlc (nn := 0) hinv4.lo hinv4.lg.bl (by omega) hinv4.lg.base) rfl Tryz.func21 rfl rfl rfl rfl ?_; rintro v Jm Lm hJm ⟨rfl, hlm⟩
       try simp only [nf]
       have hgh2 := hgh.mono (Imm.le_trans hJ4 (Imm.le_trans hJc hJm))
       by_cases hws : w4.isSome = true
       ·try rw [hws]
        refine WP.mv rfl rfl ?_; refine WP.nil ?_; refine WP.sub [(0, _), (2, _), (8, _), (11, _), (15, _), (16, _), (18, _), (19, _), (23, _), (137, _)] ?_ ⟨rfl, rfl, rfl, rfl, rfl, rfl, rfl, rfl, rfl, rfl, trivial⟩
        refine WP.next (WP.seq ?_)
        obtain ⟨k, hwk⟩ := Option.isSome_iff_exists.1 hws
        obtain ⟨hkg, _⟩ := hinv4.win k hwk
        have hcp := ((hcs k hkg).1 hwk).2.2
        have hw1 : wonB w4 n = 1 := by rw [hwk]; exact if_pos (by omega)
        refine WP.region [0, 1, 2, 3, 4, 5, 6, 7, 8, 9, 10, 11, 12, 13, 14, 15, 16, 17, 18, 19, 20] rfl ?_; refine WP.mv rfl rfl ?_; refine WP.vl rfl (Yld.leq rfl rfl rfl true (decide_eq_true (by omega))) ?_; refine WP.mv rfl rfl ?_; refine WP.valG rfl rfl rfl rfl rfl rfl rfl (Yld.move rfl rfl) ?_; refine WP.valG rfl rfl rfl rfl rfl rfl rfl (Yld.nilCheck rfl rfl) ?_; refine WP.valG rfl rfl rfl rfl rfl rfl rfl (Yld.fieldAddr rfl ty_fd_74_0 rfl) ?_; refine WP.loudG rfl rfl rfl rfl rfl ?_; refine Op.cl (txh_Got hgh2) rfl Tryz.func22 rfl rfl rfl rfl ?_; rintro v J L48 - ⟨rfl, rfl, rfl⟩
        try simp only [nf]
        refine WP.valG rfl rfl rfl rfl rfl rfl rfl (Yld.eql rfl rfl rfl true (decide_eq_true (by exact hze))) ?_; refine WP.vl rfl (Yld.pickT rfl rfl rfl) ?_; refine WP.mv rfl rfl ?_; refine WP.valG rfl rfl rfl rfl rfl rfl rfl (Yld.move rfl rfl) ?_; refine WP.valG rfl rfl rfl rfl rfl rfl rfl (Yld.eql rfl rfl rfl true (decide_eq_true (by omega))) ?_; refine WP.valG rfl rfl rfl rfl rfl rfl rfl (Yld.move rfl rfl) ?_; refine WP.valG rfl rfl rfl rfl rfl rfl rfl (Yld.gtr rfl rfl rfl true (decide_eq_true (by first | omega | (rw [hc0]; decide)))) ?_; refine WP.valG rfl rfl rfl rfl rfl rfl rfl (Yld.eqlBool rfl zK rfl rfl true (by simp)) ?_; refine WP.vl rfl (Yld.pickT rfl rfl rfl) ?_; refine WP.mv rfl rfl ?_; refine WP.valG rfl rfl rfl rfl rfl rfl rfl (Yld.move rfl rfl) ?_; refine WP.valG rfl rfl rfl rfl rfl rfl rfl (Yld.geq rfl rfl rfl true (decide_eq_true (by omega))) ?_; refine WP.vl rfl (Yld.pickT rfl rfl rfl) ?_; refine WP.mv rfl rfl ?_; refine WP.nil ?_; refine WP.sub [(0, _), (2, _), (6, _), (8, _), (11, _), (15, _), (16, _), (18, _), (19, _), (23, _), (137, _)] ?_ ⟨rfl, rfl, rfl, rfl, rfl, rfl, rfl, rfl, rfl, rfl, rfl, trivial⟩
        refine WP.next (WP.ret ?_)
        refine WP.fn .ret (.inr rfl) (res1 rfl rfl) [] (Imm.le_trans hJa (Imm.le_trans hJ0 (Imm.le_trans hJ01 (Imm.le_trans hJ14 (Imm.le_trans hJc hJm))))) ?_; exact ⟨rfl, rfl⟩
       ·have hws : w4.isSome = false := eq_false_of_ne_true hws
        try rw [hws]
        refine WP.mv rfl rfl ?_; refine WP.nil ?_; refine WP.sub [(0, _), (2, _), (8, _), (11, _), (15, _), (16, _), (18, _), (19, _), (23, _), (137, _)] ?_ ⟨rfl, rfl, rfl, rfl, rfl, rfl, rfl, rfl, rfl, rfl, trivial⟩
        refine WP.next (WP.seq ?_)
        have hwn : w4 = none := by cases hq : w4 with | none => rfl | some k => rw [hq] at hws; cases hws
        have hc0 := hcn hwn
        have hw0 : wonB w4 n = 0 := by rw [hwn]; rfl
        refine WP.region [0, 1, 2, 3, 4, 5, 6, 7, 8, 9, 10, 11, 12, 13, 14, 15, 16, 17, 18, 19, 20] rfl ?_; refine WP.mv rfl rfl ?_; refine WP.vl rfl (Yld.leq rfl rfl rfl true (decide_eq_true (by omega))) ?_; refine WP.mv rfl rfl ?_; refine WP.valG rfl rfl rfl rfl rfl rfl rfl (Yld.move rfl rfl) ?_; refine WP.valG rfl rfl rfl rfl rfl rfl rfl (Yld.nilCheck rfl rfl) ?_; refine WP.valG rfl rfl rfl rfl rfl rfl rfl (Yld.fieldAddr rfl ty_fd_74_0 rfl) ?_; refine WP.loudG rfl rfl rfl rfl rfl ?_; refine Op.cl (txh_Got hgh2) rfl Tryz.func22 rfl rfl rfl rfl ?_; rintro v J L48 - ⟨rfl, rfl, rfl⟩
        try simp only [nf]
        refine WP.valG rfl rfl rfl rfl rfl rfl rfl (Yld.eql rfl rfl rfl true (decide_eq_true (by exact hze))) ?_; refine WP.vl rfl (Yld.pickT rfl rfl rfl) ?_; refine WP.mv rfl rfl ?_; refine WP.valG rfl rfl rfl rfl rfl rfl rfl (Yld.move rfl rfl) ?_; refine WP.valG rfl rfl rfl rfl rfl rfl rfl (Yld.eql rfl rfl rfl false (decide_eq_false (by omega))) ?_; refine WP.valG rfl rfl rfl rfl rfl rfl rfl (Yld.move rfl rfl) ?_; refine WP.valG rfl rfl rfl rfl rfl rfl rfl (Yld.gtr rfl rfl rfl false (decide_eq_false (by first | omega | (rw [hc0]; decide)))) ?_; refine WP.valG rfl rfl rfl rfl rfl rfl rfl (Yld.eqlBool rfl zK rfl rfl true (by simp)) ?_; refine WP.vl rfl (Yld.pickT rfl rfl rfl) ?_; refine WP.mv rfl rfl ?_; refine WP.valG rfl rfl rfl rfl rfl rfl rfl (Yld.move rfl rfl) ?_; refine WP.valG rfl rfl rfl rfl rfl rfl rfl (Yld.geq rfl rfl rfl true (decide_eq_true (by omega))) ?_; refine WP.vl rfl (Yld.pickT rfl rfl rfl) ?_; refine WP.mv rfl rfl ?_; refine WP.nil ?_; refine WP.sub [(0, _), (2, _), (6, _), (8, _), (11, _), (15, _), (16, _), (18, _), (19, _), (23, _), (137, _)] ?_ ⟨rfl, rfl, rfl, rfl, rfl, rfl, rfl, rfl, rfl, rfl, rfl, trivial⟩
        refine WP.next (WP.ret ?_)
        refine WP.fn .ret (.inr rfl) (res1 rfl rfl) [] (Imm.le_trans hJa (Imm.le_trans hJ0 (Imm.le_trans hJ01 (Imm.le_trans hJ14 (Imm.le_trans hJc hJm))))) ?_; exact ⟨rfl, rfl⟩


end Go.Hp
