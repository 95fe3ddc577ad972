import Derived.Test.YtcebcphnmbhcpaaGreatCacB
set_option linter.unusedVariables false
set_option linter.unusedSimpArgs false
namespace Go.Hp
open Go Go.Proofs

theorem fl_takes {I : Imm} {f m s : Nat} {z : Fl} {Lf : Chunks} (hf : IsFl I f m s z Lf) {l t : Nat} (hst : I.blk s = some (row 88 [.pointer (some ⟨t, 0, none⟩), .pointer (some ⟨l, 0, none⟩)])) {sg d n : Nat} {x : Lg} {y : Dk} {Ll : Chunks} (hlg : IsLog I l sg d n x y Ll) : Spec Tryz.prog 61 [.pointer (some ⟨f, 0, none⟩)] I (Lf ++ Ll) (fun v J L => I = J ∧ v = .bool false ∧ ∃ Lf2 Ll2, L = Lf2 ++ Ll2 ∧ IsFl J f m s (({ z with hn := x.no, hp := x.pl } : Fl).go 3) Lf2 ∧ IsLog J l sg d n x y Ll2) := by
 cases hf with
 | @mk vr Lm hr hm =>
 cases hm with
 | @mk vn vw un uw hn hw hs on ow os =>
 obtain ⟨nvn, hn1, hn2⟩ := id hn.ex
 obtain ⟨An, cn, rfl, _⟩ := hn1.slice'
 obtain ⟨Aw, cw, rfl, _⟩ := hw.slice'
 obtain ⟨nvr, hr1, hr2⟩ := id hr.ex
 obtain ⟨Ar, cr, rfl, _⟩ := hr1.slice'
 refine Spec.of Tryz.func61 rfl Tryz.ntmps61 (Nat.le_of_ble_eq_true rfl) (fun F => ?_)
 try simp only [nf]
 dsimp only [argsEnv]
 refine WP.seq ?_; refine WP.region [0] rfl ?_; refine WP.mv rfl rfl ?_; refine WP.nil (WP.next (WP.seq ?_))
 refine WP.region [0, 1, 2, 3, 4, 5, 6, 7, 8, 9, 10, 11, 12, 13, 14] rfl ?_; iterate 2 refine WP.mv rfl rfl ?_
 refine WP.vl rfl (Yld.nilCheck rfl rfl) ?_; refine WP.vl rfl (Yld.fieldAddr rfl ty_fd_106_0 rfl) ?_; refine WP.vl rfl (Yld.ld (v := .pointer (some ⟨m, 0, none⟩)) rfl ty_sc_55 rfl rfl) ?_; refine WP.vl rfl (Yld.nilCheck rfl rfl) ?_; refine WP.vl rfl (Yld.fieldAddr rfl ty_fd_110_0 rfl) ?_; refine WP.vl rfl (Yld.ld (v := .pointer (some ⟨s, 0, none⟩)) rfl ty_sc_26 rfl rfl) ?_; refine WP.vl rfl (Yld.nilCheck rfl rfl) ?_; refine WP.vl rfl (Yld.fieldAddr rfl ty_fd_88_1 rfl) ?_; refine WP.vl rfl (Yld.ld (v := .pointer (some ⟨l, 0, none⟩)) rfl ty_sc_30 rfl rfl) ?_; refine WP.loud rfl rfl ?_; refine Op.cl (log_Head hlg) rfl Tryz.func72 rfl rfl rfl rfl ?_; rintro v J L11 - ⟨rfl, rfl, rfl⟩
 try simp only [nf]
 refine WP.vl rfl (Yld.nilCheck rfl rfl) ?_; refine WP.vl rfl (Yld.fieldAddr rfl ty_fd_106_2 rfl) ?_; refine WP.loud rfl rfl ?_; refine Op.storeN rfl rfl ty_sz_82 rfl rfl rfl rfl (Nat.le_of_ble_eq_true rfl) (show flV m { z with hn := x.no, hp := x.pl } (.slice Ar z.r.nodes.length cr) = _ from rfl) (by repeat (first | exact Upd.head | apply Upd.tail | apply Upd.tailS)) ?_; refine WP.nil ?_; refine WP.sub [(0, _), (2, _)] ?_ ⟨rfl, rfl, trivial⟩
 refine WP.next (WP.seq ?_)
 refine WP.region [0, 1, 2, 3, 4, 5, 6, 7] rfl ?_; refine WP.mv rfl rfl ?_; refine WP.vl rfl (Yld.nilCheck rfl rfl) ?_; refine WP.vl rfl (Yld.fieldAddr rfl ty_fd_106_0 rfl) ?_; refine WP.vl rfl (Yld.ld (v := .pointer (some ⟨m, 0, none⟩)) rfl ty_sc_55 rfl rfl) ?_; refine WP.mv rfl rfl ?_; refine WP.vl rfl (Yld.makeFunc rfl (vs := [_]) (us := []) rfl rfl) ?_; refine WP.loud rfl rfl ?_; refine Op.cl (cac_goes (IsMc.mk hn hw hs on ow os : IsMc I m s (flN f z.at_) z.c _)) rfl Tryz.func60 rfl rfl rfl rfl ?_; rintro v J Lm2 - ⟨rfl, rfl, hm2⟩
 try simp only [nf]
 refine WP.mv rfl rfl ?_; refine WP.nil ?_; refine WP.sub [(0, _), (2, _)] ?_ ⟨rfl, rfl, trivial⟩
 refine WP.next (WP.ret ?_)
 refine WP.fn .ret (.inr rfl) (res1 rfl rfl) (Lm2 ++ ((f, row 106 (flV m ({ z with hn := x.no, hp := x.pl }) (.slice Ar z.r.nodes.length cr))) :: Ll)) (Imm.le_refl _) ?_; exact ⟨rfl, rfl, _, Ll, app1, .mk (z := ({ z with hn := x.no, hp := x.pl } : Fl).go 3) hr hm2, hlg⟩


theorem flat2_take : ∀ (nv : List (Bool × Value)) (k : Nat), (nv.flatMap ndV).take (k * 2) = (nv.take k).flatMap ndV
 | [], k => by simp
 | a :: nv, 0 => by simp
 | a :: nv, k + 1 => by
  have e : (k + 1) * 2 = k * 2 + 1 + 1 := by omega
  rw [List.flatMap_cons, e, show ndV a = [.bool a.1, a.2] from rfl, List.cons_append, List.cons_append, List.nil_append, List.take_succ_cons, List.take_succ_cons, flat2_take nv k]
  rfl
theorem RNodes.take {J : Imm} {v : Value} {l : List (Bool × List UInt8)} (h : RNodes J v l) {k : Nat} (hk : k ≤ l.length) : RNodes J (subSl 2 0 k v) (l.take k) := by
 obtain ⟨nv, h1, h2⟩ := h.ex
 have hl := h2.len
 have q := h1.sub (l := 0) (h := k) (Nat.zero_le _) hk
 refine ⟨nv.take k, ?_, ?_, fun i x hx => ?_⟩
 ·rw [List.length_take, Nat.min_eq_left hk]
  rw [Nat.zero_mul, List.drop_zero, Nat.sub_zero, flat2_take] at q
  exact q
 ·rw [List.length_take, List.length_take, hl]
 ·rw [List.getElem?_take] at hx
  split at hx
  ·rename_i hi
   obtain ⟨d, g1, g2⟩ := h2.at_ i x hx
   exact ⟨d, by rw [List.getElem?_take, if_pos hi]; exact g1, g2⟩
  ·cases hx
structure ApX where
 r : Pr
 v : Value
structure AqX where
 b : Nat
 e : Int
 hn : Nat
 hp : Nat
 x : Lg
 J : Imm
 L : Chunks
def Fl.okR (z : Fl) : Prop := z.rc.may ∧ (pageB z.rc).length ≤ 12671
theorem encP_bad {I : Imm} {r : Pr} {vn : Value} (hr : RNodes I vn r.nodes) (hln : r.nodes.length ≤ 140737488351232) (hsz : 30 + (r.nodes.flatMap nodeB).length ≤ 140737488355328) (hb : ¬ (r.may ∧ (pageB r).length ≤ 12671)) : Spec Tryz.prog 78 [.agg ([.int .i64 r.page, .int .i64 r.prev, vn]).toArray] I [] (fun v J L' => ∃ e : Int, (e = 120 ∨ e = 2) ∧ v = .tuple #[.slice none 0 0, .int .i64 e] ∧ L' = []) :=
 (txn_EncodePage hr hln hsz).mono (by
  rintro v J L' _ (⟨_, rfl, rfl⟩ | ⟨h1, ⟨_, rfl, rfl⟩ | ⟨h2, _⟩⟩)
  ·exact ⟨120, .inl rfl, rfl, rfl⟩
  ·exact ⟨2, .inr rfl, rfl, rfl⟩
  ·exact absurd ⟨h1, h2⟩ hb)
theorem encP_ok {I : Imm} {r : Pr} {vn : Value} (hr : RNodes I vn r.nodes) (hln : r.nodes.length ≤ 140737488351232) (hsz : 30 + (r.nodes.flatMap nodeB).length ≤ 140737488355328) (hb : r.may ∧ (pageB r).length ≤ 12671) : Spec Tryz.prog 78 [.agg ([.int .i64 r.page, .int .i64 r.prev, vn]).toArray] I [] (fun v J L' => ∃ vb, v = .tuple #[vb, .int .i64 0] ∧ Own 5 1 vb (bytesV (pageB r)) (pageB r).length L') :=
 (txn_EncodePage hr hln hsz).mono (by
  rintro v J L' _ (⟨h1, _⟩ | ⟨h1, ⟨h2, _⟩ | ⟨_, h3⟩⟩)
  ·exact absurd hb.1 h1
  ·exact absurd hb.2 (by omega)
  ·exact h3)
theorem fl_appends_bad {I : Imm} {f m s : Nat} {z : Fl} {Lf : Chunks} (hf : IsFl I f m s z Lf) {l t : Nat} (hst : I.blk s = some (row 88 [.pointer (some ⟨t, 0, none⟩), .pointer (some ⟨l, 0, none⟩)])) (hk : 0 ≤ z.c.ent.kept ∧ z.c.ent.kept ≤ z.c.ent.nodes.length) (hln : z.rc.nodes.length ≤ 140737488351232) (hsz : 30 + (z.rc.nodes.flatMap nodeB).length ≤ 140737488355328) (hb : ¬ z.okR) : Spec Tryz.prog 73 [.pointer (some ⟨f, 0, none⟩)] I Lf (fun v J L => ∃ e : Int, (e = 120 ∨ e = 2) ∧ v = .bool true ∧ IsFl J f m s ((z.setR z.rc).fin z.c.ent e) L) := by
 cases hf with
 | @mk vr Lm hr hm =>
 cases hm with
 | @mk vn vw un uw hn hw hs on ow os =>
 obtain ⟨nvn, hn1, hn2⟩ := id hn.ex
 obtain ⟨An, cn, rfl, _⟩ := hn1.slice'
 obtain ⟨Aw, cw, rfl, _⟩ := hw.slice'
 obtain ⟨nvr, hr1, hr2⟩ := id hr.ex
 obtain ⟨Ar, cr, rfl, _⟩ := hr1.slice'
 refine Spec.of Tryz.func73 rfl Tryz.ntmps73 (Nat.le_of_ble_eq_true rfl) (fun F => ?_)
 try simp only [nf]
 dsimp only [argsEnv]
 refine WP.seq ?_; refine WP.region [0] rfl ?_; refine WP.mv rfl rfl ?_; refine WP.nil (WP.next (WP.seq ?_))
 refine WP.region [0, 1, 2, 3, 4, 5, 6, 7, 8] rfl ?_; refine WP.mv rfl rfl ?_; refine WP.vl rfl (Yld.nilCheck rfl rfl) ?_; refine WP.vl rfl (Yld.fieldAddr rfl ty_fd_106_0 rfl) ?_; refine WP.vl rfl (Yld.ld (v := .pointer (some ⟨m, 0, none⟩)) rfl ty_sc_55 rfl rfl) ?_; refine WP.vl rfl (Yld.nilCheck rfl rfl) ?_; refine WP.vl rfl (Yld.fieldAddr rfl ty_fd_110_3 rfl) ?_; refine WP.vl rfl (Yld.ldg (vs := [.int .u64 (z.c.ent.tok : Int), .slice An z.c.ent.nodes.length cn, .int .i64 z.c.ent.place, .int .i64 z.c.ent.no, .int .i64 z.c.ent.low, .int .i64 z.c.ent.kept, .int .i64 z.c.ent.txn, .int .i64 z.c.ent.lead, .slice Aw z.c.ent.with_.length cw]) rfl ty_ag_50 rfl rfl rfl) ?_; refine WP.loud rfl rfl ?_; refine Op.alloc rfl rfl rfl ty_zr_50 (fun b3 => ?_)
 refine WP.loud rfl rfl ?_; refine Op.sA rfl rfl ty_sz_50 rfl rfl rfl rfl rfl ?_; refine WP.nil ?_; refine WP.sub [(0, _), (2, _), (3, _)] ?_ ⟨rfl, rfl, rfl, trivial⟩
 refine WP.next (WP.seq ?_)
 refine WQ.start Tryzmixed 13 zK _ rfl [13] rfl ?_; iterate 2 refine WQ.val rfl rfl rfl (Yld.move rfl rfl) ?_
 refine WQ.val rfl rfl rfl (Yld.nilCheck rfl rfl) ?_; refine WQ.val rfl rfl rfl (Yld.fieldAddr rfl ty_fd_106_0 rfl) ?_; refine WQ.val rfl rfl rfl (Yld.ld (v := .pointer (some ⟨m, 0, none⟩)) rfl ty_sc_55 rfl rfl) ?_; refine WQ.val rfl rfl rfl (Yld.nilCheck rfl rfl) ?_; refine WQ.val rfl rfl rfl (Yld.fieldAddr rfl ty_fd_110_2 rfl) ?_; refine WQ.val rfl rfl rfl (Yld.ld (v := .int .i64 z.c.page) rfl ty_sc_3 rfl rfl) ?_; refine WQ.val rfl rfl rfl (Yld.fieldAddr rfl ty_fd_50_1 rfl) ?_; refine WQ.val rfl rfl rfl (Yld.ld (v := .slice An z.c.ent.nodes.length cn) rfl ty_sc_45 rfl rfl) ?_; refine WQ.val rfl rfl rfl (Yld.buildS (pl := [(0, 0, 1), (2, 2, 1)]) rfl ty_zr_104 ty_zd_104 zK rfl (vs := [_, _]) rfl (segs := [(0, [_]), (2, [_])]) rfl rfl zS) ?_; refine WQ.val rfl rfl rfl (Yld.nilCheck rfl rfl) ?_; refine WQ.val rfl rfl rfl (Yld.fieldAddr rfl ty_fd_106_3 rfl) ?_; refine WQ.nil ?_; refine WP.loud rfl rfl ?_; refine Op.storeN rfl rfl ty_sz_104 rfl rfl rfl rfl (Nat.le_of_ble_eq_true rfl) (show flV m (z.setR ⟨z.c.page, 0, z.c.ent.nodes⟩) (.slice An z.c.ent.nodes.length cn) = _ from rfl) (by repeat (first | exact Upd.head | apply Upd.tail | apply Upd.tailS)) ?_; refine WP.nil ?_; refine WP.sub [(0, _), (2, _), (3, _)] ?_ ⟨rfl, rfl, rfl, trivial⟩
 refine WP.next ?_; refine WP.cut (X := ApX) (fun u : ApX => [(0, .pointer (some ⟨f, 0, none⟩)), (3, .pointer (some ⟨b3, 0, none⟩))]) (fun _ => I) (fun u : ApX => (b3, row 50 [.int .u64 (z.c.ent.tok : Int), .slice An z.c.ent.nodes.length cn, .int .i64 z.c.ent.place, .int .i64 z.c.ent.no, .int .i64 z.c.ent.low, .int .i64 z.c.ent.kept, .int .i64 z.c.ent.txn, .int .i64 z.c.ent.lead, .slice Aw z.c.ent.with_.length cw]) :: ((f, row 106 (flV m (z.setR u.r) u.v)) :: ((m, row 110 (mcV s (flN f z.at_) (z.c) (.slice An z.c.ent.nodes.length cn) (.slice Aw z.c.ent.with_.length cw) (un) (uw))) :: ([] ++ F)))) (fun u : ApX => u.r = z.rc ∧ RNodes I u.v u.r.nodes) ?_ ?_
 ·skip
  refine WP.seq ?_; refine WP.region [0, 1, 2, 3, 4, 5, 6, 7, 8, 9] rfl ?_; refine WP.mv rfl rfl ?_; refine WP.vl rfl (Yld.nilCheck rfl rfl) ?_; refine WP.vl rfl (Yld.fieldAddr rfl ty_fd_106_1 rfl) ?_; refine WP.splitB rfl rfl rfl rfl (Yld.ld (v := .bool z.full) rfl ty_sc_4 rfl rfl) (fun hfu => ?_) (fun hfu => ?_)
  ·refine WP.vl rfl (Yld.not rfl rfl) ?_
   refine WP.mv rfl rfl ?_; iterate 3 refine WP.passG rfl rfl rfl rfl rfl rfl rfl rfl ?_
   refine WP.vl rfl (Yld.pickF rfl rfl rfl) ?_; refine WP.nil ?_; refine WP.sub [(0, _), (2, _), (3, _), (36, _)] ?_ ⟨rfl, rfl, rfl, rfl, trivial⟩
   refine WP.next ?_; refine WP.condF rfl ?_; refine WP.skip ?_; exact WP.meet (⟨⟨z.c.page, 0, z.c.ent.nodes⟩, .slice An z.c.ent.nodes.length cn⟩ : ApX) ⟨(if_neg (fun q => by rw [hfu] at q; cases q.1)).symm, hn⟩ ⟨rfl, rfl, trivial⟩ rfl zA
  ·refine WP.vl rfl (Yld.not rfl rfl) ?_
   refine WP.mv rfl rfl ?_; refine WP.valG rfl rfl rfl rfl rfl rfl rfl (Yld.fieldAddr rfl ty_fd_50_2 rfl) ?_; refine WP.valG rfl rfl rfl rfl rfl rfl rfl (Yld.ld (v := .int .i64 z.c.ent.place) rfl ty_sc_3 rfl rfl) ?_; refine WP.splitG rfl rfl rfl rfl rfl rfl rfl (Yld.gtr rfl rfl rfl) (fun h38 => ?_) (fun h38 => ?_)
   ·refine WP.vl rfl (Yld.pickT rfl rfl rfl) ?_
    refine WP.nil ?_; refine WP.sub [(0, _), (2, _), (3, _), (36, _)] ?_ ⟨rfl, rfl, rfl, rfl, trivial⟩
    refine WP.next ?_; refine WP.condT rfl ?_; have hsn := hs.nodes
    refine WD.start Tryzmixed 20 (fun _ _ => False) (fun c o => c = b3 ∧ o = row 50 [.int .u64 (z.c.ent.tok : Int), .slice An z.c.ent.nodes.length cn, .int .i64 z.c.ent.place, .int .i64 z.c.ent.no, .int .i64 z.c.ent.low, .int .i64 z.c.ent.kept, .int .i64 z.c.ent.txn, .int .i64 z.c.ent.lead, .slice Aw z.c.ent.with_.length cw]) (fun _ _ h => h.elim) (by rintro _ _ ⟨rfl, rfl⟩; exact zM) 21 [false, false, false, false, false, false, false, false, false, false, false, false, false, false, false, false, false, false, false, false, false] rfl rfl ?_; refine WD.vl (i := 0) rfl (Yld.move rfl rfl) ?_; refine WD.vl (i := 1) rfl (Yld.move rfl rfl) ?_; refine WD.vl (i := 2) rfl (Yld.fieldAddr rfl ty_fd_50_2 rfl) ?_; refine WD.vl (i := 3) rfl (Yld.load (v := .int .i64 z.c.ent.place) rfl ty_sc_3 rfl ⟨rfl, rfl⟩ rfl) ?_; refine WD.vl (i := 4) rfl (Yld.fieldAddr rfl ty_fd_50_1 rfl) ?_; refine WD.vl (i := 5) rfl (Yld.load (v := .slice An z.c.ent.nodes.length cn) rfl ty_sc_45 rfl ⟨rfl, rfl⟩ rfl) ?_; refine WD.vl (i := 6) rfl (Yld.fieldAddr rfl ty_fd_50_1 rfl) ?_; refine WD.vl (i := 7) rfl (Yld.load (v := .slice An z.c.ent.nodes.length cn) rfl ty_sc_45 rfl ⟨rfl, rfl⟩ rfl) ?_; refine WD.vl (i := 8) rfl (Yld.len rfl ty_sl_45 rfl) ?_; refine WD.vl (i := 9) rfl (Yld.fieldAddr rfl ty_fd_50_5 rfl) ?_; refine WD.vl (i := 10) rfl (Yld.load (v := .int .i64 z.c.ent.kept) rfl ty_sc_3 rfl ⟨rfl, rfl⟩ rfl) ?_; refine WD.vl (i := 11) rfl (Yld.sub64 rfl rfl rfl (by omega)) ?_; refine WD.vl (i := 12) rfl (Yld.sliceR (l := 0) (h := (z.c.ent.nodes.length - z.c.ent.kept.toNat)) hn1 rfl ty_sl_45 rfl Env.lim0 (Env.limS (n := (z.c.ent.nodes.length - z.c.ent.kept.toNat)) (congrArg (fun q : Int => some (Value.int .i64 q)) (by omega))) (Nat.zero_le _) (Nat.sub_le _ _)) ?_
    refine WD.vl (i := 13) rfl (Yld.nilCheck rfl rfl) ?_; refine WD.vl (i := 14) rfl (Yld.fieldAddr rfl ty_fd_106_3 rfl) ?_; refine WD.vl (i := 15) rfl (Yld.fieldAddr rfl ty_fd_104_1 rfl) ?_; refine WD.loud (i := 16) zK rfl rfl rfl ?_; refine Op.s1 rfl rfl ty_sz_3 rfl rfl rfl ?_; refine WD.go (.inr (fun _ _ h => h.elim)) (by rintro _ _ ⟨rfl, rfl⟩; exact zM) ?_; refine WD.vl (i := 17) rfl (Yld.nilCheck rfl rfl) ?_; refine WD.vl (i := 18) rfl (Yld.fieldAddr rfl ty_fd_106_3 rfl) ?_; refine WD.vl (i := 19) rfl (Yld.fieldAddr rfl ty_fd_104_2 rfl) ?_; refine WD.loud (i := 20) zK rfl rfl rfl ?_; refine Op.s1 rfl rfl ty_sz_45 rfl rfl rfl ?_; refine WD.go (.inl rfl) (by rintro _ _ ⟨rfl, rfl⟩; exact zM) ?_; refine WD.done zK ?_; refine WP.sub [(0, _), (2, _), (3, _), (36, _)] ?_ ⟨rfl, rfl, rfl, rfl, trivial⟩
    exact WP.meet (⟨⟨z.c.page, z.c.ent.place, z.c.ent.nodes.take (z.c.ent.nodes.length - z.c.ent.kept.toNat)⟩, (subSl 2 0 (z.c.ent.nodes.length - z.c.ent.kept.toNat) (.slice An z.c.ent.nodes.length cn))⟩ : ApX) ⟨(if_pos ⟨hfu, h38⟩).symm, hn.take (Nat.sub_le _ _)⟩ ⟨rfl, rfl, trivial⟩ rfl zA
   ·refine WP.vl rfl (Yld.pickT rfl rfl rfl) ?_
    refine WP.nil ?_; refine WP.sub [(0, _), (2, _), (3, _), (36, _)] ?_ ⟨rfl, rfl, rfl, rfl, trivial⟩
    refine WP.next ?_; refine WP.condF rfl ?_; refine WP.skip ?_; exact WP.meet (⟨⟨z.c.page, 0, z.c.ent.nodes⟩, .slice An z.c.ent.nodes.length cn⟩ : ApX) ⟨(if_neg (fun q => h38 q.2)).symm, hn⟩ ⟨rfl, rfl, trivial⟩ rfl zA
 ·rintro ⟨r, vq⟩ ⟨hrr, hrn⟩; dsimp only at hrr hrn ⊢; subst hrr; obtain ⟨nvq, hq1, hq2⟩ := id hrn.ex; obtain ⟨Aq, cq, rfl, _⟩ := hq1.slice'
  refine WP.seq ?_; refine WP.region [0, 1, 2, 3, 4, 5, 6, 7, 8, 9] rfl ?_; refine WP.mv rfl rfl ?_; refine WP.vl rfl (Yld.nilCheck rfl rfl) ?_; refine WP.vl rfl (Yld.fieldAddr rfl ty_fd_106_3 rfl) ?_; refine WP.vl rfl (Yld.ldg (vs := [.int .i64 z.rc.page, .int .i64 z.rc.prev, .slice Aq z.rc.nodes.length cq]) rfl ty_ag_104 rfl rfl rfl) ?_; refine WP.loud rfl rfl ?_; refine Op.cl (encP_bad hrn hln hsz hb) rfl Tryz.func78 rfl rfl rfl rfl ?_; rintro v J2 L54 hJ2 ⟨e, he, rfl, rfl⟩
  try simp only [nf]
  refine WP.mv rfl rfl ?_; iterate 2 refine WP.vl rfl (Yld.extract rfl rfl rfl) ?_
  iterate 2 refine WP.mv rfl rfl ?_
  refine WP.nil ?_; refine WP.sub [(0, _), (3, _), (4, _), (5, _)] ?_ ⟨rfl, rfl, rfl, rfl, trivial⟩
  refine WP.next (WP.seq (WP.seq ?_))
  refine WP.region [0, 1] rfl ?_; refine WP.mv rfl rfl ?_; refine WP.vl rfl (Yld.neq rfl rfl rfl true (decide_eq_true (by omega))) ?_; refine WP.nil ?_; refine WP.sub [(0, _), (3, _), (4, _), (5, _), (65, _)] ?_ ⟨rfl, rfl, rfl, rfl, rfl, trivial⟩
  refine WP.next ?_; refine WP.condT rfl ?_; refine WP.seq ?_; refine WQ.start Tryzmixed 6 zK _ rfl [6, 7] rfl ?_; refine WQ.val rfl rfl rfl (Yld.move rfl rfl) ?_; refine WQ.val rfl rfl rfl (Yld.nilCheck rfl rfl) ?_; refine WQ.val rfl rfl rfl (Yld.fieldAddr rfl ty_fd_106_0 rfl) ?_; refine WQ.val rfl rfl rfl (Yld.ld (v := .pointer (some ⟨m, 0, none⟩)) rfl ty_sc_55 rfl rfl) ?_; refine WQ.val rfl rfl rfl (Yld.ldg (vs := [.int .u64 (z.c.ent.tok : Int), .slice An z.c.ent.nodes.length cn, .int .i64 z.c.ent.place, .int .i64 z.c.ent.no, .int .i64 z.c.ent.low, .int .i64 z.c.ent.kept, .int .i64 z.c.ent.txn, .int .i64 z.c.ent.lead, .slice Aw z.c.ent.with_.length cw]) rfl ty_ag_50 rfl rfl rfl) ?_; refine WQ.val rfl rfl rfl (Yld.move rfl rfl) ?_; refine WQ.nil ?_; refine WP.loud rfl rfl ?_; refine Op.cl (cac_end ((IsMc.mk hn hw hs on ow os : IsMc I m s (flN f z.at_) z.c _).mono hJ2) (hn.mono hJ2) (hw.mono (Imv.le hJ2)) hs) rfl Tryz.func59 rfl rfl rfl rfl ?_; rintro v J Lm2 - ⟨rfl, rfl, hm2⟩
  try simp only [nf]
  refine WP.mv rfl rfl ?_; refine WP.nil ?_; refine WP.sub [(0, _), (2, _), (3, _), (4, _), (5, _), (65, _)] ?_ ⟨rfl, rfl, rfl, rfl, rfl, rfl, trivial⟩
  refine WP.next (WP.ret ?_)
  refine WP.fn .ret (.inr rfl) (res1 rfl rfl) (Lm2 ++ [(f, row 106 (flV m ((z.setR z.rc)) (.slice Aq z.rc.nodes.length cq)))]) hJ2 ?_; exact ⟨e, he, rfl, .mk (z := (z.setR z.rc).fin z.c.ent e) (hrn.mono hJ2) hm2⟩

theorem fl_appends_ok {I : Imm} {f m s : Nat} {z : Fl} {Lf : Chunks} (hf : IsFl I f m s z Lf) {l t : Nat} (hst : I.blk s = some (row 88 [.pointer (some ⟨t, 0, none⟩), .pointer (some ⟨l, 0, none⟩)])) {sg d n : Nat} {x : Lg} {y : Dk} {Ll : Chunks} (hlg : IsLog I l sg d n x y Ll) (hk : 0 ≤ z.c.ent.kept ∧ z.c.ent.kept ≤ z.c.ent.nodes.length) (hln : z.rc.nodes.length ≤ 140737488351232) (hsz : 30 + (z.rc.nodes.flatMap nodeB).length ≤ 140737488355328) (hb : z.okR) : Spec Tryz.prog 73 [.pointer (some ⟨f, 0, none⟩)] I (Lf ++ Ll) (fun v J L => ∃ e x2 Lf2 Ll2, e = x.apE z.hn z.hp 2 (pageB z.rc) ∧ ApK x 2 (pageB z.rc) e x2 ∧ v = .bool ((z.setR z.rc).appends e x2.no).1 ∧ L = Lf2 ++ Ll2 ∧ IsFl J f m s ((z.setR z.rc).appends e x2.no).2 Lf2 ∧ IsLog J l sg d n x2 y Ll2) := by
 cases hf with
 | @mk vr Lm hr hm =>
 cases hm with
 | @mk vn vw un uw hn hw hs on ow os =>
 obtain ⟨nvn, hn1, hn2⟩ := id hn.ex
 obtain ⟨An, cn, rfl, _⟩ := hn1.slice'
 obtain ⟨Aw, cw, rfl, _⟩ := hw.slice'
 obtain ⟨nvr, hr1, hr2⟩ := id hr.ex
 obtain ⟨Ar, cr, rfl, _⟩ := hr1.slice'
 refine Spec.of Tryz.func73 rfl Tryz.ntmps73 (Nat.le_of_ble_eq_true rfl) (fun F => ?_)
 try simp only [nf]
 dsimp only [argsEnv]
 refine WP.seq ?_; refine WP.region [0] rfl ?_; refine WP.mv rfl rfl ?_; refine WP.nil (WP.next (WP.seq ?_))
 refine WP.region [0, 1, 2, 3, 4, 5, 6, 7, 8] rfl ?_; refine WP.mv rfl rfl ?_; refine WP.vl rfl (Yld.nilCheck rfl rfl) ?_; refine WP.vl rfl (Yld.fieldAddr rfl ty_fd_106_0 rfl) ?_; refine WP.vl rfl (Yld.ld (v := .pointer (some ⟨m, 0, none⟩)) rfl ty_sc_55 rfl rfl) ?_; refine WP.vl rfl (Yld.nilCheck rfl rfl) ?_; refine WP.vl rfl (Yld.fieldAddr rfl ty_fd_110_3 rfl) ?_; refine WP.vl rfl (Yld.ldg (vs := [.int .u64 (z.c.ent.tok : Int), .slice An z.c.ent.nodes.length cn, .int .i64 z.c.ent.place, .int .i64 z.c.ent.no, .int .i64 z.c.ent.low, .int .i64 z.c.ent.kept, .int .i64 z.c.ent.txn, .int .i64 z.c.ent.lead, .slice Aw z.c.ent.with_.length cw]) rfl ty_ag_50 rfl rfl rfl) ?_; refine WP.loud rfl rfl ?_; refine Op.alloc rfl rfl rfl ty_zr_50 (fun b3 => ?_)
 refine WP.loud rfl rfl ?_; refine Op.sA rfl rfl ty_sz_50 rfl rfl rfl rfl rfl ?_; refine WP.nil ?_; refine WP.sub [(0, _), (2, _), (3, _)] ?_ ⟨rfl, rfl, rfl, trivial⟩
 refine WP.next (WP.seq ?_)
 refine WQ.start Tryzmixed 13 zK _ rfl [13] rfl ?_; iterate 2 refine WQ.val rfl rfl rfl (Yld.move rfl rfl) ?_
 refine WQ.val rfl rfl rfl (Yld.nilCheck rfl rfl) ?_; refine WQ.val rfl rfl rfl (Yld.fieldAddr rfl ty_fd_106_0 rfl) ?_; refine WQ.val rfl rfl rfl (Yld.ld (v := .pointer (some ⟨m, 0, none⟩)) rfl ty_sc_55 rfl rfl) ?_; refine WQ.val rfl rfl rfl (Yld.nilCheck rfl rfl) ?_; refine WQ.val rfl rfl rfl (Yld.fieldAddr rfl ty_fd_110_2 rfl) ?_; refine WQ.val rfl rfl rfl (Yld.ld (v := .int .i64 z.c.page) rfl ty_sc_3 rfl rfl) ?_; refine WQ.val rfl rfl rfl (Yld.fieldAddr rfl ty_fd_50_1 rfl) ?_; refine WQ.val rfl rfl rfl (Yld.ld (v := .slice An z.c.ent.nodes.length cn) rfl ty_sc_45 rfl rfl) ?_; refine WQ.val rfl rfl rfl (Yld.buildS (pl := [(0, 0, 1), (2, 2, 1)]) rfl ty_zr_104 ty_zd_104 zK rfl (vs := [_, _]) rfl (segs := [(0, [_]), (2, [_])]) rfl rfl zS) ?_; refine WQ.val rfl rfl rfl (Yld.nilCheck rfl rfl) ?_; refine WQ.val rfl rfl rfl (Yld.fieldAddr rfl ty_fd_106_3 rfl) ?_; refine WQ.nil ?_; refine WP.loud rfl rfl ?_; refine Op.storeN rfl rfl ty_sz_104 rfl rfl rfl rfl (Nat.le_of_ble_eq_true rfl) (show flV m (z.setR ⟨z.c.page, 0, z.c.ent.nodes⟩) (.slice An z.c.ent.nodes.length cn) = _ from rfl) (by repeat (first | exact Upd.head | apply Upd.tail | apply Upd.tailS)) ?_; refine WP.nil ?_; refine WP.sub [(0, _), (2, _), (3, _)] ?_ ⟨rfl, rfl, rfl, trivial⟩
 refine WP.next ?_; refine WP.cut (X := ApX) (fun u : ApX => [(0, .pointer (some ⟨f, 0, none⟩)), (3, .pointer (some ⟨b3, 0, none⟩))]) (fun _ => I) (fun u : ApX => (b3, row 50 [.int .u64 (z.c.ent.tok : Int), .slice An z.c.ent.nodes.length cn, .int .i64 z.c.ent.place, .int .i64 z.c.ent.no, .int .i64 z.c.ent.low, .int .i64 z.c.ent.kept, .int .i64 z.c.ent.txn, .int .i64 z.c.ent.lead, .slice Aw z.c.ent.with_.length cw]) :: ((f, row 106 (flV m (z.setR u.r) u.v)) :: ((m, row 110 (mcV s (flN f z.at_) (z.c) (.slice An z.c.ent.nodes.length cn) (.slice Aw z.c.ent.with_.length cw) (un) (uw))) :: (Ll ++ F)))) (fun u : ApX => u.r = z.rc ∧ RNodes I u.v u.r.nodes) ?_ ?_
 ·skip
  refine WP.seq ?_; refine WP.region [0, 1, 2, 3, 4, 5, 6, 7, 8, 9] rfl ?_; refine WP.mv rfl rfl ?_; refine WP.vl rfl (Yld.nilCheck rfl rfl) ?_; refine WP.vl rfl (Yld.fieldAddr rfl ty_fd_106_1 rfl) ?_; refine WP.splitB rfl rfl rfl rfl (Yld.ld (v := .bool z.full) rfl ty_sc_4 rfl rfl) (fun hfu => ?_) (fun hfu => ?_)
  ·refine WP.vl rfl (Yld.not rfl rfl) ?_
   refine WP.mv rfl rfl ?_; iterate 3 refine WP.passG rfl rfl rfl rfl rfl rfl rfl rfl ?_
   refine WP.vl rfl (Yld.pickF rfl rfl rfl) ?_; refine WP.nil ?_; refine WP.sub [(0, _), (2, _), (3, _), (36, _)] ?_ ⟨rfl, rfl, rfl, rfl, trivial⟩
   refine WP.next ?_; refine WP.condF rfl ?_; refine WP.skip ?_; exact WP.meet (⟨⟨z.c.page, 0, z.c.ent.nodes⟩, .slice An z.c.ent.nodes.length cn⟩ : ApX) ⟨(if_neg (fun q => by rw [hfu] at q; cases q.1)).symm, hn⟩ ⟨rfl, rfl, trivial⟩ rfl zA
  ·refine WP.vl rfl (Yld.not rfl rfl) ?_
   refine WP.mv rfl rfl ?_; refine WP.valG rfl rfl rfl rfl rfl rfl rfl (Yld.fieldAddr rfl ty_fd_50_2 rfl) ?_; refine WP.valG rfl rfl rfl rfl rfl rfl rfl (Yld.ld (v := .int .i64 z.c.ent.place) rfl ty_sc_3 rfl rfl) ?_; refine WP.splitG rfl rfl rfl rfl rfl rfl rfl (Yld.gtr rfl rfl rfl) (fun h38 => ?_) (fun h38 => ?_)
   ·refine WP.vl rfl (Yld.pickT rfl rfl rfl) ?_
    refine WP.nil ?_; refine WP.sub [(0, _), (2, _), (3, _), (36, _)] ?_ ⟨rfl, rfl, rfl, rfl, trivial⟩
    refine WP.next ?_; refine WP.condT rfl ?_; have hsn := hs.nodes
    refine WD.start Tryzmixed 20 (fun _ _ => False) (fun c o => c = b3 ∧ o = row 50 [.int .u64 (z.c.ent.tok : Int), .slice An z.c.ent.nodes.length cn, .int .i64 z.c.ent.place, .int .i64 z.c.ent.no, .int .i64 z.c.ent.low, .int .i64 z.c.ent.kept, .int .i64 z.c.ent.txn, .int .i64 z.c.ent.lead, .slice Aw z.c.ent.with_.length cw]) (fun _ _ h => h.elim) (by rintro _ _ ⟨rfl, rfl⟩; exact zM) 21 [false, false, false, false, false, false, false, false, false, false, false, false, false, false, false, false, false, false, false, false, false] rfl rfl ?_; refine WD.vl (i := 0) rfl (Yld.move rfl rfl) ?_; refine WD.vl (i := 1) rfl (Yld.move rfl rfl) ?_; refine WD.vl (i := 2) rfl (Yld.fieldAddr rfl ty_fd_50_2 rfl) ?_; refine WD.vl (i := 3) rfl (Yld.load (v := .int .i64 z.c.ent.place) rfl ty_sc_3 rfl ⟨rfl, rfl⟩ rfl) ?_; refine WD.vl (i := 4) rfl (Yld.fieldAddr rfl ty_fd_50_1 rfl) ?_; refine WD.vl (i := 5) rfl (Yld.load (v := .slice An z.c.ent.nodes.length cn) rfl ty_sc_45 rfl ⟨rfl, rfl⟩ rfl) ?_; refine WD.vl (i := 6) rfl (Yld.fieldAddr rfl ty_fd_50_1 rfl) ?_; refine WD.vl (i := 7) rfl (Yld.load (v := .slice An z.c.ent.nodes.length cn) rfl ty_sc_45 rfl ⟨rfl, rfl⟩ rfl) ?_; refine WD.vl (i := 8) rfl (Yld.len rfl ty_sl_45 rfl) ?_; refine WD.vl (i := 9) rfl (Yld.fieldAddr rfl ty_fd_50_5 rfl) ?_; refine WD.vl (i := 10) rfl (Yld.load (v := .int .i64 z.c.ent.kept) rfl ty_sc_3 rfl ⟨rfl, rfl⟩ rfl) ?_; refine WD.vl (i := 11) rfl (Yld.sub64 rfl rfl rfl (by omega)) ?_; refine WD.vl (i := 12) rfl (Yld.sliceR (l := 0) (h := (z.c.ent.nodes.length - z.c.ent.kept.toNat)) hn1 rfl ty_sl_45 rfl Env.lim0 (Env.limS (n := (z.c.ent.nodes.length - z.c.ent.kept.toNat)) (congrArg (fun q : Int => some (Value.int .i64 q)) (by omega))) (Nat.zero_le _) (Nat.sub_le _ _)) ?_
    refine WD.vl (i := 13) rfl (Yld.nilCheck rfl rfl) ?_; refine WD.vl (i := 14) rfl (Yld.fieldAddr rfl ty_fd_106_3 rfl) ?_; refine WD.vl (i := 15) rfl (Yld.fieldAddr rfl ty_fd_104_1 rfl) ?_; refine WD.loud (i := 16) zK rfl rfl rfl ?_; refine Op.s1 rfl rfl ty_sz_3 rfl rfl rfl ?_; refine WD.go (.inr (fun _ _ h => h.elim)) (by rintro _ _ ⟨rfl, rfl⟩; exact zM) ?_; refine WD.vl (i := 17) rfl (Yld.nilCheck rfl rfl) ?_; refine WD.vl (i := 18) rfl (Yld.fieldAddr rfl ty_fd_106_3 rfl) ?_; refine WD.vl (i := 19) rfl (Yld.fieldAddr rfl ty_fd_104_2 rfl) ?_; refine WD.loud (i := 20) zK rfl rfl rfl ?_; refine Op.s1 rfl rfl ty_sz_45 rfl rfl rfl ?_; refine WD.go (.inl rfl) (by rintro _ _ ⟨rfl, rfl⟩; exact zM) ?_; refine WD.done zK ?_; refine WP.sub [(0, _), (2, _), (3, _), (36, _)] ?_ ⟨rfl, rfl, rfl, rfl, trivial⟩
    exact WP.meet (⟨⟨z.c.page, z.c.ent.place, z.c.ent.nodes.take (z.c.ent.nodes.length - z.c.ent.kept.toNat)⟩, (subSl 2 0 (z.c.ent.nodes.length - z.c.ent.kept.toNat) (.slice An z.c.ent.nodes.length cn))⟩ : ApX) ⟨(if_pos ⟨hfu, h38⟩).symm, hn.take (Nat.sub_le _ _)⟩ ⟨rfl, rfl, trivial⟩ rfl zA
   ·refine WP.vl rfl (Yld.pickT rfl rfl rfl) ?_
    refine WP.nil ?_; refine WP.sub [(0, _), (2, _), (3, _), (36, _)] ?_ ⟨rfl, rfl, rfl, rfl, trivial⟩
    refine WP.next ?_; refine WP.condF rfl ?_; refine WP.skip ?_; exact WP.meet (⟨⟨z.c.page, 0, z.c.ent.nodes⟩, .slice An z.c.ent.nodes.length cn⟩ : ApX) ⟨(if_neg (fun q => h38 q.2)).symm, hn⟩ ⟨rfl, rfl, trivial⟩ rfl zA
 ·rintro ⟨r, vq⟩ ⟨hrr, hrn⟩; dsimp only at hrr hrn ⊢; subst hrr; obtain ⟨nvq, hq1, hq2⟩ := id hrn.ex; obtain ⟨Aq, cq, rfl, _⟩ := hq1.slice'
  refine WP.seq ?_; refine WP.region [0, 1, 2, 3, 4, 5, 6, 7, 8, 9] rfl ?_; refine WP.mv rfl rfl ?_; refine WP.vl rfl (Yld.nilCheck rfl rfl) ?_; refine WP.vl rfl (Yld.fieldAddr rfl ty_fd_106_3 rfl) ?_; refine WP.vl rfl (Yld.ldg (vs := [.int .i64 z.rc.page, .int .i64 z.rc.prev, .slice Aq z.rc.nodes.length cq]) rfl ty_ag_104 rfl rfl rfl) ?_; refine WP.loud rfl rfl ?_; refine Op.cl (encP_ok hrn hln hsz hb) rfl Tryz.func78 rfl rfl rfl rfl ?_; rintro v J1 L54 hJ1 ⟨vb, rfl, hob⟩
  try simp only [nf]
  obtain ⟨Ab, cb, rfl, _⟩ := hob.slice
  refine WP.mv rfl rfl ?_; iterate 2 refine WP.vl rfl (Yld.extract rfl rfl rfl) ?_
  iterate 2 refine WP.mv rfl rfl ?_
  refine WP.nil ?_; refine WP.sub [(0, _), (3, _), (4, _), (5, _)] ?_ ⟨rfl, rfl, rfl, rfl, trivial⟩
  refine WP.shO hob (fun J2 hJ12 hsb => ?_)
  have hJ2 := Imm.le_trans hJ1 hJ12
  have hst2 := hJ2.2 _ _ hst
  have hmm : IsMc J2 m s (flN f z.at_) z.c _ := (IsMc.mk hn hw hs on ow os).mono hJ2
  refine WP.next (WP.seq (WP.seq ?_))
  refine WP.region [0, 1] rfl ?_; refine WP.mv rfl rfl ?_; refine WP.vl rfl (Yld.neq rfl rfl rfl false (decide_eq_false (by simp))) ?_; refine WP.nil ?_; refine WP.sub [(0, _), (3, _), (4, _), (5, _), (65, _)] ?_ ⟨rfl, rfl, rfl, rfl, rfl, trivial⟩
  refine WP.next ?_; refine WP.condF rfl ?_; refine WP.skip (WP.next ?_)
  refine WP.cut (X := AqX) (fun u : AqX => [(0, .pointer (some ⟨f, 0, none⟩)), (3, .pointer (some ⟨b3, 0, none⟩)), (5, .int .i64 u.e), (6, .pointer (some ⟨u.b, 0, none⟩))]) (fun u => u.J) (fun u : AqX => (u.b, row 82 [.int .i64 (u.hn : Int), .int .i64 (u.hp : Int)]) :: ((b3, row 50 [.int .u64 (z.c.ent.tok : Int), .slice An z.c.ent.nodes.length cn, .int .i64 z.c.ent.place, .int .i64 z.c.ent.no, .int .i64 z.c.ent.low, .int .i64 z.c.ent.kept, .int .i64 z.c.ent.txn, .int .i64 z.c.ent.lead, .slice Aw z.c.ent.with_.length cw]) :: ((f, row 106 (flV m ((z.setR z.rc)) (.slice Aq z.rc.nodes.length cq))) :: ((m, row 110 (mcV s (flN f z.at_) (z.c) (.slice An z.c.ent.nodes.length cn) (.slice Aw z.c.ent.with_.length cw) (un) (uw))) :: (u.L ++ F))))) (fun u : AqX => J2.le u.J ∧ u.e = x.apE z.hn z.hp 2 (pageB z.rc) ∧ ApK x 2 (pageB z.rc) u.e u.x ∧ (u.e = 0 → u.hn = u.x.no ∧ u.hp = u.x.pl) ∧ IsLog u.J l sg d n u.x y u.L) ?_ ?_
  ·skip
   refine WD.start Tryzmixed 15 (fun c o => (c = f ∧ o = row 106 (flV m ((z.setR z.rc)) (.slice Aq z.rc.nodes.length cq))) ∨ (c = m ∧ o = row 110 (mcV s (flN f z.at_) (z.c) (.slice An z.c.ent.nodes.length cn) (.slice Aw z.c.ent.with_.length cw) (un) (uw))) ∨ J2.blk c = some o) (fun _ _ => False) (by rintro _ _ (⟨rfl, rfl⟩ | ⟨rfl, rfl⟩ | h); exact zM; exact zM; exact There.i h) (fun _ _ h => h.elim) 22 [false, false, false, false, false, false, false, false, false, false, false, false, false, false, false, false, false, false, false, false, false, false] rfl rfl ?_; refine WD.vl (i := 0) rfl (Yld.move rfl rfl) ?_; refine WD.vl (i := 1) rfl (Yld.nilCheck rfl rfl) ?_; refine WD.vl (i := 2) rfl (Yld.fieldAddr rfl ty_fd_106_0 rfl) ?_; refine WD.val1 (i := 3) rfl rfl rfl rfl zK rfl zK (Yld.load (v := .pointer (some ⟨m, 0, none⟩)) rfl ty_sc_55 rfl (.inl (.inl ⟨rfl, rfl⟩)) rfl) ?_; refine WD.vl (i := 4) rfl (Yld.nilCheck rfl rfl) ?_; refine WD.vl (i := 5) rfl (Yld.fieldAddr rfl ty_fd_110_0 rfl) ?_; refine WD.val1 (i := 6) rfl rfl rfl rfl zK rfl zK (Yld.load (v := .pointer (some ⟨s, 0, none⟩)) rfl ty_sc_26 rfl (.inl (.inr (.inl ⟨rfl, rfl⟩))) rfl) ?_; refine WD.vl (i := 7) rfl (Yld.nilCheck rfl rfl) ?_; refine WD.vl (i := 8) rfl (Yld.fieldAddr rfl ty_fd_88_1 rfl) ?_; refine WD.val1 (i := 9) rfl rfl rfl rfl zK rfl zK (Yld.load (v := .pointer (some ⟨l, 0, none⟩)) rfl ty_sc_30 rfl (.inl (.inr (.inr hst2))) rfl) ?_; refine WD.vl (i := 10) rfl (Yld.move rfl rfl) ?_; refine WD.vl (i := 11) rfl (Yld.nilCheck rfl rfl) ?_
   refine WD.vl (i := 12) rfl (Yld.fieldAddr rfl ty_fd_106_2 rfl) ?_; refine WD.val1 (i := 13) rfl rfl rfl rfl zK rfl zK (Yld.loadAgg (vs := [.int .i64 (z.hn : Int), .int .i64 (z.hp : Int)]) rfl ty_ag_82 rfl (.inl (.inl ⟨rfl, rfl⟩)) rfl rfl) ?_; refine WD.vl (i := 14) rfl (Yld.move rfl rfl) ?_; refine WD.both (i := 15) (j := 19) zK rfl rfl ?_ ?_
   ·refine WP.oper rfl rfl ?_
    refine Op.cl (log_AppendE (hlg.mono hJ2) (hn := z.hn) (hp := z.hp) (kind := 2) hsb) rfl Tryz.func79 rfl rfl rfl rfl ?_; rintro v J3 Ll2 hJ3 ⟨e, hn', hp', x2, rfl, he, hap, hno, hl2⟩
    try simp only [nf]
    refine WD.go (.inl rfl) (fun _ _ h => h.elim) ?_; refine WD.vl (i := 16) rfl (Yld.move rfl rfl) ?_; refine WD.vl (i := 17) rfl (Yld.extract rfl rfl rfl) ?_; refine WD.vl (i := 18) rfl (Yld.extract rfl rfl rfl) ?_; refine WD.loud (i := 19) zK rfl rfl rfl ?_; refine Op.alloc rfl rfl rfl ty_zr_82 (fun b6 => ?_)
    refine WD.go (.inl rfl) (fun _ _ h => h.elim) ?_; refine WD.loud (i := 20) zK rfl rfl rfl ?_; refine Op.sA rfl rfl ty_sz_82 rfl rfl rfl rfl rfl ?_; refine WD.go (.inl rfl) (fun _ _ h => h.elim) ?_; refine WD.vl (i := 21) rfl (Yld.assign rfl rfl) ?_; refine WD.done zK ?_; refine WP.sub [(0, _), (3, _), (4, _), (5, _), (6, _), (65, _)] ?_ ⟨rfl, rfl, rfl, rfl, rfl, rfl, trivial⟩
    exact WP.meet (⟨b6, e, hn', hp', x2, J3, Ll2⟩ : AqX) ⟨hJ3, he, hap, hno, hl2⟩ ⟨rfl, rfl, rfl, rfl, trivial⟩ rfl zA
   ·refine WP.oper rfl rfl ?_
    refine Op.alloc rfl rfl rfl ty_zr_82 (fun b6 => ?_)
    refine WD.go (.inr (by rintro _ _ (⟨rfl, rfl⟩ | ⟨rfl, rfl⟩ | h); exact zM; exact zM; exact There.i h)) (fun _ _ h => h.elim) ?_; refine WD.loud (i := 15) zK rfl rfl rfl ?_; refine Op.cl (log_AppendE (hlg.mono hJ2) (hn := z.hn) (hp := z.hp) (kind := 2) hsb) rfl Tryz.func79 rfl rfl rfl rfl ?_; rintro v J3 Ll2 hJ3 ⟨e, hn', hp', x2, rfl, he, hap, hno, hl2⟩
    try simp only [nf]
    refine WD.go (.inl rfl) (fun _ _ h => h.elim) ?_; refine WD.vl (i := 16) rfl (Yld.move rfl rfl) ?_; refine WD.vl (i := 17) rfl (Yld.extract rfl rfl rfl) ?_; refine WD.vl (i := 18) rfl (Yld.extract rfl rfl rfl) ?_; refine WD.loud (i := 20) zK rfl rfl rfl ?_; refine Op.sA rfl rfl ty_sz_82 rfl rfl rfl rfl rfl ?_; refine WD.go (.inl rfl) (fun _ _ h => h.elim) ?_; refine WD.vl (i := 21) rfl (Yld.assign rfl rfl) ?_; refine WD.done zK ?_; refine WP.sub [(0, _), (3, _), (4, _), (5, _), (6, _), (65, _)] ?_ ⟨rfl, rfl, rfl, rfl, rfl, rfl, trivial⟩
    exact WP.meet (⟨b6, e, hn', hp', x2, J3, Ll2⟩ : AqX) ⟨hJ3, he, hap, hno, hl2⟩ ⟨rfl, rfl, rfl, rfl, trivial⟩ rfl zA
  ·rintro ⟨b6, e, hn', hp', x2, J3, Ll2⟩ ⟨hJ3, he, hap, hno, hl2⟩; dsimp only at hJ3 he hap hno hl2 ⊢; have hJ13 := Imm.le_trans hJ2 hJ3; have hmm3 := hmm.mono hJ3; have hnF : RNodes J3 (.slice An z.c.ent.nodes.length cn) z.c.ent.nodes := hn.mono hJ13; have hwF := hw.mono (Imv.le hJ13)
   refine WP.seq (WP.seq ?_)
   refine WP.region [0] rfl ?_; refine WP.mv rfl rfl ?_; refine WP.nil (WP.next (WP.block (WP.seq ?_)))
   refine WP.region [0, 1] rfl ?_; refine WP.split rfl rfl rfl rfl (Yld.eql rfl rfl rfl) (fun h100 => ?_) (fun h100 => ?_)
   ·obtain ⟨rfl, rfl⟩ := hno h100
    refine WP.mv rfl rfl ?_; refine WP.nil ?_; refine WP.sub [(0, _), (3, _), (5, _), (6, _), (92, _), (93, _)] ?_ ⟨rfl, rfl, rfl, rfl, rfl, rfl, trivial⟩
    refine WP.next ?_; refine WP.condT rfl ?_; refine WP.seq ?_; refine WP.region [0, 1, 2, 3, 4, 5] rfl ?_; refine WP.mv rfl rfl ?_; refine WP.vl rfl (Yld.fieldAddr rfl ty_fd_82_0 rfl) ?_; refine WP.vl rfl (Yld.ld rfl ty_sc_3 rfl rfl) ?_; refine WP.vl rfl (Yld.nilCheck rfl rfl) ?_; refine WP.vl rfl (Yld.fieldAddr rfl ty_fd_106_4 rfl) ?_; refine WP.loud rfl rfl ?_; refine Op.s1 rfl rfl ty_sz_3 rfl rfl rfl ?_; refine WP.nil ?_; refine WP.sub [(0, _), (3, _), (5, _), (6, _), (92, _), (93, _)] ?_ ⟨rfl, rfl, rfl, rfl, rfl, rfl, trivial⟩
    refine WP.next (WP.seq ?_)
    refine WP.region [0, 1, 2, 3, 4, 5, 6, 7] rfl ?_; refine WP.mv rfl rfl ?_; refine WP.vl rfl (Yld.nilCheck rfl rfl) ?_; refine WP.vl rfl (Yld.fieldAddr rfl ty_fd_106_0 rfl) ?_; refine WP.vl rfl (Yld.ld (v := .pointer (some ⟨m, 0, none⟩)) rfl ty_sc_55 rfl rfl) ?_; refine WP.mv rfl rfl ?_; refine WP.vl rfl (Yld.makeFunc rfl (vs := [_]) (us := []) rfl rfl) ?_; refine WP.loud rfl rfl ?_; refine Op.cl (cac_goes hmm3) rfl Tryz.func60 rfl rfl rfl rfl ?_; rintro v J Lm2 - ⟨rfl, rfl, hm2⟩
    try simp only [nf]
    refine WP.mv rfl rfl ?_; refine WP.nil ?_; refine WP.sub [(0, _), (2, _), (3, _), (5, _), (6, _), (92, _), (93, _)] ?_ ⟨rfl, rfl, rfl, rfl, rfl, rfl, rfl, trivial⟩
    refine WP.next (WP.ret ?_)
    refine WP.fn .ret (.inr rfl) (res1 rfl rfl) (Lm2 ++ ((f, row 106 (flV m ({ z.setR z.rc with no := x2.no }) (.slice Aq z.rc.nodes.length cq))) :: Ll2)) hJ13 ?_; have e1 : (z.setR z.rc).appends e x2.no = (false, ({ z.setR z.rc with no := x2.no } : Fl).go 4) := if_pos h100
    exact ⟨e, x2, _, Ll2, he, hap, by rw [e1], app1, by rw [e1]; exact .mk (z := ({ z.setR z.rc with no := x2.no } : Fl).go 4) (hrn.mono hJ13) hm2, hl2⟩
   ·refine WP.mv rfl rfl ?_
    refine WP.nil ?_; refine WP.sub [(0, _), (3, _), (5, _), (6, _), (92, _), (93, _)] ?_ ⟨rfl, rfl, rfl, rfl, rfl, rfl, trivial⟩
    refine WP.next ?_; refine WP.condF rfl ?_; refine WP.seq ?_; refine WP.region [0, 1] rfl ?_; refine WP.split rfl rfl rfl rfl (Yld.eql rfl rfl rfl) (fun h130 => ?_) (fun h130 => ?_)
    ·refine WP.mv rfl rfl ?_
     refine WP.nil ?_; refine WP.sub [(0, _), (3, _), (5, _), (6, _), (92, _), (93, _), (107, _)] ?_ ⟨rfl, rfl, rfl, rfl, rfl, rfl, rfl, trivial⟩
     refine WP.next ?_; refine WP.condT rfl ?_; refine WP.seq ?_; refine WP.region [0, 1, 2, 3, 4, 5, 6, 7] rfl ?_; refine WP.mv rfl rfl ?_; refine WP.vl rfl (Yld.nilCheck rfl rfl) ?_; refine WP.vl rfl (Yld.fieldAddr rfl ty_fd_106_0 rfl) ?_; refine WP.vl rfl (Yld.ld (v := .pointer (some ⟨m, 0, none⟩)) rfl ty_sc_55 rfl rfl) ?_; refine WP.mv rfl rfl ?_; refine WP.vl rfl (Yld.makeFunc rfl (vs := [_]) (us := []) rfl rfl) ?_; refine WP.loud rfl rfl ?_; refine Op.cl (cac_goes hmm3) rfl Tryz.func60 rfl rfl rfl rfl ?_; rintro v J Lm2 - ⟨rfl, rfl, hm2⟩
     try simp only [nf]
     refine WP.mv rfl rfl ?_; refine WP.nil ?_; refine WP.sub [(0, _), (2, _), (3, _), (5, _), (6, _), (92, _), (93, _), (107, _)] ?_ ⟨rfl, rfl, rfl, rfl, rfl, rfl, rfl, rfl, trivial⟩
     refine WP.next (WP.ret ?_)
     refine WP.fn .ret (.inr rfl) (res1 rfl rfl) (Lm2 ++ ((f, row 106 (flV m ((z.setR z.rc)) (.slice Aq z.rc.nodes.length cq))) :: Ll2)) hJ13 ?_; have e1 : (z.setR z.rc).appends e x2.no = (false, (z.setR z.rc).go 2) := (if_neg h100).trans (if_pos h130)
     exact ⟨e, x2, _, Ll2, he, hap, by rw [e1], app1, by rw [e1]; exact .mk (z := (z.setR z.rc).go 2) (hrn.mono hJ13) hm2, hl2⟩
    ·refine WP.mv rfl rfl ?_
     refine WP.nil ?_; refine WP.sub [(0, _), (3, _), (5, _), (6, _), (92, _), (93, _), (107, _)] ?_ ⟨rfl, rfl, rfl, rfl, rfl, rfl, rfl, trivial⟩
     refine WP.next ?_; refine WP.condF rfl ?_; refine WP.skip (WP.leave (WP.next (WP.seq ?_)))
     refine WQ.start Tryzmixed 6 zK _ rfl [6, 7] rfl ?_; refine WQ.val rfl rfl rfl (Yld.move rfl rfl) ?_; refine WQ.val rfl rfl rfl (Yld.nilCheck rfl rfl) ?_; refine WQ.val rfl rfl rfl (Yld.fieldAddr rfl ty_fd_106_0 rfl) ?_; refine WQ.val rfl rfl rfl (Yld.ld (v := .pointer (some ⟨m, 0, none⟩)) rfl ty_sc_55 rfl rfl) ?_; refine WQ.val rfl rfl rfl (Yld.ldg (vs := [.int .u64 (z.c.ent.tok : Int), .slice An z.c.ent.nodes.length cn, .int .i64 z.c.ent.place, .int .i64 z.c.ent.no, .int .i64 z.c.ent.low, .int .i64 z.c.ent.kept, .int .i64 z.c.ent.txn, .int .i64 z.c.ent.lead, .slice Aw z.c.ent.with_.length cw]) rfl ty_ag_50 rfl rfl rfl) ?_; refine WQ.val rfl rfl rfl (Yld.move rfl rfl) ?_; refine WQ.nil ?_; refine WP.loud rfl rfl ?_; refine Op.cl (cac_end hmm3 hnF hwF hs) rfl Tryz.func59 rfl rfl rfl rfl ?_; rintro v J Lm2 - ⟨rfl, rfl, hm2⟩
     try simp only [nf]
     refine WP.mv rfl rfl ?_; refine WP.nil ?_; refine WP.sub [(0, _), (2, _), (3, _), (5, _), (6, _), (92, _), (93, _), (107, _)] ?_ ⟨rfl, rfl, rfl, rfl, rfl, rfl, rfl, rfl, trivial⟩
     refine WP.next (WP.ret ?_)
     refine WP.fn .ret (.inr rfl) (res1 rfl rfl) (Lm2 ++ ((f, row 106 (flV m ((z.setR z.rc)) (.slice Aq z.rc.nodes.length cq))) :: Ll2)) hJ13 ?_; have e1 : (z.setR z.rc).appends e x2.no = (true, (z.setR z.rc).fin z.c.ent e) := (if_neg h100).trans (if_neg h130)
     exact ⟨e, x2, _, Ll2, he, hap, by rw [e1], app1, by rw [e1]; exact .mk (z := (z.setR z.rc).fin z.c.ent e) (hrn.mono hJ13) hm2, hl2⟩


theorem fl_ent2a {z : Fl} (h : z.r.prev = 0) : z.ent2 = { z.c.ent with place := z.hp, no := z.no, kept := z.c.ent.nodes.length, low := (z.hp : Int) } := by unfold Fl.ent2; rw [if_pos h]
theorem fl_ent2b {z : Fl} (h : ¬ z.r.prev = 0) : z.ent2 = { z.c.ent with place := z.hp, no := z.no, kept := z.c.ent.nodes.length, low := z.c.ent.low } := by unfold Fl.ent2; rw [if_neg h]
def fl0 (p : Int) (b : Bool) : Fl := ⟨1, mc0 p, b, 0, 0, ⟨0, 0, []⟩, 0⟩
theorem fl_swaps {I : Imm} {f m s : Nat} {z : Fl} {Lf : Chunks} (hf : IsFl I f m s z Lf) {l t : Nat} {tb : Tb} {Lt : Chunks} (hst : I.blk s = some (row 88 [.pointer (some ⟨t, 0, none⟩), .pointer (some ⟨l, 0, none⟩)])) (hT : IsT I t tb Lt) (htk : tb.tok + 1 < 18446744073709551616) : Spec Tryz.prog 80 [.pointer (some ⟨f, 0, none⟩)] I (Lf ++ Lt) (fun v J L => ∃ r tb2 Lf2 Lt2, SwR tb z.c.page z.c.ent.tok z.ent2 r tb2 ∧ v = .bool (z.swaps r).1 ∧ L = Lf2 ++ Lt2 ∧ IsFl J f m s (z.swaps r).2 Lf2 ∧ IsT J t tb2 Lt2) := by
 cases hf with
 | @mk vr Lm hr hm =>
 cases hm with
 | @mk vn vw un uw hn hw hs on ow os =>
 obtain ⟨nvn, hn1, hn2⟩ := id hn.ex
 obtain ⟨An, cn, rfl, _⟩ := hn1.slice'
 obtain ⟨Aw, cw, rfl, _⟩ := hw.slice'
 obtain ⟨nvr, hr1, hr2⟩ := id hr.ex
 obtain ⟨Ar, cr, rfl, _⟩ := hr1.slice'
 refine Spec.of Tryz.func80 rfl Tryz.ntmps80 (Nat.le_of_ble_eq_true rfl) (fun F => ?_)
 try simp only [nf]
 dsimp only [argsEnv]
 refine WP.seq ?_; refine WP.region [0] rfl ?_; refine WP.mv rfl rfl ?_; refine WP.nil (WP.next (WP.seq ?_))
 refine WP.region [0, 1, 2, 3, 4, 5, 6, 7, 8] rfl ?_; refine WP.mv rfl rfl ?_; refine WP.vl rfl (Yld.nilCheck rfl rfl) ?_; refine WP.vl rfl (Yld.fieldAddr rfl ty_fd_106_0 rfl) ?_; refine WP.vl rfl (Yld.ld (v := .pointer (some ⟨m, 0, none⟩)) rfl ty_sc_55 rfl rfl) ?_; refine WP.vl rfl (Yld.nilCheck rfl rfl) ?_; refine WP.vl rfl (Yld.fieldAddr rfl ty_fd_110_3 rfl) ?_; refine WP.vl rfl (Yld.ldg (vs := [.int .u64 (z.c.ent.tok : Int), .slice An z.c.ent.nodes.length cn, .int .i64 z.c.ent.place, .int .i64 z.c.ent.no, .int .i64 z.c.ent.low, .int .i64 z.c.ent.kept, .int .i64 z.c.ent.txn, .int .i64 z.c.ent.lead, .slice Aw z.c.ent.with_.length cw]) rfl ty_ag_50 rfl rfl rfl) ?_; refine WP.loud rfl rfl ?_; refine Op.alloc rfl rfl rfl ty_zr_50 (fun b3 => ?_)
 refine WP.loud rfl rfl ?_; refine Op.sA rfl rfl ty_sz_50 rfl rfl rfl rfl rfl ?_; refine WP.nil ?_; refine WP.sub [(0, _), (2, _), (3, _)] ?_ ⟨rfl, rfl, rfl, trivial⟩
 refine WP.next (WP.seq ?_)
 refine WD.start Tryzmixed 13 (fun c o => c = b3 ∧ o = row 50 [.int .u64 (z.c.ent.tok : Int), .slice An z.c.ent.nodes.length cn, .int .i64 z.c.ent.place, .int .i64 z.c.ent.no, .int .i64 z.c.ent.low, .int .i64 z.c.ent.kept, .int .i64 z.c.ent.txn, .int .i64 z.c.ent.lead, .slice Aw z.c.ent.with_.length cw]) (fun c o => c = f ∧ o = row 106 (flV m z (.slice Ar z.r.nodes.length cr))) (by rintro _ _ ⟨rfl, rfl⟩; exact zM) (by rintro _ _ ⟨rfl, rfl⟩; exact zM) 18 [false, false, false, false, false, false, false, false, false, false, false, false, false, false, false, false, false, false] rfl rfl ?_; refine WD.vl (i := 0) rfl (Yld.move rfl rfl) ?_; refine WD.vl (i := 1) rfl (Yld.nilCheck rfl rfl) ?_; refine WD.vl (i := 2) rfl (Yld.fieldAddr rfl ty_fd_106_2 rfl) ?_; refine WD.vl (i := 3) rfl (Yld.fieldAddr rfl ty_fd_82_1 rfl) ?_; refine WD.val1 (i := 4) rfl rfl rfl rfl zK rfl zK (Yld.load (v := .int .i64 (z.hp : Int)) rfl ty_sc_3 rfl (.inr ⟨rfl, rfl⟩) rfl) ?_; refine WD.vl (i := 5) rfl (Yld.move rfl rfl) ?_; refine WD.vl (i := 6) rfl (Yld.nilCheck rfl rfl) ?_; refine WD.vl (i := 7) rfl (Yld.fieldAddr rfl ty_fd_106_4 rfl) ?_; refine WD.vl (i := 8) rfl (Yld.load (v := .int .i64 (z.no : Int)) rfl ty_sc_3 rfl ⟨rfl, rfl⟩ rfl) ?_; refine WD.vl (i := 9) rfl (Yld.fieldAddr rfl ty_fd_50_1 rfl) ?_; refine WD.val1 (i := 10) rfl rfl rfl rfl zK rfl zK (Yld.load (v := .slice An z.c.ent.nodes.length cn) rfl ty_sc_45 rfl (.inl ⟨rfl, rfl⟩) rfl) ?_; refine WD.vl (i := 11) rfl (Yld.len rfl ty_sl_45 rfl) ?_
 refine WD.vl (i := 12) rfl (Yld.fieldAddr rfl ty_fd_50_2 rfl) ?_; refine WD.loud (i := 13) zK rfl rfl rfl ?_; refine Op.s1 rfl rfl ty_sz_3 rfl rfl rfl ?_; refine WD.go (.inl rfl) (by rintro _ _ ⟨rfl, rfl⟩; exact zM) ?_; refine WD.vl (i := 14) rfl (Yld.fieldAddr rfl ty_fd_50_3 rfl) ?_; refine WD.loud (i := 15) zK rfl rfl rfl ?_; refine Op.s1 rfl rfl ty_sz_3 rfl rfl rfl ?_; refine WD.go (.inl rfl) (by rintro _ _ ⟨rfl, rfl⟩; exact zM) ?_; refine WD.vl (i := 16) rfl (Yld.fieldAddr rfl ty_fd_50_5 rfl) ?_; refine WD.loud (i := 17) zK rfl rfl rfl ?_; refine Op.s1 rfl rfl ty_sz_3 rfl rfl rfl ?_; refine WD.go (.inl rfl) (by rintro _ _ ⟨rfl, rfl⟩; exact zM) ?_; refine WD.done zK ?_; refine WP.sub [(0, _), (2, _), (3, _)] ?_ ⟨rfl, rfl, rfl, trivial⟩
 refine WP.next (WP.seq (WP.seq ?_))
 refine WP.region [0, 1, 2, 3, 4, 5] rfl ?_; refine WP.mv rfl rfl ?_; refine WP.vl rfl (Yld.nilCheck rfl rfl) ?_; refine WP.vl rfl (Yld.fieldAddr rfl ty_fd_106_3 rfl) ?_; refine WP.vl rfl (Yld.fieldAddr rfl ty_fd_104_1 rfl) ?_; refine WP.vl rfl (Yld.ld (v := .int .i64 z.r.prev) rfl ty_sc_3 rfl rfl) ?_; refine WP.split rfl rfl rfl rfl (Yld.eql rfl rfl rfl) (fun h35 => ?_) (fun h35 => ?_)
 ·refine WP.nil ?_
  refine WP.sub [(0, _), (2, _), (3, _), (31, _)] ?_ ⟨rfl, rfl, rfl, rfl, trivial⟩
  refine WP.next ?_; refine WP.condT rfl ?_; refine WP.region [0, 1, 2, 3] rfl ?_; refine WP.vl rfl (Yld.fieldAddr rfl ty_fd_50_2 rfl) ?_; refine WP.vl rfl (Yld.ld (v := .int .i64 (z.hp : Int)) rfl ty_sc_3 rfl rfl) ?_; refine WP.vl rfl (Yld.fieldAddr rfl ty_fd_50_4 rfl) ?_; refine WP.loud rfl rfl ?_; refine Op.s1 rfl rfl ty_sz_3 rfl rfl rfl ?_; refine WP.nil ?_; refine WP.sub [(0, _), (2, _), (3, _), (31, _)] ?_ ⟨rfl, rfl, rfl, rfl, trivial⟩
  refine WP.next (WP.seq ?_)
  refine WQ.start Tryzmixed 7 zK _ rfl [7, 8] rfl ?_; refine WQ.val rfl rfl rfl (Yld.move rfl rfl) ?_; refine WQ.val rfl rfl rfl (Yld.nilCheck rfl rfl) ?_; refine WQ.val rfl rfl rfl (Yld.fieldAddr rfl ty_fd_106_0 rfl) ?_; refine WQ.val rfl rfl rfl (Yld.ld (v := .pointer (some ⟨m, 0, none⟩)) rfl ty_sc_55 rfl rfl) ?_; refine WQ.val rfl rfl rfl (Yld.ldg (vs := [.int .u64 (({ z.c.ent with place := z.hp, no := z.no, kept := z.c.ent.nodes.length, low := (z.hp : Int) } : Ent).tok : Int), .slice An z.c.ent.nodes.length cn, .int .i64 ({ z.c.ent with place := z.hp, no := z.no, kept := z.c.ent.nodes.length, low := (z.hp : Int) } : Ent).place, .int .i64 ({ z.c.ent with place := z.hp, no := z.no, kept := z.c.ent.nodes.length, low := (z.hp : Int) } : Ent).no, .int .i64 ({ z.c.ent with place := z.hp, no := z.no, kept := z.c.ent.nodes.length, low := (z.hp : Int) } : Ent).low, .int .i64 ({ z.c.ent with place := z.hp, no := z.no, kept := z.c.ent.nodes.length, low := (z.hp : Int) } : Ent).kept, .int .i64 ({ z.c.ent with place := z.hp, no := z.no, kept := z.c.ent.nodes.length, low := (z.hp : Int) } : Ent).txn, .int .i64 ({ z.c.ent with place := z.hp, no := z.no, kept := z.c.ent.nodes.length, low := (z.hp : Int) } : Ent).lead, .slice Aw z.c.ent.with_.length cw]) rfl ty_ag_50 rfl rfl rfl) ?_; refine WQ.val rfl rfl rfl (Yld.move rfl rfl) ?_; refine WQ.val rfl rfl rfl (Yld.makeFunc rfl (vs := [_]) (us := []) rfl rfl) ?_; refine WQ.nil ?_; refine WP.loud rfl rfl ?_; refine Op.cl (cac_swap (IsMc.mk hn hw hs on ow os : IsMc I m s (flN f z.at_) z.c _) (x := ({ z.c.ent with place := z.hp, no := z.no, kept := z.c.ent.nodes.length, low := (z.hp : Int) } : Ent)) hn hw ⟨hs.1, hs.2, hs.3⟩ hst hT htk) rfl Tryz.func75 rfl rfl rfl rfl ?_
  rintro v J2 L57 hJ2 ⟨r, tb2, Lm2, Lt2, hsw, rfl, hT2, hor⟩
  try simp only [nf]
  try simp only [nf]
  rw [← fl_ent2a h35] at hsw hor
  refine WP.mv rfl rfl ?_; refine WP.nil ?_; refine WP.sub [(0, _), (2, _), (3, _), (31, _)] ?_ ⟨rfl, rfl, rfl, rfl, trivial⟩
  refine WP.next (WP.ret ?_)
  refine WP.fn .ret (.inr rfl) (res1 rfl rfl) (Lm2 ++ ((f, row 106 (flV m (z) (.slice Ar z.r.nodes.length cr))) :: Lt2)) hJ2 ?_; refine ⟨r, tb2, _, Lt2, hsw, ?_, app1, ?_, hT2⟩
  ·rcases hor with ⟨h5, rfl, _⟩ | ⟨h5, rfl, _⟩; rw [show z.swaps r = (false, z.go 1) from if_pos h5]; rw [show z.swaps r = (true, z.fin z.ent2 r) from if_neg h5]
  ·rcases hor with ⟨h5, _, hm2⟩ | ⟨h5, _, hm2⟩; (rw [show z.swaps r = (false, z.go 1) from if_pos h5]; exact .mk (z := z.go 1) (hr.mono hJ2) hm2); (rw [show z.swaps r = (true, z.fin z.ent2 r) from if_neg h5]; exact .mk (z := z.fin z.ent2 r) (hr.mono hJ2) hm2)
 ·refine WP.nil ?_
  refine WP.sub [(0, _), (2, _), (3, _), (31, _)] ?_ ⟨rfl, rfl, rfl, rfl, trivial⟩
  refine WP.next ?_; refine WP.condF rfl ?_; refine WP.skip (WP.next (WP.seq ?_))
  refine WQ.start Tryzmixed 7 zK _ rfl [7, 8] rfl ?_; refine WQ.val rfl rfl rfl (Yld.move rfl rfl) ?_; refine WQ.val rfl rfl rfl (Yld.nilCheck rfl rfl) ?_; refine WQ.val rfl rfl rfl (Yld.fieldAddr rfl ty_fd_106_0 rfl) ?_; refine WQ.val rfl rfl rfl (Yld.ld (v := .pointer (some ⟨m, 0, none⟩)) rfl ty_sc_55 rfl rfl) ?_; refine WQ.val rfl rfl rfl (Yld.ldg (vs := [.int .u64 (({ z.c.ent with place := z.hp, no := z.no, kept := z.c.ent.nodes.length, low := z.c.ent.low } : Ent).tok : Int), .slice An z.c.ent.nodes.length cn, .int .i64 ({ z.c.ent with place := z.hp, no := z.no, kept := z.c.ent.nodes.length, low := z.c.ent.low } : Ent).place, .int .i64 ({ z.c.ent with place := z.hp, no := z.no, kept := z.c.ent.nodes.length, low := z.c.ent.low } : Ent).no, .int .i64 ({ z.c.ent with place := z.hp, no := z.no, kept := z.c.ent.nodes.length, low := z.c.ent.low } : Ent).low, .int .i64 ({ z.c.ent with place := z.hp, no := z.no, kept := z.c.ent.nodes.length, low := z.c.ent.low } : Ent).kept, .int .i64 ({ z.c.ent with place := z.hp, no := z.no, kept := z.c.ent.nodes.length, low := z.c.ent.low } : Ent).txn, .int .i64 ({ z.c.ent with place := z.hp, no := z.no, kept := z.c.ent.nodes.length, low := z.c.ent.low } : Ent).lead, .slice Aw z.c.ent.with_.length cw]) rfl ty_ag_50 rfl rfl rfl) ?_; refine WQ.val rfl rfl rfl (Yld.move rfl rfl) ?_; refine WQ.val rfl rfl rfl (Yld.makeFunc rfl (vs := [_]) (us := []) rfl rfl) ?_; refine WQ.nil ?_; refine WP.loud rfl rfl ?_; refine Op.cl (cac_swap (IsMc.mk hn hw hs on ow os : IsMc I m s (flN f z.at_) z.c _) (x := ({ z.c.ent with place := z.hp, no := z.no, kept := z.c.ent.nodes.length, low := z.c.ent.low } : Ent)) hn hw ⟨hs.1, hs.2, hs.3⟩ hst hT htk) rfl Tryz.func75 rfl rfl rfl rfl ?_
  rintro v J2 L57 hJ2 ⟨r, tb2, Lm2, Lt2, hsw, rfl, hT2, hor⟩
  try simp only [nf]
  try simp only [nf]
  rw [← fl_ent2b h35] at hsw hor
  refine WP.mv rfl rfl ?_; refine WP.nil ?_; refine WP.sub [(0, _), (2, _), (3, _), (31, _)] ?_ ⟨rfl, rfl, rfl, rfl, trivial⟩
  refine WP.next (WP.ret ?_)
  refine WP.fn .ret (.inr rfl) (res1 rfl rfl) (Lm2 ++ ((f, row 106 (flV m (z) (.slice Ar z.r.nodes.length cr))) :: Lt2)) hJ2 ?_; refine ⟨r, tb2, _, Lt2, hsw, ?_, app1, ?_, hT2⟩
  ·rcases hor with ⟨h5, rfl, _⟩ | ⟨h5, rfl, _⟩; rw [show z.swaps r = (false, z.go 1) from if_pos h5]; rw [show z.swaps r = (true, z.fin z.ent2 r) from if_neg h5]
  ·rcases hor with ⟨h5, _, hm2⟩ | ⟨h5, _, hm2⟩; (rw [show z.swaps r = (false, z.go 1) from if_pos h5]; exact .mk (z := z.go 1) (hr.mono hJ2) hm2); (rw [show z.swaps r = (true, z.fin z.ent2 r) from if_neg h5]; exact .mk (z := z.fin z.ent2 r) (hr.mono hJ2) hm2)

theorem cac_NewFlush {I : Imm} {s : Nat} {p : Int} {b : Bool} : Spec Tryz.prog 14 [.pointer (some ⟨s, 0, none⟩), .int .i64 p, .bool b] I [] (fun v J L => I = J ∧ ∃ m f, v = .pointer (some ⟨m, 0, none⟩) ∧ IsFl J f m s (fl0 p b) L) := by
 refine Spec.of Tryz.func14 rfl Tryz.ntmps14 (Nat.le_of_ble_eq_true rfl) (fun F => ?_)
 try simp only [nf]
 dsimp only [argsEnv]
 refine WP.seq ?_; refine WP.region [0] rfl ?_; refine WP.mv rfl rfl ?_; refine WP.nil (WP.next (WP.seq ?_))
 refine WP.region [0, 1, 2, 3, 4, 5, 6] rfl ?_; iterate 2 refine WP.mv rfl rfl ?_
 refine WP.loud rfl rfl ?_; refine Op.cl cac_machine rfl Tryz.func39 rfl rfl rfl rfl ?_; rintro v J L1 - ⟨rfl, m, rfl, rfl⟩
 try simp only [nf]
 refine WP.mv rfl rfl ?_; refine WP.vl rfl (Yld.buildS (pl := [(0, 0, 1), (1, 1, 1)]) rfl ty_zr_106 ty_zd_106 zK rfl (vs := [_, _]) rfl (segs := [(0, [_]), (1, [_])]) rfl rfl zS) ?_; refine WP.loud rfl rfl ?_; refine Op.box rfl rfl rfl rfl rfl (fun f => ?_)
 refine WP.mv rfl rfl ?_; refine WP.nil ?_; refine WP.sub [(0, _), (1, _), (2, _), (6, _), (7, _)] ?_ ⟨rfl, rfl, rfl, rfl, rfl, trivial⟩
 refine WP.next (WP.seq ?_)
 refine WP.region [0, 1, 2, 3, 4, 5, 6, 7, 8, 9] rfl ?_; refine WP.mv rfl rfl ?_; refine WP.vl rfl (Yld.nilCheck rfl rfl) ?_; refine WP.vl rfl (Yld.fieldAddr rfl ty_fd_106_0 rfl) ?_; refine WP.vl rfl (Yld.ld (v := .pointer (some ⟨m, 0, none⟩)) rfl ty_sc_55 rfl rfl) ?_; refine WP.mv rfl rfl ?_; refine WP.vl rfl (Yld.makeFunc rfl (vs := [_]) (us := []) rfl rfl) ?_; refine WP.vl rfl (Yld.nilCheck rfl rfl) ?_; refine WP.vl rfl (Yld.fieldAddr rfl ty_fd_110_1 rfl) ?_; refine WP.vl rfl (Yld.fieldAddr rfl ty_fd_108_0 rfl) ?_; refine WP.loud rfl rfl ?_; refine Op.s1 rfl rfl ty_sz_23 rfl rfl rfl ?_; refine WP.nil ?_; refine WP.sub [(0, _), (1, _), (2, _), (6, _), (7, _)] ?_ ⟨rfl, rfl, rfl, rfl, rfl, trivial⟩
 refine WP.next (WP.seq ?_)
 refine WP.region [0, 1, 2, 3, 4] rfl ?_; refine WP.mv rfl rfl ?_; refine WP.vl rfl (Yld.nilCheck rfl rfl) ?_; refine WP.vl rfl (Yld.fieldAddr rfl ty_fd_106_0 rfl) ?_; refine WP.vl rfl (Yld.ld (v := .pointer (some ⟨m, 0, none⟩)) rfl ty_sc_55 rfl rfl) ?_; refine WP.mv rfl rfl ?_; refine WP.nil ?_; refine WP.sub [(0, _), (1, _), (2, _), (6, _), (7, _)] ?_ ⟨rfl, rfl, rfl, rfl, rfl, trivial⟩
 refine WP.next (WP.ret ?_)
 refine WP.fn .ret (.inr rfl) (res1 rfl rfl) [(m, row 110 (mcV s (flN f 1) (mc0 p) (.slice none 0 0) (.slice none 0 0) (.slice none 0 0) (.slice none 0 0))), (f, row 106 (flV m (fl0 p b) (.slice none 0 0)))] (Imm.le_refl _) ?_; exact ⟨rfl, m, f, rfl, .mk (z := fl0 p b) (Lm := [_]) (RNodes.nil _) (IsMc.zero _)⟩

theorem log_NewRead0 {I : Imm} {l p : Nat} : Spec Tryz.prog 81 [.pointer (some ⟨l, 0, none⟩), .int .i64 (p : Int)] I [] (fun v J L' => I = J ∧ ∃ r, v = .pointer (some ⟨r, 0, none⟩) ∧ L' = [(r, row 207 [.pointer (some ⟨l, 0, none⟩), .int .i64 (p : Int), .slice none 0 0, .bool false, .int .i64 0, .int .i64 0, .slice none 0 0, .int .i64 1])]) := by
 refine Spec.of Tryz.func81 rfl Tryz.ntmps81 (Nat.le_of_ble_eq_true rfl) (fun F => ?_)
 try simp only [nf]
 dsimp only [argsEnv]
 refine WP.seq ?_; refine WP.region [0] rfl ?_; refine WP.mv rfl rfl ?_; refine WP.nil (WP.next (WP.seq ?_))
 refine WP.region [0, 1, 2, 3, 4] rfl ?_; iterate 2 refine WP.mv rfl rfl ?_
 refine WP.vl rfl (Yld.buildS (pl := [(0, 0, 1), (1, 1, 1), (7, 7, 1)]) rfl ty_zr_207 ty_zd_207 zK rfl (vs := [_, _, _]) rfl (segs := [(0, [_]), (1, [_]), (7, [_])]) rfl rfl zS) ?_; refine WP.loud rfl rfl ?_; refine Op.box rfl rfl rfl rfl rfl (fun r => ?_)
 refine WP.mv rfl rfl ?_; refine WP.nil ?_; refine WP.sub [(0, _), (1, _), (4, _)] ?_ ⟨rfl, rfl, rfl, trivial⟩
 refine WP.next (WP.ret ?_)
 refine WP.fn .ret (.inr rfl) (res1 rfl rfl) [(r, row 207 [.pointer (some ⟨l, 0, none⟩), .int .i64 (p : Int), .slice none 0 0, .bool false, .int .i64 0, .int .i64 0, .slice none 0 0, .int .i64 1])] (Imm.le_refl _) ?_; exact ⟨rfl, r, rfl, rfl⟩

theorem read_Step_mem {I : Imm} {l s d n : Nat} {x : Lg} {y : Dk} {L : Chunks} (hl : IsLog I l s d n x y L) {r k : Nat} (hk : k < x.rs.length) (hlk : x.lo ≤ x.base + k) : Spec Tryz.prog 91 [.pointer (some ⟨r, 0, none⟩)] I ([(r, row 207 [.pointer (some ⟨l, 0, none⟩), .int .i64 (x.endP k : Int), .slice none 0 0, .bool false, .int .i64 0, .int .i64 0, .slice none 0 0, .int .i64 1])] ++ L) (fun v J L' => v = .bool true ∧ ∃ Lr2 L2, L' = Lr2 ++ L2 ∧ IsRead J r l (⟨x.endP k, [], true, ((x.base + k + 1 : Nat) : Int), x.rs[k].kind, x.rs[k].b, 0⟩ : Rd) Lr2 ∧ IsLog J l s d n x y L2) := by
 cases hl with
 | @mk bi ba oi oa li la Ld ok rk mi ma im am hd =>
 have hr := rk k hk
 have hrn : 0 < x.rs[k].n := kmany_pos _
 have hlook : aget la ((x.endP k : Nat) : Int) = some (.pointer (some ⟨x.rs[k].blk, 0, none⟩)) := am.at1 k hk hlk 0 hrn
 obtain ⟨Ab, cb, hvb, _, _, _⟩ := id hr.vb
 have hvr := hr.vb
 rw [hvb] at hvr
 refine Spec.of Tryz.func91 rfl Tryz.ntmps91 (Nat.le_of_ble_eq_true rfl) (fun F => ?_)
 try simp only [nf]
 dsimp only [argsEnv]
 refine WP.seq ?_; refine WP.region [0] rfl ?_; refine WP.mv rfl rfl ?_; refine WP.nil (WP.next (WP.seq (WP.seq ?_)))
 refine WP.region [0, 1, 2, 3] rfl ?_; refine WP.mv rfl rfl ?_; refine WP.vl rfl (Yld.nilCheck rfl rfl) ?_; refine WP.vl rfl (Yld.fieldAddr rfl ty_fd_207_3 rfl) ?_; refine WP.vl rfl (Yld.ld (v := .bool false) rfl ty_sc_4 rfl rfl) ?_; refine WP.nil ?_; refine WP.sub [(0, _), (2, _), (11, _)] ?_ ⟨rfl, rfl, rfl, trivial⟩
 refine WP.next ?_; refine WP.condF rfl ?_; refine WP.skip (WP.next (WP.seq (WP.seq ?_)))
 refine WQ.startAll Tryzmixed zK _ rfl ?_; refine WQ.val rfl rfl rfl (Yld.move rfl rfl) ?_; refine WQ.val rfl rfl rfl (Yld.nilCheck rfl rfl) ?_; refine WQ.val rfl rfl rfl (Yld.fieldAddr rfl ty_fd_207_0 rfl) ?_; refine WQ.val rfl rfl rfl (Yld.ld (v := .pointer (some ⟨l, 0, none⟩)) rfl ty_sc_30 rfl rfl) ?_; refine WQ.val rfl rfl rfl (Yld.nilCheck rfl rfl) ?_; refine WQ.val rfl rfl rfl (Yld.fieldAddr rfl ty_fd_136_4 rfl) ?_; refine WQ.val rfl rfl rfl (Yld.ld (v := .map (some ba)) rfl ty_sc_134 rfl rfl) ?_; refine WQ.val rfl rfl rfl (Yld.move rfl rfl) ?_; refine WQ.val rfl rfl rfl (Yld.nilCheck rfl rfl) ?_; refine WQ.val rfl rfl rfl (Yld.fieldAddr rfl ty_fd_207_1 rfl) ?_; refine WQ.val rfl rfl rfl (Yld.ld (v := .int .i64 (x.endP k : Int)) rfl ty_sc_3 rfl rfl) ?_; refine WQ.val rfl rfl rfl (Yld.lookupOk rfl ty_mp_134 ty_ez_197 rfl rfl zM ma) ?_; rw [hlook, Option.getD_some, Option.isSome_some]
 refine WQ.val rfl rfl rfl (Yld.move rfl rfl) ?_; iterate 2 refine WQ.val rfl rfl rfl (Yld.extract rfl rfl rfl) ?_
 iterate 2 refine WQ.val rfl rfl rfl (Yld.assign rfl rfl) ?_
 refine WQ.nil ?_; refine WP.sub [(0, _), (2, _), (3, _), (4, _), (11, _)] ?_ ⟨rfl, rfl, rfl, rfl, rfl, trivial⟩
 refine WP.next (WP.seq ?_)
 refine WQ.startAll Tryzmixed zK _ rfl ?_; iterate 2 refine WQ.val rfl rfl rfl (Yld.move rfl rfl) ?_
 refine WQ.valG rfl rfl rfl rfl rfl rfl (Yld.move rfl rfl) ?_; refine WQ.valG rfl rfl rfl rfl rfl rfl (Yld.nilCheck rfl rfl) ?_; refine WQ.valG rfl rfl rfl rfl rfl rfl (Yld.fieldAddr rfl ty_fd_207_2 rfl) ?_; refine WQ.valG rfl rfl rfl rfl rfl rfl (Yld.ld (v := .slice none 0 0) rfl ty_sc_198 rfl rfl) ?_; refine WQ.valG rfl rfl rfl rfl rfl rfl (Yld.len rfl ty_sl_198 rfl) ?_; refine WQ.valG rfl rfl rfl rfl rfl rfl (Yld.eql rfl rfl rfl true (decide_eq_true (by rfl))) ?_; refine WQ.val rfl rfl rfl (Yld.pickT rfl rfl rfl) ?_; refine WQ.val rfl rfl rfl (Yld.move rfl rfl) ?_; refine WQ.valG rfl rfl rfl rfl rfl rfl (Yld.move rfl rfl) ?_; refine WQ.valG rfl rfl rfl rfl rfl rfl (Yld.nilCheck rfl rfl) ?_; refine WQ.valG rfl rfl rfl rfl rfl rfl (Yld.fieldAddr rfl ty_fd_200_2 rfl) ?_; refine WQ.valG rfl rfl rfl rfl rfl rfl (Yld.load (v := .int .i64 (x.endP k : Int)) rfl ty_sc_3 rfl (There.i hr.hb) rfl) ?_; refine WQ.valG rfl rfl rfl rfl rfl rfl (Yld.move rfl rfl) ?_; refine WQ.valG rfl rfl rfl rfl rfl rfl (Yld.nilCheck rfl rfl) ?_; refine WQ.valG rfl rfl rfl rfl rfl rfl (Yld.fieldAddr rfl ty_fd_207_1 rfl) ?_; refine WQ.valG rfl rfl rfl rfl rfl rfl (Yld.ld (v := .int .i64 (x.endP k : Int)) rfl ty_sc_3 rfl rfl) ?_; refine WQ.valG rfl rfl rfl rfl rfl rfl (Yld.eql rfl rfl rfl true (decide_eq_true (by rfl))) ?_; refine WQ.val rfl rfl rfl (Yld.pickT rfl rfl rfl) ?_; refine WQ.nil ?_; refine WP.sub [(0, _), (2, _), (3, _), (4, _), (11, _), (46, _)] ?_ ⟨rfl, rfl, rfl, rfl, rfl, rfl, trivial⟩
 refine WP.next ?_; refine WP.condT rfl ?_; refine WP.seq ?_; refine WD.start Tryzmixed 13 (fun _ _ => False) (fun b o => I.blk b = some o) (fun _ _ h => h.elim) (fun b o h => There.i h) 16 [false, false, false, false, false, false, false, false, false, false, false, false, false, false, false, false] rfl rfl ?_; refine WD.vl (i := 0) rfl (Yld.move rfl rfl) ?_; refine WD.vl (i := 1) rfl (Yld.move rfl rfl) ?_; refine WD.vl (i := 2) rfl (Yld.nilCheck rfl rfl) ?_; refine WD.vl (i := 3) rfl (Yld.fieldAddr rfl ty_fd_200_0 rfl) ?_; refine WD.vl (i := 4) rfl (Yld.load (v := .int .i64 ((x.base + k + 1 : Nat) : Int)) rfl ty_sc_3 rfl hr.hb rfl) ?_; refine WD.vl (i := 5) rfl (Yld.move rfl rfl) ?_; refine WD.vl (i := 6) rfl (Yld.nilCheck rfl rfl) ?_; refine WD.vl (i := 7) rfl (Yld.fieldAddr rfl ty_fd_200_1 rfl) ?_; refine WD.vl (i := 8) rfl (Yld.load (v := .int .i64 x.rs[k].kind) rfl ty_sc_3 rfl hr.hb rfl) ?_; refine WD.vl (i := 9) rfl (Yld.move rfl rfl) ?_; refine WD.vl (i := 10) rfl (Yld.nilCheck rfl rfl) ?_; refine WD.vl (i := 11) rfl (Yld.fieldAddr rfl ty_fd_200_3 rfl) ?_; refine WD.vl (i := 12) rfl (Yld.load (v := .slice Ab x.rs[k].b.length cb) rfl ty_sc_47 rfl hr.hb (congrArg some hvb)) ?_; refine WD.loud (i := 13) zK rfl rfl rfl ?_; refine Op.cl (slices_Clone hvr (by have := hr.ok.len; simp only [kbody, List.length_cons] at this; omega)) rfl Tryz.func46 rfl rfl rfl rfl ?_; rintro v J Lc - ⟨rfl, hcn⟩
 try simp only [nf]
 obtain ⟨Ac, cc, rfl, _⟩ := hcn.slice
 refine WD.go (.inl rfl) (fun b o h => There.i h) ?_; refine WD.loud (i := 14) zK rfl rfl rfl ?_; refine Op.cl (read_end (l := l) (p := x.endP k)) rfl Tryz.func102 rfl rfl rfl rfl ?_; rintro v J L1 - ⟨rfl, rfl, rfl⟩
 try simp only [nf]
 refine WD.go (.inl rfl) (fun b o h => There.i h) ?_; refine WD.vl (i := 15) rfl (Yld.assign rfl rfl) ?_; refine WD.done zK ?_; refine WP.sub [(0, _), (2, _), (3, _), (4, _), (11, _), (46, _)] ?_ ⟨rfl, rfl, rfl, rfl, rfl, rfl, trivial⟩
 refine WP.shO hcn (fun J2 hJ2 hcb => ?_)
 refine WP.next (WP.ret ?_)
 refine WP.fn .ret (.inr rfl) (res1 rfl rfl) ([(r, row 207 [.pointer (some ⟨l, 0, none⟩), .int .i64 (x.endP k : Int), .slice none 0 0, .bool true, .int .i64 ((x.base + k + 1 : Nat) : Int), .int .i64 x.rs[k].kind, .slice Ac x.rs[k].b.length cc, .int .i64 0])] ++ ((l, row 136 (lgV d s bi ba x)) :: (bi, oi) :: (ba, oa) :: (s, row 130 (sgV d x.g)) :: Ld)) hJ2 ?_; exact ⟨rfl, _, _, rfl, .done (z := (⟨x.endP k, [], true, ((x.base + k + 1 : Nat) : Int), x.rs[k].kind, x.rs[k].b, 0⟩ : Rd)) rfl hcb, .mk ok (rk.mono hJ2) mi ma im am hd⟩

theorem fa_found {I : Imm} {f m s p : Nat} {vr vN vy nx vn vw un uw : Value} {z : Mc} {vb : Value} {b : List UInt8} (hb : SlRd (Im I) vb b.length 1 (bytesV b)) (hl : b.length ≤ 140737488355328) (hok : okP b) (hpg : (rdP b).1.page = z.page) (hpv : (rdP b).1.prev < (p : Int)) : Spec Tryz.prog 94 [.pointer (some ⟨f, 0, none⟩), .int .i64 2, vb] I [(m, row 110 (mcV s (nx) z (vn) (vw) (un) (uw))), (f, row 114 [.pointer (some ⟨m, 0, none⟩), vr, .int .i64 (p : Int), vN, vy])] (fun v J L => ∃ vq, v = .tuple #[vq, .int .i64 (rdP b).1.prev, .bool true] ∧ RNodes J vq (rdP b).1.nodes ∧ L = [(m, row 110 (mcV s (nx) z (vn) (vw) (un) (uw))), (f, row 114 [.pointer (some ⟨m, 0, none⟩), vr, .int .i64 (p : Int), vN, vy])]) := by
 obtain ⟨Ab, cb, rfl, _, _, _⟩ := id hb
 refine Spec.of Tryz.func94 rfl Tryz.ntmps94 (Nat.le_of_ble_eq_true rfl) (fun F => ?_)
 try simp only [nf]
 dsimp only [argsEnv]
 refine WP.seq ?_; refine WP.region [0, 1, 2] rfl ?_; iterate 3 refine WP.mv rfl rfl ?_
 refine WP.nil (WP.next (WP.seq (WP.seq ?_)))
 refine WP.region [0] rfl ?_; refine WP.mv rfl rfl ?_; refine WP.nil (WP.next (WP.block (WP.seq ?_)))
 refine WP.region [0, 1] rfl ?_; refine WP.vl rfl (Yld.eql rfl rfl rfl true (decide_eq_true (by rfl))) ?_; refine WP.mv rfl rfl ?_; refine WP.nil ?_; refine WP.sub [(0, _), (1, _), (2, _), (6, _), (7, _), (8, _), (15, _), (16, _)] ?_ ⟨rfl, rfl, rfl, rfl, rfl, rfl, rfl, rfl, trivial⟩
 refine WP.next ?_; refine WP.condT rfl ?_; refine WP.seq ?_; refine WP.region [0, 1, 2, 3, 4, 5, 6, 7] rfl ?_; refine WP.mv rfl rfl ?_; refine WP.loud rfl rfl ?_; refine Op.cl (txn_DecodePage hb hl) rfl Tryz.func106 rfl rfl rfl rfl ?_; rintro v J2 L3 hJ2 ⟨rfl, rr_, vq, e_, rfl, hrn, hor⟩
 try simp only [nf]
 obtain ⟨_, rfl, rfl⟩ := hor.resolve_right (fun h => h.1 hok)
 obtain ⟨nvq, hq1, hq2⟩ := id hrn.ex
 obtain ⟨Aq, cq, rfl, _⟩ := hq1.slice'
 refine WP.mv rfl rfl ?_; iterate 2 refine WP.vl rfl (Yld.extract rfl rfl rfl) ?_
 refine WP.loud rfl rfl ?_; refine Op.alloc rfl rfl rfl ty_zr_104 (fun b9 => ?_)
 refine WP.loud rfl rfl ?_; refine Op.sA rfl rfl ty_sz_104 rfl rfl rfl rfl rfl ?_; refine WP.mv rfl rfl ?_; refine WP.nil ?_; refine WP.sub [(0, _), (1, _), (2, _), (6, _), (7, _), (8, _), (9, _), (10, _), (15, _), (16, _)] ?_ ⟨rfl, rfl, rfl, rfl, rfl, rfl, rfl, rfl, rfl, rfl, trivial⟩
 refine WP.next (WP.seq ?_)
 refine WQ.startAll Tryzmixed zK _ rfl ?_; refine WQ.val rfl rfl rfl (Yld.fieldAddr rfl ty_fd_104_2 rfl) ?_; refine WQ.val rfl rfl rfl (Yld.ld (v := .slice Aq (rdP b).1.nodes.length cq) rfl ty_sc_45 rfl rfl) ?_; refine WQ.val rfl rfl rfl (Yld.fieldAddr rfl ty_fd_104_1 rfl) ?_; refine WQ.val rfl rfl rfl (Yld.ld (v := .int .i64 (rdP b).1.prev) rfl ty_sc_3 rfl rfl) ?_; refine WQ.val rfl rfl rfl (Yld.move rfl rfl) ?_; refine WQ.val rfl rfl rfl (Yld.eql rfl rfl rfl true (decide_eq_true (by rfl))) ?_; refine WQ.val rfl rfl rfl (Yld.move rfl rfl) ?_; refine WQ.valG rfl rfl rfl rfl rfl rfl (Yld.fieldAddr rfl ty_fd_104_0 rfl) ?_; refine WQ.valG rfl rfl rfl rfl rfl rfl (Yld.ld (v := .int .i64 (rdP b).1.page) rfl ty_sc_3 rfl rfl) ?_; refine WQ.valG rfl rfl rfl rfl rfl rfl (Yld.move rfl rfl) ?_; refine WQ.valG rfl rfl rfl rfl rfl rfl (Yld.nilCheck rfl rfl) ?_; refine WQ.valG rfl rfl rfl rfl rfl rfl (Yld.fieldAddr rfl ty_fd_114_0 rfl) ?_; refine WQ.valG rfl rfl rfl rfl rfl rfl (Yld.ld (v := .pointer (some ⟨m, 0, none⟩)) rfl ty_sc_55 rfl rfl) ?_; refine WQ.valG rfl rfl rfl rfl rfl rfl (Yld.nilCheck rfl rfl) ?_; refine WQ.valG rfl rfl rfl rfl rfl rfl (Yld.fieldAddr rfl ty_fd_110_2 rfl) ?_; refine WQ.valG rfl rfl rfl rfl rfl rfl (Yld.ld (v := .int .i64 z.page) rfl ty_sc_3 rfl rfl) ?_; refine WQ.valG rfl rfl rfl rfl rfl rfl (Yld.eql rfl rfl rfl true (decide_eq_true (by exact hpg))) ?_; refine WQ.val rfl rfl rfl (Yld.pickT rfl rfl rfl) ?_; refine WQ.val rfl rfl rfl (Yld.move rfl rfl) ?_; refine WQ.valG rfl rfl rfl rfl rfl rfl (Yld.fieldAddr rfl ty_fd_104_1 rfl) ?_
 refine WQ.valG rfl rfl rfl rfl rfl rfl (Yld.ld (v := .int .i64 (rdP b).1.prev) rfl ty_sc_3 rfl rfl) ?_; refine WQ.valG rfl rfl rfl rfl rfl rfl (Yld.move rfl rfl) ?_; refine WQ.valG rfl rfl rfl rfl rfl rfl (Yld.nilCheck rfl rfl) ?_; refine WQ.valG rfl rfl rfl rfl rfl rfl (Yld.fieldAddr rfl ty_fd_114_2 rfl) ?_; refine WQ.valG rfl rfl rfl rfl rfl rfl (Yld.ld (v := .int .i64 (p : Int)) rfl ty_sc_3 rfl rfl) ?_; refine WQ.valG rfl rfl rfl rfl rfl rfl (Yld.lss rfl rfl rfl true (decide_eq_true (by exact hpv))) ?_; refine WQ.val rfl rfl rfl (Yld.pickT rfl rfl rfl) ?_; iterate 3 refine WQ.val rfl rfl rfl (Yld.assign rfl rfl) ?_
 refine WQ.nil ?_; refine WP.sub [(0, _), (1, _), (2, _), (6, _), (7, _), (8, _), (9, _), (10, _), (15, _), (16, _)] ?_ ⟨rfl, rfl, rfl, rfl, rfl, rfl, rfl, rfl, rfl, rfl, trivial⟩
 refine WP.next (WP.ret ?_)
 refine WP.fn .ret (.inr rfl) (resT (rs := [.tmp 6, .tmp 7, .tmp 8]) (vs := [_, _, _]) rfl ⟨rfl, rfl, rfl, trivial⟩ rfl) [(m, row 110 (mcV s (nx) z (vn) (vw) (un) (uw))), (f, row 114 [.pointer (some ⟨m, 0, none⟩), vr, .int .i64 (p : Int), vN, vy])] hJ2 ?_; exact ⟨_, rfl, hrn, rfl⟩


end Go.Hp
