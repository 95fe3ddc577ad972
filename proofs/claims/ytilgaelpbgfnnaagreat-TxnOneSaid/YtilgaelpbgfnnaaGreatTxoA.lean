import Derived.Test.YtilgaelpbgfnnaaGreatTxhI
set_option linter.unusedVariables false
set_option linter.unusedSimpArgs false
namespace Go.Hp
open Go Go.Proofs

theorem log_Record0 {I : Imm} {l s d n : Nat} {x : Lg} {y : Dk} {L : Chunks} (hl : IsLog I l s d n x y L) {a : Int} (ha : ¬ ((x.lo : Int) < a ∧ a ≤ (x.no : Int))) : Spec Tryz.prog 56 [.pointer (some ⟨l, 0, none⟩), .int .i64 a] I L (fun v J L' => I = J ∧ v = .tuple #[.int .i64 0, .int .i64 0, .slice none 0 0, .bool false] ∧ IsLog J l s d n x y L') := by
 cases hl with
 | @mk bi ba oi oa li la Ld ok rk mi ma im am hd =>
 have hlook : aget li a = none := by rw [im.at_, if_neg ha]
 refine Spec.of Tryz.func56 rfl Tryz.ntmps56 (Nat.le_of_ble_eq_true rfl) (fun F => ?_)
 try simp only [nf]
 dsimp only [argsEnv]
 refine WP.seq ?_; refine WP.region [0, 1, 2, 3] rfl ?_; iterate 4 refine WP.mv rfl rfl ?_
 refine WP.nil (WP.next (WP.seq ?_))
 refine WP.region [0, 1, 2, 3, 4, 5, 6, 7, 8, 9, 10] rfl ?_; refine WP.mv rfl rfl ?_; refine WP.vl rfl (Yld.nilCheck rfl rfl) ?_; refine WP.vl rfl (Yld.fieldAddr rfl ty_fd_130_3 rfl) ?_; refine WP.vl rfl (Yld.ld (v := .map (some bi)) rfl ty_sc_128 rfl rfl) ?_; refine WP.mv rfl rfl ?_; refine WP.vl rfl (Yld.lookupOk rfl ty_mp_128 ty_ez_210 rfl rfl zM mi) ?_; rw [hlook, Option.getD_none, Option.isSome_none]
 refine WP.mv rfl rfl ?_; iterate 2 refine WP.vl rfl (Yld.extract rfl rfl rfl) ?_
 iterate 2 refine WP.mv rfl rfl ?_
 refine WP.nil ?_; refine WP.sub [(0, _), (1, _), (4, _), (5, _), (6, _), (7, _), (8, _), (9, _)] ?_ ⟨rfl, rfl, rfl, rfl, rfl, rfl, rfl, rfl, trivial⟩
 refine WP.next (WP.seq (WP.seq ?_))
 refine WP.region [0, 1] rfl ?_; refine WP.mv rfl rfl ?_; refine WP.vl rfl (Yld.not rfl rfl) ?_; refine WP.nil ?_; refine WP.sub [(0, _), (1, _), (4, _), (5, _), (6, _), (7, _), (8, _), (9, _), (20, _)] ?_ ⟨rfl, rfl, rfl, rfl, rfl, rfl, rfl, rfl, rfl, trivial⟩
 refine WP.next ?_; refine WP.condT rfl ?_; refine WP.seq ?_; refine WP.region [0, 1, 2, 3] rfl ?_; iterate 4 refine WP.mv rfl rfl ?_
 refine WP.nil (WP.next (WP.ret ?_))
 refine WP.fn .ret (.inr rfl) (resT (rs := [.tmp 4, .tmp 5, .tmp 6, .tmp 7]) (vs := [_, _, _, _]) rfl ⟨rfl, rfl, rfl, rfl, trivial⟩ rfl) ((l, row 130 (lgV d s bi ba x)) :: (bi, oi) :: (ba, oa) :: (s, row 180 (sgV d x.g)) :: Ld) (Imm.le_refl _) ?_; exact ⟨rfl, rfl, .mk ok rk mi ma im am hd⟩

theorem txn_with0 {I : Imm} {e : Ent} {vn vw : Value} (h1n : vn.oneCell' = true) (h1w : vw.oneCell' = true) : Spec Tryz.prog 181 [.agg ([.int .u64 (e.tok : Int), vn, .int .i64 e.place, .int .i64 e.no, .int .i64 e.low, .int .i64 e.kept, .int .i64 e.txn, .int .i64 e.lead, vw]).toArray, .slice none 0 0] I [] (fun v J L => I = J ∧ v = .agg ([.int .u64 (e.tok : Int), vn, .int .i64 e.place, .int .i64 e.no, .int .i64 e.low, .int .i64 e.kept, .int .i64 e.txn, .int .i64 e.lead, vw]).toArray ∧ L = []) := by
 refine Spec.of Tryz.func181 rfl Tryz.ntmps181 (Nat.le_of_ble_eq_true rfl) (fun F => ?_)
 try simp only [nf]
 dsimp only [argsEnv]
 refine WP.seq ?_; refine WP.region [0, 1] rfl ?_; refine WP.loud rfl rfl ?_; refine Op.box rfl rfl rfl rfl rfl (fun b2 => ?_)
 refine WP.loud rfl rfl ?_; refine Op.alloc rfl rfl rfl ty_zr_43 (fun b4 => ?_)
 refine WP.nil (WP.next (WP.seq (WP.seq ?_)))
 refine WP.region [0, 1, 2] rfl ?_; refine WP.mv rfl rfl ?_; refine WP.vl rfl (Yld.len rfl ty_sl_279 rfl) ?_; refine WP.mv rfl rfl ?_; refine WP.nil (WP.next (WP.block ?_))
 refine WP.loop (X := Unit) (fun _ : Unit => [(2, .pointer (some ⟨b2, 0, none⟩)), (4, .pointer (some ⟨b4, 0, none⟩)), (8, .int .i64 0), (9, .int .i64 0)]) (fun _ => I) (fun _ : Unit => (b2, row 43 [.int .u64 (e.tok : Int), vn, .int .i64 e.place, .int .i64 e.no, .int .i64 e.low, .int .i64 e.kept, .int .i64 e.txn, .int .i64 e.lead, vw]) :: (b4, row 43 [.int .u64 0, .slice none 0 0, .int .i64 0, .int .i64 0, .int .i64 0, .int .i64 0, .int .i64 0, .int .i64 0, .slice none 0 0]) :: F) (fun _ : Unit => True) (fun _ => 0) () trivial ⟨rfl, rfl, rfl, rfl, trivial⟩ rfl zA ?_; rintro _ -
 try dsimp only
 try simp only [nf]
 refine WP.seq ?_; refine WP.region [0] rfl ?_; refine WP.split rfl rfl rfl rfl (Yld.lss rfl rfl rfl) (fun hlt => ?_) (fun hlt => ?_)
 ·exfalso; omega
 ·refine WP.nil ?_
  refine WP.next (WP.seq ?_)
  refine WP.condF rfl ?_; refine WP.exit (WP.thenE (WP.thenE (WP.hit (WP.next (WP.seq ?_)))))
  refine WP.region [0, 1] rfl ?_; refine WP.vl rfl (Yld.lda rfl ty_ag_43 rfl rfl) ?_; refine WP.loud rfl rfl ?_; refine Op.sA rfl rfl ty_sz_43 rfl rfl rfl (by simp only [List.all_cons, List.all_nil, h1n, h1w]; rfl) rfl ?_; refine WP.nil ?_; refine WP.sub [(2, _), (4, _), (8, _), (9, _), (10, _)] ?_ ⟨rfl, rfl, rfl, rfl, rfl, trivial⟩
  refine WP.next (WP.ret ?_)
  refine WP.fn .ret (.inr rfl) (resC rfl ty_ag_43 rfl zM rfl) [] (Imm.le_refl _) ?_; exact ⟨rfl, rfl, rfl⟩


theorem txo_cells {arr : Array Value} {k : Nat} {r : Pr} {v : Value} (h : (arr.toList.drop k).take 3 = prV r v) : arr[k]? = some (.int .i64 r.page) ∧ arr[k + 1]? = some (.int .i64 r.prev) ∧ arr[k + 2]? = some v := by
 have h0 := take_cells h 0 _ rfl (by decide)
 have h1 := take_cells h 1 _ rfl (by decide)
 have h2 := take_cells h 2 _ rfl (by decide)
 rw [Array.getElem?_toList] at h0 h1 h2
 exact ⟨h0, h1, h2⟩
open Classical in
noncomputable def Hm.found (z : Hm) (r : Rc) : Bool × Hm := if r.kind = 3 ∧ okG r.b then (false, ({ z with page := (hdP (rdG r.b).1).page } : Hm).go 3) else (true, z.fin 0)
def Hm.asks (tb : Tb) (no : Int) (z : Hm) : Bool × Hm := match tb.get z.page with
 | none => (true, z.fin 0)
 | some e => if e.2.txn = no then (false, z.leads e.2) else (false, (z.setC { z.c with ent := e.2 }).go 8)
def Hm.bars (z : Hm) (r : Int) : Bool × Hm := if r = 5 then (false, z.go 3) else (true, z.fin 0)
theorem txo_finds0 {I : Imm} {g l t T : Nat} {no : Int} {z : Hm} {Lgr : Chunks} (hg : IsHl I g l t T [.int .i64 no] z Lgr) {s d n : Nat} {x : Lg} {y : Dk} {Ll : Chunks} (hlg : IsLog I l s d n x y Ll) (ha : ¬ ((x.lo : Int) < no ∧ no ≤ (x.no : Int))) : Spec Tryz.prog 54 [.pointer (some ⟨g, 0, none⟩)] I (Lgr ++ Ll) (fun v J L => v = .bool true ∧ ∃ Lg2 Ll2, L = Lg2 ++ Ll2 ∧ IsHl J g l t T [.int .i64 no] (z.fin 0) Lg2 ∧ IsLog J l s d n x y Ll2) := by
 cases hg with
 | @mk vc vn vw hc hn hw hs =>
 obtain ⟨Ac, cc, rfl, hcc, _, _⟩ := id hc
 obtain ⟨nvn, hn1, hn2⟩ := id hn.ex
 obtain ⟨An, cn, rfl, _⟩ := hn1.slice'
 obtain ⟨Aw, cw, rfl, _⟩ := hw.slice'
 refine Spec.of Tryz.func54 rfl Tryz.ntmps54 (Nat.le_of_ble_eq_true rfl) (fun F => ?_)
 try simp only [nf]
 dsimp only [argsEnv]
 refine WP.seq ?_; refine WP.region [0] rfl ?_; refine WP.mv rfl rfl ?_; refine WP.nil (WP.next (WP.seq ?_))
 refine WD.start Tryzmixed 11 (fun c o => c = g ∧ o = row T (cmV l t (hnextV g z.at_) (.func (.func 55) [.pointer (some ⟨g, 0, none⟩)].toArray [].toArray) z.c (.slice Ac z.c.clear.length cc) (.slice An z.c.ent.nodes.length cn) (.slice Aw z.c.ent.with_.length cw) (.int .i64 z.page :: [.int .i64 no]))) (fun _ _ => False) (by rintro _ _ ⟨rfl, rfl⟩; exact zM) (fun _ _ h => h.elim) 21 [false, false, false, false, false, false, false, false, false, false, false, false, false, false, false, false, false, false, false, false, false] rfl rfl ?_; refine WD.vl (i := 0) rfl (Yld.move rfl rfl) ?_; refine WD.vl (i := 1) rfl (Yld.nilCheck rfl rfl) ?_; refine WD.vl (i := 2) rfl (Yld.fieldAddr rfl ty_fd_74_0 rfl) ?_; refine WD.vl (i := 3) rfl (Yld.fieldAddr rfl ty_fd_72_0 rfl) ?_; refine WD.vl (i := 4) rfl (Yld.fieldAddr rfl ty_fd_58_0 rfl) ?_; refine WD.vl (i := 5) rfl (Yld.fieldAddr rfl ty_fd_54_0 rfl) ?_; refine WD.val1 (i := 6) rfl rfl rfl rfl zK rfl zK (Yld.load (v := .pointer (some ⟨l, 0, none⟩)) rfl ty_sc_31 rfl (.inl ⟨rfl, rfl⟩) rfl) ?_; refine WD.vl (i := 7) rfl (Yld.move rfl rfl) ?_; refine WD.vl (i := 8) rfl (Yld.nilCheck rfl rfl) ?_; refine WD.vl (i := 9) rfl (Yld.fieldAddr rfl ty_fd_74_1 rfl) ?_; refine WD.val1 (i := 10) rfl rfl rfl rfl zK rfl zK (Yld.load (v := .int .i64 no) rfl ty_sc_3 rfl (.inl ⟨rfl, rfl⟩) rfl) ?_; refine WD.loud (i := 11) zK rfl rfl rfl ?_; refine Op.cl (log_Record0 hlg ha) rfl Tryz.func56 rfl rfl rfl rfl ?_; rintro v J Ll2 - ⟨rfl, rfl, hlg2⟩
 try simp only [nf]
 refine WD.go (.inl rfl) (fun _ _ h => h.elim) ?_; refine WD.vl (i := 12) rfl (Yld.move rfl rfl) ?_; refine WD.vl (i := 13) rfl (Yld.extract rfl rfl rfl) ?_; refine WD.vl (i := 14) rfl (Yld.extract rfl rfl rfl) ?_; refine WD.vl (i := 15) rfl (Yld.extract rfl rfl rfl) ?_; refine WD.vl (i := 16) rfl (Yld.extract rfl rfl rfl) ?_; refine WD.vl (i := 17) rfl (Yld.assign rfl rfl) ?_; refine WD.vl (i := 18) rfl (Yld.assign rfl rfl) ?_; refine WD.vl (i := 19) rfl (Yld.assign rfl rfl) ?_; refine WD.vl (i := 20) rfl (Yld.assign rfl rfl) ?_; refine WD.done zK ?_; refine WP.sub [(0, _), (2, _), (3, _), (5, _), (6, _)] ?_ ⟨rfl, rfl, rfl, rfl, rfl, trivial⟩
 refine WP.next (WP.seq (WP.seq ?_))
 refine WP.region [0, 1, 2, 3, 4, 5] rfl ?_; refine WP.mv rfl rfl ?_; refine WP.vl rfl (Yld.not rfl rfl) ?_; refine WP.mv rfl rfl ?_; iterate 2 refine WP.passG rfl rfl rfl rfl rfl rfl rfl rfl ?_
 refine WP.vl rfl (Yld.pickT rfl rfl rfl) ?_; refine WP.nil ?_; refine WP.sub [(0, _), (2, _), (3, _), (5, _), (6, _), (31, _)] ?_ ⟨rfl, rfl, rfl, rfl, rfl, rfl, trivial⟩
 refine WP.next ?_; refine WP.condT rfl ?_; refine WP.seq ?_; refine WP.region [0, 1, 2, 3, 4, 5, 6] rfl ?_; refine WP.mv rfl rfl ?_; refine WP.vl rfl (Yld.nilCheck rfl rfl) ?_; refine WP.vl rfl (Yld.fieldAddr rfl ty_fd_74_0 rfl) ?_; refine WP.vl rfl (Yld.fieldAddr rfl ty_fd_72_0 rfl) ?_; refine WP.vl rfl (Yld.fieldAddr rfl ty_fd_58_0 rfl) ?_; refine WP.loud rfl rfl ?_; refine Op.cl (txn_end (b := g)) rfl Tryz.func110 rfl rfl rfl rfl ?_; rintro v J L1 - ⟨rfl, rfl, rfl⟩
 try simp only [nf]
 refine WP.mv rfl rfl ?_; refine WP.nil ?_; refine WP.sub [(0, _), (2, _), (3, _), (5, _), (6, _), (31, _)] ?_ ⟨rfl, rfl, rfl, rfl, rfl, rfl, trivial⟩
 refine WP.next (WP.ret ?_)
 refine WP.fn .ret (.inr rfl) (res1 rfl rfl) ([(g, row T (cmV l t (.nilFunc) (.func (.func 55) [.pointer (some ⟨g, 0, none⟩)].toArray [].toArray) ({ z.c with e := 0 } : Cm) (.slice Ac z.c.clear.length cc) (.slice An z.c.ent.nodes.length cn) (.slice Aw z.c.ent.with_.length cw) (.int .i64 z.page :: [.int .i64 no])))] ++ Ll2) (Imm.le_refl _) ?_; exact ⟨rfl, _, Ll2, rfl, .mk hc hn hw hs, hlg2⟩

theorem txo_finds1 {I : Imm} {g l t T : Nat} {z : Hm} {Lgr : Chunks} {s d n : Nat} {x : Lg} {y : Dk} {Ll : Chunks} {k : Nat} (hg : IsHl I g l t T [.int .i64 ((x.base + k + 1 : Nat) : Int)] z Lgr) (hlg : IsLog I l s d n x y Ll) (hk : k < x.rs.length) (hlk : x.lo ≤ x.base + k) (hrl : x.rs[k].b.length ≤ 1099511627776) : Spec Tryz.prog 54 [.pointer (some ⟨g, 0, none⟩)] I (Lgr ++ Ll) (fun v J L => v = .bool (z.found x.rs[k]).1 ∧ ∃ Lg2 Ll2, L = Lg2 ++ Ll2 ∧ IsHl J g l t T [.int .i64 ((x.base + k + 1 : Nat) : Int)] (z.found x.rs[k]).2 Lg2 ∧ IsLog J l s d n x y Ll2) := by
 cases hg with
 | @mk vc vn vw hc hn hw hs =>
 obtain ⟨Ac, cc, rfl, hcc, _, _⟩ := id hc
 obtain ⟨nvn, hn1, hn2⟩ := id hn.ex
 obtain ⟨An, cn, rfl, _⟩ := hn1.slice'
 obtain ⟨Aw, cw, rfl, _⟩ := hw.slice'
 refine Spec.of Tryz.func54 rfl Tryz.ntmps54 (Nat.le_of_ble_eq_true rfl) (fun F => ?_)
 try simp only [nf]
 dsimp only [argsEnv]
 refine WP.seq ?_; refine WP.region [0] rfl ?_; refine WP.mv rfl rfl ?_; refine WP.nil (WP.next (WP.seq ?_))
 refine WD.start Tryzmixed 11 (fun c o => c = g ∧ o = row T (cmV l t (hnextV g z.at_) (.func (.func 55) [.pointer (some ⟨g, 0, none⟩)].toArray [].toArray) z.c (.slice Ac z.c.clear.length cc) (.slice An z.c.ent.nodes.length cn) (.slice Aw z.c.ent.with_.length cw) (.int .i64 z.page :: [.int .i64 ((x.base + k + 1 : Nat) : Int)]))) (fun _ _ => False) (by rintro _ _ ⟨rfl, rfl⟩; exact zM) (fun _ _ h => h.elim) 21 [false, false, false, false, false, false, false, false, false, false, false, false, false, false, false, false, false, false, false, false, false] rfl rfl ?_; refine WD.vl (i := 0) rfl (Yld.move rfl rfl) ?_; refine WD.vl (i := 1) rfl (Yld.nilCheck rfl rfl) ?_; refine WD.vl (i := 2) rfl (Yld.fieldAddr rfl ty_fd_74_0 rfl) ?_; refine WD.vl (i := 3) rfl (Yld.fieldAddr rfl ty_fd_72_0 rfl) ?_; refine WD.vl (i := 4) rfl (Yld.fieldAddr rfl ty_fd_58_0 rfl) ?_; refine WD.vl (i := 5) rfl (Yld.fieldAddr rfl ty_fd_54_0 rfl) ?_; refine WD.val1 (i := 6) rfl rfl rfl rfl zK rfl zK (Yld.load (v := .pointer (some ⟨l, 0, none⟩)) rfl ty_sc_31 rfl (.inl ⟨rfl, rfl⟩) rfl) ?_; refine WD.vl (i := 7) rfl (Yld.move rfl rfl) ?_; refine WD.vl (i := 8) rfl (Yld.nilCheck rfl rfl) ?_; refine WD.vl (i := 9) rfl (Yld.fieldAddr rfl ty_fd_74_1 rfl) ?_; refine WD.val1 (i := 10) rfl rfl rfl rfl zK rfl zK (Yld.load (v := .int .i64 ((x.base + k + 1 : Nat) : Int)) rfl ty_sc_3 rfl (.inl ⟨rfl, rfl⟩) rfl) ?_; refine WD.loud (i := 11) zK rfl rfl rfl ?_; refine Op.cl (log_Record hlg hk hlk) rfl Tryz.func56 rfl rfl rfl rfl ?_
 rintro v J L11 - ⟨rfl, vb, Lc, rfl, hvb, rfl⟩
 try simp only [nf]
 obtain ⟨Avb, cvb, rfl, _⟩ := hvb.slice
 refine WD.go (.inl rfl) (fun _ _ h => h.elim) ?_; refine WD.vl (i := 12) rfl (Yld.move rfl rfl) ?_; refine WD.vl (i := 13) rfl (Yld.extract rfl rfl rfl) ?_; refine WD.vl (i := 14) rfl (Yld.extract rfl rfl rfl) ?_; refine WD.vl (i := 15) rfl (Yld.extract rfl rfl rfl) ?_; refine WD.vl (i := 16) rfl (Yld.extract rfl rfl rfl) ?_; refine WD.vl (i := 17) rfl (Yld.assign rfl rfl) ?_; refine WD.vl (i := 18) rfl (Yld.assign rfl rfl) ?_; refine WD.vl (i := 19) rfl (Yld.assign rfl rfl) ?_; refine WD.vl (i := 20) rfl (Yld.assign rfl rfl) ?_; refine WD.done zK ?_; refine WP.sub [(0, _), (2, _), (3, _), (5, _), (6, _)] ?_ ⟨rfl, rfl, rfl, rfl, rfl, trivial⟩
 refine WP.shO hvb (fun J2 hJ2 hb2 => ?_)
 refine WP.next (WP.seq (WP.seq ?_))
 refine WP.region [0, 1, 2, 3, 4, 5] rfl ?_; refine WP.mv rfl rfl ?_; refine WP.vl rfl (Yld.not rfl rfl) ?_; refine WP.mv rfl rfl ?_; refine WP.valG rfl rfl rfl rfl rfl rfl rfl (Yld.move rfl rfl) ?_; refine WP.splitG rfl rfl rfl rfl rfl rfl rfl (Yld.neq rfl rfl rfl) (fun h24 => ?_) (fun h24 => ?_)
 ·refine WP.vl rfl (Yld.pickF rfl rfl rfl) ?_
  refine WP.nil ?_; refine WP.sub [(0, _), (2, _), (3, _), (5, _), (6, _), (31, _)] ?_ ⟨rfl, rfl, rfl, rfl, rfl, rfl, trivial⟩
  refine WP.next ?_; refine WP.condT rfl ?_; refine WP.seq ?_; refine WP.region [0, 1, 2, 3, 4, 5, 6] rfl ?_; refine WP.mv rfl rfl ?_; refine WP.vl rfl (Yld.nilCheck rfl rfl) ?_; refine WP.vl rfl (Yld.fieldAddr rfl ty_fd_74_0 rfl) ?_; refine WP.vl rfl (Yld.fieldAddr rfl ty_fd_72_0 rfl) ?_; refine WP.vl rfl (Yld.fieldAddr rfl ty_fd_58_0 rfl) ?_; refine WP.loud rfl rfl ?_; refine Op.cl (txn_end (b := g)) rfl Tryz.func110 rfl rfl rfl rfl ?_; rintro v J L1 - ⟨rfl, rfl, rfl⟩
  try simp only [nf]
  refine WP.mv rfl rfl ?_; refine WP.nil ?_; refine WP.sub [(0, _), (2, _), (3, _), (5, _), (6, _), (31, _)] ?_ ⟨rfl, rfl, rfl, rfl, rfl, rfl, trivial⟩
  refine WP.next (WP.ret ?_)
  refine WP.fn .ret (.inr rfl) (res1 rfl rfl) ([(g, row T (cmV l t (.nilFunc) (.func (.func 55) [.pointer (some ⟨g, 0, none⟩)].toArray [].toArray) ({ z.c with e := 0 } : Cm) (.slice Ac z.c.clear.length cc) (.slice An z.c.ent.nodes.length cn) (.slice Aw z.c.ent.with_.length cw) (.int .i64 z.page :: [.int .i64 ((x.base + k + 1 : Nat) : Int)])))] ++ Ll) hJ2 ?_; have hJa := hJ2
  have e1 : z.found x.rs[k] = (true, z.fin 0) := if_neg (fun q => h24 q.1)
  rw [e1]; exact ⟨rfl, _, Ll, rfl, .mk (hc.mono fun b o q => hJa.2 b o q) (hn.mono hJa) (hw.mono (Imv.le hJa)) hs, hlg.mono hJa⟩
 ·refine WP.vl rfl (Yld.pickF rfl rfl rfl) ?_
  refine WP.nil ?_; refine WP.sub [(0, _), (2, _), (3, _), (5, _), (6, _), (31, _)] ?_ ⟨rfl, rfl, rfl, rfl, rfl, rfl, trivial⟩
  refine WP.next ?_; refine WP.condF rfl ?_; refine WP.skip (WP.next (WP.seq ?_))
  refine WP.region [0, 1, 2, 3, 4, 5, 6] rfl ?_; refine WP.mv rfl rfl ?_; refine WP.loud rfl rfl ?_; refine Op.cl (txn_DecodeGroup hb2 (by omega)) rfl Tryz.func36 rfl rfl rfl rfl ?_; rintro v J3 L4 hJ3 ⟨rfl, vm, ps, e, rfl, hps, hdg⟩
  try simp only [nf]
  obtain ⟨Am, cm, rfl, _, _, _⟩ := id hps.rd
  refine WP.mv rfl rfl ?_; iterate 2 refine WP.vl rfl (Yld.extract rfl rfl rfl) ?_
  iterate 2 refine WP.mv rfl rfl ?_
  refine WP.nil ?_; refine WP.sub [(0, _), (2, _), (3, _), (5, _), (6, _), (7, _), (8, _), (31, _)] ?_ ⟨rfl, rfl, rfl, rfl, rfl, rfl, rfl, rfl, trivial⟩
  refine WP.next (WP.seq (WP.seq ?_))
  refine WP.region [0, 1] rfl ?_; refine WP.mv rfl rfl ?_; refine WP.split rfl rfl rfl rfl (Yld.neq rfl rfl rfl) (fun h51 => ?_) (fun h51 => ?_)
  ·refine WP.nil ?_
   refine WP.sub [(0, _), (2, _), (3, _), (5, _), (6, _), (7, _), (8, _), (31, _), (44, _)] ?_ ⟨rfl, rfl, rfl, rfl, rfl, rfl, rfl, rfl, rfl, trivial⟩
   refine WP.next ?_; refine WP.condT rfl ?_; refine WP.seq ?_; refine WP.region [0, 1, 2, 3, 4, 5, 6] rfl ?_; refine WP.mv rfl rfl ?_; refine WP.vl rfl (Yld.nilCheck rfl rfl) ?_; refine WP.vl rfl (Yld.fieldAddr rfl ty_fd_74_0 rfl) ?_; refine WP.vl rfl (Yld.fieldAddr rfl ty_fd_72_0 rfl) ?_; refine WP.vl rfl (Yld.fieldAddr rfl ty_fd_58_0 rfl) ?_; refine WP.loud rfl rfl ?_; refine Op.cl (txn_end (b := g)) rfl Tryz.func110 rfl rfl rfl rfl ?_; rintro v J L1 - ⟨rfl, rfl, rfl⟩
   try simp only [nf]
   refine WP.mv rfl rfl ?_; refine WP.nil ?_; refine WP.sub [(0, _), (2, _), (3, _), (5, _), (6, _), (7, _), (8, _), (31, _), (44, _)] ?_ ⟨rfl, rfl, rfl, rfl, rfl, rfl, rfl, rfl, rfl, trivial⟩
   refine WP.next (WP.ret ?_)
   refine WP.fn .ret (.inr rfl) (res1 rfl rfl) ([(g, row T (cmV l t (.nilFunc) (.func (.func 55) [.pointer (some ⟨g, 0, none⟩)].toArray [].toArray) ({ z.c with e := 0 } : Cm) (.slice Ac z.c.clear.length cc) (.slice An z.c.ent.nodes.length cn) (.slice Aw z.c.ent.with_.length cw) (.int .i64 z.page :: [.int .i64 ((x.base + k + 1 : Nat) : Int)])))] ++ Ll) (Imm.le_trans hJ2 hJ3) ?_; have hJa := Imm.le_trans hJ2 hJ3
   have e1 : z.found x.rs[k] = (true, z.fin 0) := if_neg (fun q => by rcases hdg with ⟨_, h2, _⟩ | ⟨h2, _⟩; exact h51 h2; exact h2 q.2)
   rw [e1]; exact ⟨rfl, _, Ll, rfl, .mk (hc.mono fun b o q => hJa.2 b o q) (hn.mono hJa) (hw.mono (Imv.le hJa)) hs, hlg.mono hJa⟩
  ·obtain ⟨hok, _, hpe⟩ := hdg.resolve_right (fun h => by have := h.2.1; omega)
   have hp0 : 0 < ps.length := by rw [← prs_len, hpe]; exact hok.2.2.1
   obtain ⟨bl, kl, Tl, fl, arl, ea, hbl, hcl⟩ := hps.at_ hp0
   obtain ⟨hp1, _, _⟩ := txo_cells hcl
   have hph : ps[0].1 = hdP (rdG x.rs[k].b).1 := by rw [← hpe]; cases ps with | nil => exact absurd hp0 (Nat.lt_irrefl _) | cons a l => rfl
   rw [hph] at hp1
   refine WP.nil ?_; refine WP.sub [(0, _), (2, _), (3, _), (5, _), (6, _), (7, _), (8, _), (31, _), (44, _)] ?_ ⟨rfl, rfl, rfl, rfl, rfl, rfl, rfl, rfl, rfl, trivial⟩
   refine WP.next ?_; refine WP.condF rfl ?_; refine WP.skip (WP.next (WP.seq ?_))
   refine WP.region [0, 1, 2, 3, 4, 5, 6, 7, 8] rfl ?_; iterate 2 refine WP.mv rfl rfl ?_
   refine WP.vl rfl (Yld.indexAddr (i := 0) rfl ty_sl_52 (congrArg (fun a => some (Value.slice a ps.length cm)) ea) rfl hp0) ?_; refine WP.vl rfl (Yld.fieldAddr rfl ty_fd_51_0 rfl) ?_; refine WP.vl rfl (Yld.loadC (v := .int .i64 (hdP (rdG x.rs[k].b).1).page) rfl ty_sc_3 rfl (There.i hbl) hp1) ?_; refine WP.vl rfl (Yld.nilCheck rfl rfl) ?_; refine WP.vl rfl (Yld.fieldAddr rfl ty_fd_74_0 rfl) ?_; refine WP.vl rfl (Yld.fieldAddr rfl ty_fd_72_1 rfl) ?_; refine WP.loud rfl rfl ?_; refine Op.s1 rfl rfl ty_sz_3 rfl rfl rfl ?_; refine WP.nil ?_; refine WP.sub [(0, _), (2, _), (3, _), (5, _), (6, _), (7, _), (8, _), (31, _), (44, _)] ?_ ⟨rfl, rfl, rfl, rfl, rfl, rfl, rfl, rfl, rfl, trivial⟩
   refine WP.next (WP.seq ?_)
   refine WP.region [0, 1, 2, 3, 4, 5, 6, 7, 8] rfl ?_; refine WP.mv rfl rfl ?_; refine WP.vl rfl (Yld.nilCheck rfl rfl) ?_; refine WP.vl rfl (Yld.fieldAddr rfl ty_fd_74_0 rfl) ?_; refine WP.vl rfl (Yld.fieldAddr rfl ty_fd_72_0 rfl) ?_; refine WP.vl rfl (Yld.fieldAddr rfl ty_fd_58_0 rfl) ?_; refine WP.mv rfl rfl ?_; refine WP.vl rfl (Yld.makeFunc rfl (vs := [_]) (us := []) rfl rfl) ?_; refine WP.loud rfl rfl ?_; refine Op.cl (txn_goes (b := g) (l := l) (t := t) (nx := hnextV g z.at_) (th := .func (.func 55) [.pointer (some ⟨g, 0, none⟩)].toArray [].toArray) (z := z.c) (vc := .slice Ac z.c.clear.length cc) (vn := .slice An z.c.ent.nodes.length cn) (vw := .slice Aw z.c.ent.with_.length cw) (ex := .int .i64 (hdP (rdG x.rs[k].b).1).page :: [.int .i64 ((x.base + k + 1 : Nat) : Int)])) rfl Tryz.func111 rfl rfl rfl rfl ?_; rintro v J L1 - ⟨rfl, rfl, rfl⟩
   try simp only [nf]
   refine WP.mv rfl rfl ?_; refine WP.nil ?_; refine WP.sub [(0, _), (2, _), (3, _), (5, _), (6, _), (7, _), (8, _), (31, _), (44, _)] ?_ ⟨rfl, rfl, rfl, rfl, rfl, rfl, rfl, rfl, rfl, trivial⟩
   refine WP.next (WP.ret ?_)
   refine WP.fn .ret (.inr rfl) (res1 rfl rfl) ([(g, row T (cmV l t (hnextV g 3) (.func (.func 55) [.pointer (some ⟨g, 0, none⟩)].toArray [].toArray) z.c (.slice Ac z.c.clear.length cc) (.slice An z.c.ent.nodes.length cn) (.slice Aw z.c.ent.with_.length cw) (.int .i64 (hdP (rdG x.rs[k].b).1).page :: [.int .i64 ((x.base + k + 1 : Nat) : Int)])))] ++ Ll) (Imm.le_trans hJ2 hJ3) ?_; have hJa := Imm.le_trans hJ2 hJ3
   have e1 : z.found x.rs[k] = (false, ({ z with page := (hdP (rdG x.rs[k].b).1).page } : Hm).go 3) := if_pos ⟨by omega, hok⟩
   rw [e1]; exact ⟨rfl, _, Ll, rfl, .mk (hc.mono fun b o q => hJa.2 b o q) (hn.mono hJa) (hw.mono (Imv.le hJa)) hs, hlg.mono hJa⟩


end Go.Hp
