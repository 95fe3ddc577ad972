import Derived.Test.YtilgaelpbgfnnaaGreatTxhA
set_option linter.unusedVariables false
set_option linter.unusedSimpArgs false
namespace Go.Hp
open Go Go.Proofs

def Hm.leads (z : Hm) (e : Ent) : Hm := (z.setC { z.c with txn := e.txn, clear := e.with_ ++ [z.page] }).go 4
def Hm.begins (tb : Tb) (z : Hm) : Bool × Hm := match tb.get z.page with
 | none => (true, z.fin 90)
 | some e => if e.2.txn = 0 then (true, z.fin 0) else if e.2.lead = z.page then (false, z.leads e.2) else (false, ({ z with page := e.2.lead, c := { z.c with txn := e.2.txn } } : Hm).go 1)
def Hm.follows (tb : Tb) (z : Hm) : Bool × Hm := match tb.get z.page with
 | none => (true, z.fin 132)
 | some e => if e.2.txn ≠ z.c.txn then (true, z.fin 132) else (false, z.leads e.2)
theorem intsV_one (l : List Int) : (l.map (Value.int .i64)).all (·.oneCell') = true := by
 rw [List.all_eq_true]; intro v hv; obtain ⟨a, _, rfl⟩ := List.mem_map.1 hv; rfl
theorem txh_leads {I : Imm} {g l t T : Nat} {ex : List Value} {z : Hm} {Lgr : Chunks} (hg : IsHl I g l t T ex z Lgr) {e : Ent} {cs : List Value} (he : REnt I e cs) (hes : e.sized) : Spec Tryz.prog 117 [.pointer (some ⟨g, 0, none⟩), .agg cs.toArray] I Lgr (fun v J L => v = .bool false ∧ IsHl J g l t T ex (z.leads e) L) := by
 cases hg with
 | @mk vc vn vw hc hn hw hs =>
 obtain ⟨Ac, cc, rfl, hcc, _, _⟩ := id hc
 obtain ⟨nvn, hn1, hn2⟩ := id hn.ex
 obtain ⟨An, cn, rfl, _⟩ := hn1.slice'
 obtain ⟨Aw, cw, rfl, _⟩ := hw.slice'
 obtain ⟨vn2, vw2, nv2, rfl, q1, q2, q3⟩ := id he.ex
 obtain ⟨An2, cn2, rfl, _⟩ := q1.slice'
 obtain ⟨Aw2, cw2, rfl, _⟩ := q3.slice'
 have hwl := hes.with_
 refine Spec.of Tryz.func117 rfl Tryz.ntmps117 (Nat.le_of_ble_eq_true rfl) (fun F => ?_)
 try simp only [nf]
 dsimp only [argsEnv]
 refine WP.seq ?_; refine WP.region [0, 1] rfl ?_; refine WP.loud rfl rfl ?_; refine Op.box rfl rfl rfl rfl rfl (fun b3 => ?_)
 refine WP.mv rfl rfl ?_; refine WP.nil (WP.next (WP.seq ?_))
 refine WD.start Tryzmixed 16 (fun c o => (c = g ∧ o = row T (cmV l t (hnextV g z.at_) (.func (.func 55) [.pointer (some ⟨g, 0, none⟩)].toArray [].toArray) z.c (.slice Ac z.c.clear.length cc) (.slice An z.c.ent.nodes.length cn) (.slice Aw z.c.ent.with_.length cw) (.int .i64 z.page :: ex))) ∨ (c = b3 ∧ o = row 43 (entV e (.slice An2 e.nodes.length cn2) (.slice Aw2 e.with_.length cw2)))) (fun _ _ => False) (by rintro _ _ (⟨rfl, rfl⟩ | ⟨rfl, rfl⟩) <;> exact zM) (fun _ _ h => h.elim) 21 [false, false, false, false, false, false, false, false, false, false, false, false, false, false, false, false, false, false, false, false, false] rfl rfl ?_; refine WD.vl (i := 0) rfl (Yld.move rfl rfl) ?_; refine WD.vl (i := 1) rfl (Yld.move rfl rfl) ?_; refine WD.vl (i := 2) rfl (Yld.fieldAddr rfl ty_fd_43_6 rfl) ?_; refine WD.val1 (i := 3) rfl rfl rfl rfl zK rfl zK (Yld.load (v := .int .i64 e.txn) rfl ty_sc_3 rfl (.inl (.inr ⟨rfl, rfl⟩)) rfl) ?_; refine WD.vl (i := 4) rfl (Yld.fieldAddr rfl ty_fd_43_8 rfl) ?_; refine WD.val1 (i := 5) rfl rfl rfl rfl zK rfl zK (Yld.load (v := .slice Aw2 e.with_.length cw2) rfl ty_sc_22 rfl (.inl (.inr ⟨rfl, rfl⟩)) rfl) ?_; refine WD.vl (i := 7) rfl (Yld.move rfl rfl) ?_; refine WD.vl (i := 8) rfl (Yld.nilCheck rfl rfl) ?_; refine WD.vl (i := 9) rfl (Yld.fieldAddr rfl ty_fd_72_1 rfl) ?_; refine WD.val1 (i := 10) rfl rfl rfl rfl zK rfl zK (Yld.load (v := .int .i64 z.page) rfl ty_sc_3 rfl (.inl (.inl ⟨rfl, rfl⟩)) rfl) ?_; refine WD.both (i := 6) (j := 11) zK rfl rfl ?_ ?_
 ·refine WP.oper rfl rfl ?_
  refine Op.append (m := e.with_.length) rfl ty_sl_22 ty_el_22 rfl rfl rfl rfl rfl Own.none0 (q3.mono (fun b o h => .inr h)) Take.nil (intsV_one _) (by omega) (by omega) (fun vo Lo ho => ?_)
  try simp only [nf]
  rw [List.nil_append, Nat.zero_add] at ho
  obtain ⟨Ao, co, rfl, _⟩ := ho.slice
  refine WD.go (.inr (by rintro _ _ (⟨rfl, rfl⟩ | ⟨rfl, rfl⟩) <;> exact zM)) (fun _ _ h => h.elim) ?_; refine WD.loud (i := 11) zK rfl rfl rfl ?_; refine Op.buildSlice rfl ty_sl_22 ty_el2_22 rfl rfl rfl rfl (vs := [_]) rfl (segs := [(0, [_])]) (cs := [.int .i64 z.page]) rfl rfl zS (fun bq => ?_)
  refine WD.go (.inr (by rintro _ _ (⟨rfl, rfl⟩ | ⟨rfl, rfl⟩) <;> exact zM)) (fun _ _ h => h.elim) ?_; refine WD.loud (i := 12) zK rfl rfl rfl ?_; refine Op.append (m := 1) rfl ty_sl_22 ty_el_22 rfl rfl rfl rfl rfl ho (SlRd.lit (m := 1) zM rfl (Nat.le_refl _)) zT rfl (by omega) (by omega) (fun vq Lq hq => ?_)
  try simp only [nf]
  obtain ⟨Aq, cq, rfl, _⟩ := hq.slice
  refine WD.go (.inr (by rintro _ _ (⟨rfl, rfl⟩ | ⟨rfl, rfl⟩) <;> exact zM)) (fun _ _ h => h.elim) ?_; refine WD.vl (i := 13) rfl (Yld.nilCheck rfl rfl) ?_; refine WD.vl (i := 14) rfl (Yld.fieldAddr rfl ty_fd_72_0 rfl) ?_; refine WD.vl (i := 15) rfl (Yld.fieldAddr rfl ty_fd_58_1 rfl) ?_; refine WD.loud (i := 16) zK rfl rfl rfl ?_; refine Op.s1 rfl rfl ty_sz_3 rfl rfl rfl ?_; refine WD.go (.inl rfl) (fun _ _ h => h.elim) ?_; refine WD.vl (i := 17) rfl (Yld.nilCheck rfl rfl) ?_; refine WD.vl (i := 18) rfl (Yld.fieldAddr rfl ty_fd_72_0 rfl) ?_; refine WD.vl (i := 19) rfl (Yld.fieldAddr rfl ty_fd_58_3 rfl) ?_; refine WD.loud (i := 20) zK rfl rfl rfl ?_; refine Op.s1 rfl rfl ty_sz_22 rfl rfl rfl ?_; refine WD.go (.inl rfl) (fun _ _ h => h.elim) ?_; refine WD.done zK ?_; refine WP.sub [(0, _), (1, _), (3, _), (4, _)] ?_ ⟨rfl, rfl, rfl, rfl, trivial⟩
  refine WP.next (WP.seq ?_)
  refine WP.shO hq (fun J7 hJ7 hcs => ?_)
  refine WQ.start Tryzmixed 8 zK _ rfl [8, 9] rfl ?_; refine WQ.val rfl rfl rfl (Yld.move rfl rfl) ?_; refine WQ.val rfl rfl rfl (Yld.nilCheck rfl rfl) ?_; refine WQ.val rfl rfl rfl (Yld.fieldAddr rfl ty_fd_72_0 rfl) ?_; refine WQ.val rfl rfl rfl (Yld.fieldAddr rfl ty_fd_58_0 rfl) ?_; refine WQ.val rfl rfl rfl (Yld.move rfl rfl) ?_; refine WQ.val rfl rfl rfl (Yld.nilCheck rfl rfl) ?_; refine WQ.val rfl rfl rfl (Yld.fieldAddr rfl ty_fd_72_0 rfl) ?_; refine WQ.val rfl rfl rfl (Yld.makeFunc rfl (vs := [_]) (us := []) rfl rfl) ?_; refine WQ.nil ?_; refine WP.loud rfl rfl ?_; refine Op.cl (txn_goes (b := g) (l := l) (t := t) (nx := hnextV g z.at_) (th := .func (.func 55) [.pointer (some ⟨g, 0, none⟩)].toArray [].toArray) (z := ({ z.c with txn := e.txn, clear := e.with_ ++ [z.page] } : Cm)) (vc := .slice Aq (e.with_.length + 1) cq) (vn := .slice An z.c.ent.nodes.length cn) (vw := .slice Aw z.c.ent.with_.length cw) (ex := .int .i64 z.page :: ex)) rfl Tryz.func111 rfl rfl rfl rfl ?_; rintro v J L1 - ⟨rfl, rfl, rfl⟩
  try simp only [nf]
  refine WP.mv rfl rfl ?_; refine WP.nil ?_; refine WP.sub [(0, _), (1, _), (3, _), (4, _)] ?_ ⟨rfl, rfl, rfl, rfl, trivial⟩
  refine WP.next (WP.ret ?_)
  refine WP.fn .ret (.inr rfl) (res1 rfl rfl) [(g, row T (cmV l t (hnextV g 4) (.func (.func 55) [.pointer (some ⟨g, 0, none⟩)].toArray [].toArray) ({ z.c with txn := e.txn, clear := e.with_ ++ [z.page] } : Cm) (.slice Aq (e.with_.length + 1) cq) (.slice An z.c.ent.nodes.length cn) (.slice Aw z.c.ent.with_.length cw) (.int .i64 z.page :: ex)))] hJ7 ?_; exact ⟨rfl, .mk (z := z.leads e) (by show SlRd (Im J7) _ (e.with_ ++ [z.page]).length 1 ((e.with_ ++ [z.page]).map (Value.int .i64)); rw [List.map_append, List.length_append]; exact hcs) (hn.mono hJ7) (hw.mono (Imv.le hJ7)) hs⟩
 ·refine WP.oper rfl rfl ?_
  refine Op.buildSlice rfl ty_sl_22 ty_el2_22 rfl rfl rfl rfl (vs := [_]) rfl (segs := [(0, [_])]) (cs := [.int .i64 z.page]) rfl rfl zS (fun bq => ?_)
  refine WD.go (.inr (by rintro _ _ (⟨rfl, rfl⟩ | ⟨rfl, rfl⟩) <;> exact zM)) (fun _ _ h => h.elim) ?_; refine WD.loud (i := 6) zK rfl rfl rfl ?_; refine Op.append (m := e.with_.length) rfl ty_sl_22 ty_el_22 rfl rfl rfl rfl rfl Own.none0 (q3.mono (fun b o h => .inr h)) Take.nil (intsV_one _) (by omega) (by omega) (fun vo Lo ho => ?_)
  try simp only [nf]
  rw [List.nil_append, Nat.zero_add] at ho
  obtain ⟨Ao, co, rfl, _⟩ := ho.slice
  refine WD.go (.inr (by rintro _ _ (⟨rfl, rfl⟩ | ⟨rfl, rfl⟩) <;> exact zM)) (fun _ _ h => h.elim) ?_; refine WD.loud (i := 12) zK rfl rfl rfl ?_; refine Op.append (m := 1) rfl ty_sl_22 ty_el_22 rfl rfl rfl rfl rfl ho (SlRd.lit (m := 1) zM rfl (Nat.le_refl _)) zT rfl (by omega) (by omega) (fun vq Lq hq => ?_)
  try simp only [nf]
  obtain ⟨Aq, cq, rfl, _⟩ := hq.slice
  refine WD.go (.inr (by rintro _ _ (⟨rfl, rfl⟩ | ⟨rfl, rfl⟩) <;> exact zM)) (fun _ _ h => h.elim) ?_; refine WD.vl (i := 13) rfl (Yld.nilCheck rfl rfl) ?_; refine WD.vl (i := 14) rfl (Yld.fieldAddr rfl ty_fd_72_0 rfl) ?_; refine WD.vl (i := 15) rfl (Yld.fieldAddr rfl ty_fd_58_1 rfl) ?_; refine WD.loud (i := 16) zK rfl rfl rfl ?_; refine Op.s1 rfl rfl ty_sz_3 rfl rfl rfl ?_; refine WD.go (.inl rfl) (fun _ _ h => h.elim) ?_; refine WD.vl (i := 17) rfl (Yld.nilCheck rfl rfl) ?_; refine WD.vl (i := 18) rfl (Yld.fieldAddr rfl ty_fd_72_0 rfl) ?_; refine WD.vl (i := 19) rfl (Yld.fieldAddr rfl ty_fd_58_3 rfl) ?_; refine WD.loud (i := 20) zK rfl rfl rfl ?_; refine Op.s1 rfl rfl ty_sz_22 rfl rfl rfl ?_; refine WD.go (.inl rfl) (fun _ _ h => h.elim) ?_; refine WD.done zK ?_; refine WP.sub [(0, _), (1, _), (3, _), (4, _)] ?_ ⟨rfl, rfl, rfl, rfl, trivial⟩
  refine WP.next (WP.seq ?_)
  refine WP.shO hq (fun J7 hJ7 hcs => ?_)
  refine WQ.start Tryzmixed 8 zK _ rfl [8, 9] rfl ?_; refine WQ.val rfl rfl rfl (Yld.move rfl rfl) ?_; refine WQ.val rfl rfl rfl (Yld.nilCheck rfl rfl) ?_; refine WQ.val rfl rfl rfl (Yld.fieldAddr rfl ty_fd_72_0 rfl) ?_; refine WQ.val rfl rfl rfl (Yld.fieldAddr rfl ty_fd_58_0 rfl) ?_; refine WQ.val rfl rfl rfl (Yld.move rfl rfl) ?_; refine WQ.val rfl rfl rfl (Yld.nilCheck rfl rfl) ?_; refine WQ.val rfl rfl rfl (Yld.fieldAddr rfl ty_fd_72_0 rfl) ?_; refine WQ.val rfl rfl rfl (Yld.makeFunc rfl (vs := [_]) (us := []) rfl rfl) ?_; refine WQ.nil ?_; refine WP.loud rfl rfl ?_; refine Op.cl (txn_goes (b := g) (l := l) (t := t) (nx := hnextV g z.at_) (th := .func (.func 55) [.pointer (some ⟨g, 0, none⟩)].toArray [].toArray) (z := ({ z.c with txn := e.txn, clear := e.with_ ++ [z.page] } : Cm)) (vc := .slice Aq (e.with_.length + 1) cq) (vn := .slice An z.c.ent.nodes.length cn) (vw := .slice Aw z.c.ent.with_.length cw) (ex := .int .i64 z.page :: ex)) rfl Tryz.func111 rfl rfl rfl rfl ?_; rintro v J L1 - ⟨rfl, rfl, rfl⟩
  try simp only [nf]
  refine WP.mv rfl rfl ?_; refine WP.nil ?_; refine WP.sub [(0, _), (1, _), (3, _), (4, _)] ?_ ⟨rfl, rfl, rfl, rfl, trivial⟩
  refine WP.next (WP.ret ?_)
  refine WP.fn .ret (.inr rfl) (res1 rfl rfl) [(g, row T (cmV l t (hnextV g 4) (.func (.func 55) [.pointer (some ⟨g, 0, none⟩)].toArray [].toArray) ({ z.c with txn := e.txn, clear := e.with_ ++ [z.page] } : Cm) (.slice Aq (e.with_.length + 1) cq) (.slice An z.c.ent.nodes.length cn) (.slice Aw z.c.ent.with_.length cw) (.int .i64 z.page :: ex)))] hJ7 ?_; exact ⟨rfl, .mk (z := z.leads e) (by show SlRd (Im J7) _ (e.with_ ++ [z.page]).length 1 ((e.with_ ++ [z.page]).map (Value.int .i64)); rw [List.map_append, List.length_append]; exact hcs) (hn.mono hJ7) (hw.mono (Imv.le hJ7)) hs⟩

theorem txh_begin0 {I : Imm} {g l t T : Nat} {ex : List Value} {z : Hm} {Lgr : Chunks} (hg : IsHl I g l t T ex z Lgr) {tb : Tb} {Lt : Chunks} (hT : IsT I t tb Lt) (hgt : tb.get z.page = none) : Spec Tryz.prog 57 [.pointer (some ⟨g, 0, none⟩)] I (Lgr ++ Lt) (fun v J L => v = .bool (z.begins tb).1 ∧ ∃ Lg2 Lt2, L = Lg2 ++ Lt2 ∧ IsHl J g l t T ex (z.begins tb).2 Lg2 ∧ IsT J t tb Lt2) := by
 cases hg with
 | @mk vc vn vw hc hn hw hs =>
 obtain ⟨Ac, cc, rfl, hcc, _, _⟩ := id hc
 obtain ⟨nvn, hn1, hn2⟩ := id hn.ex
 obtain ⟨An, cn, rfl, _⟩ := hn1.slice'
 obtain ⟨Aw, cw, rfl, _⟩ := hw.slice'
 refine Spec.of Tryz.func57 rfl Tryz.ntmps57 (Nat.le_of_ble_eq_true rfl) (fun F => ?_)
 try simp only [nf]
 dsimp only [argsEnv]
 refine WP.seq ?_; refine WP.region [0] rfl ?_; refine WP.mv rfl rfl ?_; refine WP.nil (WP.next (WP.seq ?_))
 refine WD.start Tryzmixed 15 (fun c o => c = g ∧ o = row T (cmV l t (hnextV g z.at_) (.func (.func 55) [.pointer (some ⟨g, 0, none⟩)].toArray [].toArray) z.c (.slice Ac z.c.clear.length cc) (.slice An z.c.ent.nodes.length cn) (.slice Aw z.c.ent.with_.length cw) (.int .i64 z.page :: ex))) (fun _ _ => False) (by rintro _ _ ⟨rfl, rfl⟩; exact zM) (fun _ _ h => h.elim) 17 [false, false, false, false, false, false, false, false, false, false, false, false, false, false, false, false, false] rfl rfl ?_; refine WD.vl (i := 0) rfl (Yld.move rfl rfl) ?_; refine WD.vl (i := 1) rfl (Yld.nilCheck rfl rfl) ?_; refine WD.vl (i := 2) rfl (Yld.fieldAddr rfl ty_fd_72_0 rfl) ?_; refine WD.vl (i := 3) rfl (Yld.fieldAddr rfl ty_fd_58_0 rfl) ?_; refine WD.vl (i := 4) rfl (Yld.fieldAddr rfl ty_fd_54_1 rfl) ?_; refine WD.val1 (i := 5) rfl rfl rfl rfl zK rfl zK (Yld.load (v := .pointer (some ⟨t, 0, none⟩)) rfl ty_sc_32 rfl (.inl ⟨rfl, rfl⟩) rfl) ?_; refine WD.vl (i := 6) rfl (Yld.move rfl rfl) ?_; refine WD.vl (i := 7) rfl (Yld.nilCheck rfl rfl) ?_; refine WD.vl (i := 8) rfl (Yld.fieldAddr rfl ty_fd_72_1 rfl) ?_; refine WD.val1 (i := 9) rfl rfl rfl rfl zK rfl zK (Yld.load (v := .int .i64 z.page) rfl ty_sc_3 rfl (.inl ⟨rfl, rfl⟩) rfl) ?_; refine WD.both (i := 10) (j := 14) zK rfl rfl ?_ ?_
 ·refine WP.oper rfl rfl ?_
  refine Op.cl (tabT_Load0 hT hgt) rfl Tryz.func12 rfl rfl rfl rfl ?_; rintro v J Lt - ⟨rfl, rfl, rfl⟩
  try simp only [nf]
  refine WD.gR ?_; refine WD.vl (i := 11) rfl (Yld.move rfl rfl) ?_; refine WD.vl (i := 12) rfl (Yld.extract rfl rfl rfl) ?_; refine WD.vl (i := 13) rfl (Yld.extract rfl rfl rfl) ?_; refine WD.loud (i := 14) zK rfl rfl rfl ?_; refine Op.alloc rfl rfl rfl ty_zr_43 (fun b3 => ?_)
  refine WD.gR ?_; refine WD.loud (i := 15) zK rfl rfl rfl ?_; refine Op.sA rfl rfl ty_sz_43 rfl rfl rfl rfl rfl ?_; refine WD.go (.inl rfl) (fun _ _ h => h.elim) ?_; refine WD.vl (i := 16) rfl (Yld.assign rfl rfl) ?_; refine WD.done zK ?_; refine WP.sub [(0, _), (2, _), (3, _), (4, _)] ?_ ⟨rfl, rfl, rfl, rfl, trivial⟩
  refine WP.next (WP.seq (WP.block (WP.seq ?_)))
  refine WP.region [0, 1, 2, 3, 4, 5, 6, 7] rfl ?_; refine WP.mv rfl rfl ?_; refine WP.vl rfl (Yld.neq rfl rfl rfl true (decide_eq_true (by decide))) ?_; refine WP.mv rfl rfl ?_; iterate 3 refine WP.passG rfl rfl rfl rfl rfl rfl rfl rfl ?_
  refine WP.vl rfl (Yld.pickT rfl rfl rfl) ?_; refine WP.mv rfl rfl ?_; refine WP.nil ?_; refine WP.sub [(0, _), (2, _), (3, _), (4, _), (19, _)] ?_ ⟨rfl, rfl, rfl, rfl, rfl, trivial⟩
  refine WP.next ?_; refine WP.condT rfl ?_; refine WP.seq ?_; refine WP.region [0, 1, 2, 3, 4, 5, 6] rfl ?_; refine WP.mv rfl rfl ?_; refine WP.vl rfl (Yld.nilCheck rfl rfl) ?_; refine WP.vl rfl (Yld.fieldAddr rfl ty_fd_72_0 rfl) ?_; refine WP.vl rfl (Yld.fieldAddr rfl ty_fd_58_0 rfl) ?_; refine WP.mv rfl rfl ?_; refine WP.loud rfl rfl ?_; refine Op.cl (txn_end (b := g)) rfl Tryz.func110 rfl rfl rfl rfl ?_; rintro v J L1 - ⟨rfl, rfl, rfl⟩
  try simp only [nf]
  refine WP.mv rfl rfl ?_; refine WP.nil ?_; refine WP.sub [(0, _), (2, _), (3, _), (4, _), (19, _)] ?_ ⟨rfl, rfl, rfl, rfl, rfl, trivial⟩
  refine WP.next (WP.ret ?_)
  refine WP.fn .ret (.inr rfl) (res1 rfl rfl) ([(g, row T (cmV l t (.nilFunc) (.func (.func 55) [.pointer (some ⟨g, 0, none⟩)].toArray [].toArray) ({ z.c with e := 90 } : Cm) (.slice Ac z.c.clear.length cc) (.slice An z.c.ent.nodes.length cn) (.slice Aw z.c.ent.with_.length cw) (.int .i64 z.page :: ex)))] ++ Lt) (Imm.le_refl _) ?_; have e1 : z.begins tb = (true, z.fin 90) := by unfold Hm.begins; rw [hgt]
  rw [e1]; exact ⟨rfl, _, _, rfl, .mk hc hn hw hs, hT⟩
 ·refine WP.oper rfl rfl ?_
  refine Op.alloc rfl rfl rfl ty_zr_43 (fun b3 => ?_)
  refine WD.gR ?_; refine WD.loud (i := 10) zK rfl rfl rfl ?_; refine Op.cl (tabT_Load0 hT hgt) rfl Tryz.func12 rfl rfl rfl rfl ?_; rintro v J Lt - ⟨rfl, rfl, rfl⟩
  try simp only [nf]
  refine WD.gR ?_; refine WD.vl (i := 11) rfl (Yld.move rfl rfl) ?_; refine WD.vl (i := 12) rfl (Yld.extract rfl rfl rfl) ?_; refine WD.vl (i := 13) rfl (Yld.extract rfl rfl rfl) ?_; refine WD.loud (i := 15) zK rfl rfl rfl ?_; refine Op.sA rfl rfl ty_sz_43 rfl rfl rfl rfl rfl ?_; refine WD.go (.inl rfl) (fun _ _ h => h.elim) ?_; refine WD.vl (i := 16) rfl (Yld.assign rfl rfl) ?_; refine WD.done zK ?_; refine WP.sub [(0, _), (2, _), (3, _), (4, _)] ?_ ⟨rfl, rfl, rfl, rfl, trivial⟩
  refine WP.next (WP.seq (WP.block (WP.seq ?_)))
  refine WP.region [0, 1, 2, 3, 4, 5, 6, 7] rfl ?_; refine WP.mv rfl rfl ?_; refine WP.vl rfl (Yld.neq rfl rfl rfl true (decide_eq_true (by decide))) ?_; refine WP.mv rfl rfl ?_; iterate 3 refine WP.passG rfl rfl rfl rfl rfl rfl rfl rfl ?_
  refine WP.vl rfl (Yld.pickT rfl rfl rfl) ?_; refine WP.mv rfl rfl ?_; refine WP.nil ?_; refine WP.sub [(0, _), (2, _), (3, _), (4, _), (19, _)] ?_ ⟨rfl, rfl, rfl, rfl, rfl, trivial⟩
  refine WP.next ?_; refine WP.condT rfl ?_; refine WP.seq ?_; refine WP.region [0, 1, 2, 3, 4, 5, 6] rfl ?_; refine WP.mv rfl rfl ?_; refine WP.vl rfl (Yld.nilCheck rfl rfl) ?_; refine WP.vl rfl (Yld.fieldAddr rfl ty_fd_72_0 rfl) ?_; refine WP.vl rfl (Yld.fieldAddr rfl ty_fd_58_0 rfl) ?_; refine WP.mv rfl rfl ?_; refine WP.loud rfl rfl ?_; refine Op.cl (txn_end (b := g)) rfl Tryz.func110 rfl rfl rfl rfl ?_; rintro v J L1 - ⟨rfl, rfl, rfl⟩
  try simp only [nf]
  refine WP.mv rfl rfl ?_; refine WP.nil ?_; refine WP.sub [(0, _), (2, _), (3, _), (4, _), (19, _)] ?_ ⟨rfl, rfl, rfl, rfl, rfl, trivial⟩
  refine WP.next (WP.ret ?_)
  refine WP.fn .ret (.inr rfl) (res1 rfl rfl) ([(g, row T (cmV l t (.nilFunc) (.func (.func 55) [.pointer (some ⟨g, 0, none⟩)].toArray [].toArray) ({ z.c with e := 90 } : Cm) (.slice Ac z.c.clear.length cc) (.slice An z.c.ent.nodes.length cn) (.slice Aw z.c.ent.with_.length cw) (.int .i64 z.page :: ex)))] ++ Lt) (Imm.le_refl _) ?_; have e1 : z.begins tb = (true, z.fin 90) := by unfold Hm.begins; rw [hgt]
  rw [e1]; exact ⟨rfl, _, _, rfl, .mk hc hn hw hs, hT⟩

theorem txh_begin1 {I : Imm} {g l t T : Nat} {ex : List Value} {z : Hm} {Lgr : Chunks} (hg : IsHl I g l t T ex z Lgr) {tb : Tb} {Lt : Chunks} (hT : IsT I t tb Lt) {e : Nat × Ent} (hgt : tb.get z.page = some e) (hes : ∀ e, tb.get z.page = some e → e.2.sized) : Spec Tryz.prog 57 [.pointer (some ⟨g, 0, none⟩)] I (Lgr ++ Lt) (fun v J L => v = .bool (z.begins tb).1 ∧ ∃ Lg2 Lt2, L = Lg2 ++ Lt2 ∧ IsHl J g l t T ex (z.begins tb).2 Lg2 ∧ IsT J t tb Lt2) := by
 cases hg with
 | @mk vc vn vw hc hn hw hs =>
 obtain ⟨Ac, cc, rfl, hcc, _, _⟩ := id hc
 obtain ⟨nvn, hn1, hn2⟩ := id hn.ex
 obtain ⟨An, cn, rfl, _⟩ := hn1.slice'
 obtain ⟨Aw, cw, rfl, _⟩ := hw.slice'
 refine Spec.of Tryz.func57 rfl Tryz.ntmps57 (Nat.le_of_ble_eq_true rfl) (fun F => ?_)
 try simp only [nf]
 dsimp only [argsEnv]
 refine WP.seq ?_; refine WP.region [0] rfl ?_; refine WP.mv rfl rfl ?_; refine WP.nil (WP.next (WP.seq ?_))
 refine WD.start Tryzmixed 15 (fun c o => c = g ∧ o = row T (cmV l t (hnextV g z.at_) (.func (.func 55) [.pointer (some ⟨g, 0, none⟩)].toArray [].toArray) z.c (.slice Ac z.c.clear.length cc) (.slice An z.c.ent.nodes.length cn) (.slice Aw z.c.ent.with_.length cw) (.int .i64 z.page :: ex))) (fun _ _ => False) (by rintro _ _ ⟨rfl, rfl⟩; exact zM) (fun _ _ h => h.elim) 17 [false, false, false, false, false, false, false, false, false, false, false, false, false, false, false, false, false] rfl rfl ?_; refine WD.vl (i := 0) rfl (Yld.move rfl rfl) ?_; refine WD.vl (i := 1) rfl (Yld.nilCheck rfl rfl) ?_; refine WD.vl (i := 2) rfl (Yld.fieldAddr rfl ty_fd_72_0 rfl) ?_; refine WD.vl (i := 3) rfl (Yld.fieldAddr rfl ty_fd_58_0 rfl) ?_; refine WD.vl (i := 4) rfl (Yld.fieldAddr rfl ty_fd_54_1 rfl) ?_; refine WD.val1 (i := 5) rfl rfl rfl rfl zK rfl zK (Yld.load (v := .pointer (some ⟨t, 0, none⟩)) rfl ty_sc_32 rfl (.inl ⟨rfl, rfl⟩) rfl) ?_; refine WD.vl (i := 6) rfl (Yld.move rfl rfl) ?_; refine WD.vl (i := 7) rfl (Yld.nilCheck rfl rfl) ?_; refine WD.vl (i := 8) rfl (Yld.fieldAddr rfl ty_fd_72_1 rfl) ?_; refine WD.val1 (i := 9) rfl rfl rfl rfl zK rfl zK (Yld.load (v := .int .i64 z.page) rfl ty_sc_3 rfl (.inl ⟨rfl, rfl⟩) rfl) ?_; refine WD.both (i := 10) (j := 14) zK rfl rfl ?_ ?_
 ·refine WP.oper rfl rfl ?_
  refine Op.cl (tabT_Load1 hT hgt) rfl Tryz.func12 rfl rfl rfl rfl ?_; rintro v J2 Lt2 hJ2 ⟨cs, rfl, hre, hT⟩
  try simp only [nf]
  obtain ⟨vn2, vw2, nv2, rfl, q1, q2, q3⟩ := id hre.ex
  obtain ⟨An2, cn2, rfl, _⟩ := q1.slice'
  obtain ⟨Aw2, cw2, rfl, _⟩ := q3.slice'
  refine WD.gR ?_; refine WD.vl (i := 11) rfl (Yld.move rfl rfl) ?_; refine WD.vl (i := 12) rfl (Yld.extract rfl rfl rfl) ?_; refine WD.vl (i := 13) rfl (Yld.extract rfl rfl rfl) ?_; refine WD.loud (i := 14) zK rfl rfl rfl ?_; refine Op.alloc rfl rfl rfl ty_zr_43 (fun b3 => ?_)
  refine WD.gR ?_; refine WD.loud (i := 15) zK rfl rfl rfl ?_; refine Op.sA rfl rfl ty_sz_43 rfl rfl rfl rfl rfl ?_; refine WD.go (.inl rfl) (fun _ _ h => h.elim) ?_; refine WD.vl (i := 16) rfl (Yld.assign rfl rfl) ?_; refine WD.done zK ?_; refine WP.sub [(0, _), (2, _), (3, _), (4, _)] ?_ ⟨rfl, rfl, rfl, rfl, trivial⟩
  refine WP.next (WP.seq (WP.block (WP.seq ?_)))
  refine WP.region [0, 1, 2, 3, 4, 5, 6, 7] rfl ?_; refine WP.mv rfl rfl ?_; refine WP.vl rfl (Yld.neq rfl rfl rfl false (decide_eq_false (by simp))) ?_; refine WP.mv rfl rfl ?_; refine WP.valG rfl rfl rfl rfl rfl rfl rfl (Yld.fieldAddr rfl ty_fd_43_6 rfl) ?_; refine WP.valG rfl rfl rfl rfl rfl rfl rfl (Yld.ld (v := .int .i64 e.2.txn) rfl ty_sc_3 rfl rfl) ?_; refine WP.splitG rfl rfl rfl rfl rfl rfl rfl (Yld.eql rfl rfl rfl) (fun h0 => ?_) (fun h0 => ?_)
  ·refine WP.vl rfl (Yld.pickF rfl rfl rfl) ?_
   refine WP.mv rfl rfl ?_; refine WP.nil ?_; refine WP.sub [(0, _), (2, _), (3, _), (4, _), (19, _)] ?_ ⟨rfl, rfl, rfl, rfl, rfl, trivial⟩
   refine WP.next ?_; refine WP.condT rfl ?_; refine WP.seq ?_; refine WP.region [0, 1, 2, 3, 4, 5, 6] rfl ?_; refine WP.mv rfl rfl ?_; refine WP.vl rfl (Yld.nilCheck rfl rfl) ?_; refine WP.vl rfl (Yld.fieldAddr rfl ty_fd_72_0 rfl) ?_; refine WP.vl rfl (Yld.fieldAddr rfl ty_fd_58_0 rfl) ?_; refine WP.mv rfl rfl ?_; refine WP.loud rfl rfl ?_; refine Op.cl (txn_end (b := g)) rfl Tryz.func110 rfl rfl rfl rfl ?_; rintro v J L1 - ⟨rfl, rfl, rfl⟩
   try simp only [nf]
   refine WP.mv rfl rfl ?_; refine WP.nil ?_; refine WP.sub [(0, _), (2, _), (3, _), (4, _), (19, _)] ?_ ⟨rfl, rfl, rfl, rfl, rfl, trivial⟩
   refine WP.next (WP.ret ?_)
   refine WP.fn .ret (.inr rfl) (res1 rfl rfl) ([(g, row T (cmV l t (.nilFunc) (.func (.func 55) [.pointer (some ⟨g, 0, none⟩)].toArray [].toArray) ({ z.c with e := 0 } : Cm) (.slice Ac z.c.clear.length cc) (.slice An z.c.ent.nodes.length cn) (.slice Aw z.c.ent.with_.length cw) (.int .i64 z.page :: ex)))] ++ Lt2) hJ2 ?_; have e1 : z.begins tb = (true, z.fin 0) := by unfold Hm.begins; rw [hgt]; exact if_pos h0
   rw [e1]; exact ⟨rfl, _, _, rfl, .mk (hc.mono fun b o q => hJ2.2 b o q) (hn.mono hJ2) (hw.mono (Imv.le hJ2)) hs, hT⟩
  ·refine WP.vl rfl (Yld.pickF rfl rfl rfl) ?_
   refine WP.mv rfl rfl ?_; refine WP.nil ?_; refine WP.sub [(0, _), (2, _), (3, _), (4, _), (19, _)] ?_ ⟨rfl, rfl, rfl, rfl, rfl, trivial⟩
   refine WP.next ?_; refine WP.condF rfl ?_; refine WP.seq ?_; refine WQ.startAll Tryzmixed zK _ rfl ?_; refine WQ.val rfl rfl rfl (Yld.fieldAddr rfl ty_fd_43_7 rfl) ?_; refine WQ.val rfl rfl rfl (Yld.ld (v := .int .i64 e.2.lead) rfl ty_sc_3 rfl rfl) ?_; refine WQ.val rfl rfl rfl (Yld.move rfl rfl) ?_; refine WQ.val rfl rfl rfl (Yld.nilCheck rfl rfl) ?_; refine WQ.val rfl rfl rfl (Yld.fieldAddr rfl ty_fd_72_1 rfl) ?_; refine WQ.val rfl rfl rfl (Yld.ld (v := .int .i64 z.page) rfl ty_sc_3 rfl rfl) ?_; refine WQ.split rfl rfl rfl (Yld.eql rfl rfl rfl) (fun hld => ?_) (fun hld => ?_)
   ·refine WQ.val rfl rfl rfl (Yld.assign rfl rfl) ?_
    refine WQ.nil ?_; refine WP.sub [(0, _), (2, _), (3, _), (4, _), (19, _), (33, _)] ?_ ⟨rfl, rfl, rfl, rfl, rfl, rfl, trivial⟩
    refine WP.next ?_; refine WP.condT rfl ?_; refine WP.seq ?_; refine WP.region [0, 1, 2, 3] rfl ?_; refine WP.mv rfl rfl ?_; refine WP.vl rfl (Yld.ldg (vs := (entV e.2 (.slice An2 e.2.nodes.length cn2) (.slice Aw2 e.2.with_.length cw2))) rfl ty_ag_43 rfl rfl rfl) ?_; refine WP.loud rfl rfl ?_; refine Op.cl (txh_leads (IsHl.mk (g := g) (l := l) (t := t) (T := T) (ex := ex) (z := z) (hc.mono fun b o q => hJ2.2 b o q) (hn.mono hJ2) (hw.mono (Imv.le hJ2)) hs) hre (hes e hgt)) rfl Tryz.func117 rfl rfl rfl rfl ?_; rintro v J3 Lr hJ3 ⟨rfl, hres⟩
    try simp only [nf]
    refine WP.mv rfl rfl ?_; refine WP.nil ?_; refine WP.sub [(0, _), (2, _), (3, _), (4, _), (19, _), (33, _)] ?_ ⟨rfl, rfl, rfl, rfl, rfl, rfl, trivial⟩
    refine WP.next (WP.ret ?_)
    refine WP.fn .ret (.inr rfl) (res1 rfl rfl) (Lr ++ Lt2) (Imm.le_trans hJ2 hJ3) ?_; have e1 : z.begins tb = (false, z.leads e.2) := by unfold Hm.begins; rw [hgt]; exact (if_neg h0).trans (if_pos hld)
    rw [e1]; exact ⟨rfl, Lr, _, rfl, hres, hT.mono hJ3⟩
   ·refine WQ.val rfl rfl rfl (Yld.assign rfl rfl) ?_
    refine WQ.nil ?_; refine WP.sub [(0, _), (2, _), (3, _), (4, _), (19, _), (33, _)] ?_ ⟨rfl, rfl, rfl, rfl, rfl, rfl, trivial⟩
    refine WP.next ?_; refine WP.condF rfl ?_; refine WP.skip (WP.leave (WP.next (WP.seq ?_)))
    refine WD.start Tryzmixed 12 (fun c o => c = b3 ∧ o = row 43 (entV e.2 (.slice An2 e.2.nodes.length cn2) (.slice Aw2 e.2.with_.length cw2))) (fun _ _ => False) (by rintro _ _ ⟨rfl, rfl⟩; exact zM) (fun _ _ h => h.elim) 13 [false, false, false, false, false, false, false, false, false, false, false, false, false] rfl rfl ?_; refine WD.vl (i := 0) rfl (Yld.move rfl rfl) ?_; refine WD.vl (i := 1) rfl (Yld.move rfl rfl) ?_; refine WD.vl (i := 2) rfl (Yld.fieldAddr rfl ty_fd_43_7 rfl) ?_; refine WD.val1 (i := 3) rfl rfl rfl rfl zK rfl zK (Yld.load (v := .int .i64 e.2.lead) rfl ty_sc_3 rfl (.inl ⟨rfl, rfl⟩) rfl) ?_; refine WD.vl (i := 4) rfl (Yld.fieldAddr rfl ty_fd_43_6 rfl) ?_; refine WD.val1 (i := 5) rfl rfl rfl rfl zK rfl zK (Yld.load (v := .int .i64 e.2.txn) rfl ty_sc_3 rfl (.inl ⟨rfl, rfl⟩) rfl) ?_; refine WD.vl (i := 6) rfl (Yld.nilCheck rfl rfl) ?_; refine WD.vl (i := 7) rfl (Yld.fieldAddr rfl ty_fd_72_1 rfl) ?_; refine WD.loud (i := 8) zK rfl rfl rfl ?_; refine Op.s1 rfl rfl ty_sz_3 rfl rfl rfl ?_; refine WD.gR ?_; refine WD.vl (i := 9) rfl (Yld.nilCheck rfl rfl) ?_; refine WD.vl (i := 10) rfl (Yld.fieldAddr rfl ty_fd_72_0 rfl) ?_; refine WD.vl (i := 11) rfl (Yld.fieldAddr rfl ty_fd_58_1 rfl) ?_; refine WD.loud (i := 12) zK rfl rfl rfl ?_; refine Op.s1 rfl rfl ty_sz_3 rfl rfl rfl ?_; refine WD.go (.inl rfl) (fun _ _ h => h.elim) ?_; refine WD.done zK ?_; refine WP.sub [(0, _), (2, _), (3, _), (4, _), (19, _), (33, _)] ?_ ⟨rfl, rfl, rfl, rfl, rfl, rfl, trivial⟩
    refine WP.next (WP.seq ?_)
    refine WP.region [0, 1, 2, 3, 4, 5, 6, 7] rfl ?_; refine WP.mv rfl rfl ?_; refine WP.vl rfl (Yld.nilCheck rfl rfl) ?_; refine WP.vl rfl (Yld.fieldAddr rfl ty_fd_72_0 rfl) ?_; refine WP.vl rfl (Yld.fieldAddr rfl ty_fd_58_0 rfl) ?_; refine WP.mv rfl rfl ?_; refine WP.vl rfl (Yld.makeFunc rfl (vs := [_]) (us := []) rfl rfl) ?_; refine WP.loud rfl rfl ?_; refine Op.cl (txn_goes (b := g) (l := l) (t := t) (nx := hnextV g z.at_) (th := .func (.func 55) [.pointer (some ⟨g, 0, none⟩)].toArray [].toArray) (z := ({ z.c with txn := e.2.txn } : Cm)) (vc := .slice Ac z.c.clear.length cc) (vn := .slice An z.c.ent.nodes.length cn) (vw := .slice Aw z.c.ent.with_.length cw) (ex := .int .i64 e.2.lead :: ex)) rfl Tryz.func111 rfl rfl rfl rfl ?_; rintro v J L1 - ⟨rfl, rfl, rfl⟩
    try simp only [nf]
    refine WP.mv rfl rfl ?_; refine WP.nil ?_; refine WP.sub [(0, _), (2, _), (3, _), (4, _), (19, _), (33, _)] ?_ ⟨rfl, rfl, rfl, rfl, rfl, rfl, trivial⟩
    refine WP.next (WP.ret ?_)
    refine WP.fn .ret (.inr rfl) (res1 rfl rfl) ([(g, row T (cmV l t (hnextV g 1) (.func (.func 55) [.pointer (some ⟨g, 0, none⟩)].toArray [].toArray) ({ z.c with txn := e.2.txn } : Cm) (.slice Ac z.c.clear.length cc) (.slice An z.c.ent.nodes.length cn) (.slice Aw z.c.ent.with_.length cw) (.int .i64 e.2.lead :: ex)))] ++ Lt2) hJ2 ?_; have e1 : z.begins tb = (false, ({ z with page := e.2.lead, c := { z.c with txn := e.2.txn } } : Hm).go 1) := by unfold Hm.begins; rw [hgt]; exact (if_neg h0).trans (if_neg hld)
    rw [e1]; exact ⟨rfl, _, _, rfl, .mk (hc.mono fun b o q => hJ2.2 b o q) (hn.mono hJ2) (hw.mono (Imv.le hJ2)) hs, hT⟩
 ·refine WP.oper rfl rfl ?_
  refine Op.alloc rfl rfl rfl ty_zr_43 (fun b3 => ?_)
  refine WD.gR ?_; refine WD.loud (i := 10) zK rfl rfl rfl ?_; refine Op.cl (tabT_Load1 hT hgt) rfl Tryz.func12 rfl rfl rfl rfl ?_; rintro v J2 Lt2 hJ2 ⟨cs, rfl, hre, hT⟩
  try simp only [nf]
  obtain ⟨vn2, vw2, nv2, rfl, q1, q2, q3⟩ := id hre.ex
  obtain ⟨An2, cn2, rfl, _⟩ := q1.slice'
  obtain ⟨Aw2, cw2, rfl, _⟩ := q3.slice'
  refine WD.gR ?_; refine WD.vl (i := 11) rfl (Yld.move rfl rfl) ?_; refine WD.vl (i := 12) rfl (Yld.extract rfl rfl rfl) ?_; refine WD.vl (i := 13) rfl (Yld.extract rfl rfl rfl) ?_; refine WD.loud (i := 15) zK rfl rfl rfl ?_; refine Op.sA rfl rfl ty_sz_43 rfl rfl rfl rfl rfl ?_; refine WD.go (.inl rfl) (fun _ _ h => h.elim) ?_; refine WD.vl (i := 16) rfl (Yld.assign rfl rfl) ?_; refine WD.done zK ?_; refine WP.sub [(0, _), (2, _), (3, _), (4, _)] ?_ ⟨rfl, rfl, rfl, rfl, trivial⟩
  refine WP.next (WP.seq (WP.block (WP.seq ?_)))
  refine WP.region [0, 1, 2, 3, 4, 5, 6, 7] rfl ?_; refine WP.mv rfl rfl ?_; refine WP.vl rfl (Yld.neq rfl rfl rfl false (decide_eq_false (by simp))) ?_; refine WP.mv rfl rfl ?_; refine WP.valG rfl rfl rfl rfl rfl rfl rfl (Yld.fieldAddr rfl ty_fd_43_6 rfl) ?_; refine WP.valG rfl rfl rfl rfl rfl rfl rfl (Yld.ld (v := .int .i64 e.2.txn) rfl ty_sc_3 rfl rfl) ?_; refine WP.splitG rfl rfl rfl rfl rfl rfl rfl (Yld.eql rfl rfl rfl) (fun h0 => ?_) (fun h0 => ?_)
  ·refine WP.vl rfl (Yld.pickF rfl rfl rfl) ?_
   refine WP.mv rfl rfl ?_; refine WP.nil ?_; refine WP.sub [(0, _), (2, _), (3, _), (4, _), (19, _)] ?_ ⟨rfl, rfl, rfl, rfl, rfl, trivial⟩
   refine WP.next ?_; refine WP.condT rfl ?_; refine WP.seq ?_; refine WP.region [0, 1, 2, 3, 4, 5, 6] rfl ?_; refine WP.mv rfl rfl ?_; refine WP.vl rfl (Yld.nilCheck rfl rfl) ?_; refine WP.vl rfl (Yld.fieldAddr rfl ty_fd_72_0 rfl) ?_; refine WP.vl rfl (Yld.fieldAddr rfl ty_fd_58_0 rfl) ?_; refine WP.mv rfl rfl ?_; refine WP.loud rfl rfl ?_; refine Op.cl (txn_end (b := g)) rfl Tryz.func110 rfl rfl rfl rfl ?_; rintro v J L1 - ⟨rfl, rfl, rfl⟩
   try simp only [nf]
   refine WP.mv rfl rfl ?_; refine WP.nil ?_; refine WP.sub [(0, _), (2, _), (3, _), (4, _), (19, _)] ?_ ⟨rfl, rfl, rfl, rfl, rfl, trivial⟩
   refine WP.next (WP.ret ?_)
   refine WP.fn .ret (.inr rfl) (res1 rfl rfl) ([(g, row T (cmV l t (.nilFunc) (.func (.func 55) [.pointer (some ⟨g, 0, none⟩)].toArray [].toArray) ({ z.c with e := 0 } : Cm) (.slice Ac z.c.clear.length cc) (.slice An z.c.ent.nodes.length cn) (.slice Aw z.c.ent.with_.length cw) (.int .i64 z.page :: ex)))] ++ Lt2) hJ2 ?_; have e1 : z.begins tb = (true, z.fin 0) := by unfold Hm.begins; rw [hgt]; exact if_pos h0
   rw [e1]; exact ⟨rfl, _, _, rfl, .mk (hc.mono fun b o q => hJ2.2 b o q) (hn.mono hJ2) (hw.mono (Imv.le hJ2)) hs, hT⟩
  ·refine WP.vl rfl (Yld.pickF rfl rfl rfl) ?_
   refine WP.mv rfl rfl ?_; refine WP.nil ?_; refine WP.sub [(0, _), (2, _), (3, _), (4, _), (19, _)] ?_ ⟨rfl, rfl, rfl, rfl, rfl, trivial⟩
   refine WP.next ?_; refine WP.condF rfl ?_; refine WP.seq ?_; refine WQ.startAll Tryzmixed zK _ rfl ?_; refine WQ.val rfl rfl rfl (Yld.fieldAddr rfl ty_fd_43_7 rfl) ?_; refine WQ.val rfl rfl rfl (Yld.ld (v := .int .i64 e.2.lead) rfl ty_sc_3 rfl rfl) ?_; refine WQ.val rfl rfl rfl (Yld.move rfl rfl) ?_; refine WQ.val rfl rfl rfl (Yld.nilCheck rfl rfl) ?_; refine WQ.val rfl rfl rfl (Yld.fieldAddr rfl ty_fd_72_1 rfl) ?_; refine WQ.val rfl rfl rfl (Yld.ld (v := .int .i64 z.page) rfl ty_sc_3 rfl rfl) ?_; refine WQ.split rfl rfl rfl (Yld.eql rfl rfl rfl) (fun hld => ?_) (fun hld => ?_)
   ·refine WQ.val rfl rfl rfl (Yld.assign rfl rfl) ?_
    refine WQ.nil ?_; refine WP.sub [(0, _), (2, _), (3, _), (4, _), (19, _), (33, _)] ?_ ⟨rfl, rfl, rfl, rfl, rfl, rfl, trivial⟩
    refine WP.next ?_; refine WP.condT rfl ?_; refine WP.seq ?_; refine WP.region [0, 1, 2, 3] rfl ?_; refine WP.mv rfl rfl ?_; refine WP.vl rfl (Yld.ldg (vs := (entV e.2 (.slice An2 e.2.nodes.length cn2) (.slice Aw2 e.2.with_.length cw2))) rfl ty_ag_43 rfl rfl rfl) ?_; refine WP.loud rfl rfl ?_; refine Op.cl (txh_leads (IsHl.mk (g := g) (l := l) (t := t) (T := T) (ex := ex) (z := z) (hc.mono fun b o q => hJ2.2 b o q) (hn.mono hJ2) (hw.mono (Imv.le hJ2)) hs) hre (hes e hgt)) rfl Tryz.func117 rfl rfl rfl rfl ?_; rintro v J3 Lr hJ3 ⟨rfl, hres⟩
    try simp only [nf]
    refine WP.mv rfl rfl ?_; refine WP.nil ?_; refine WP.sub [(0, _), (2, _), (3, _), (4, _), (19, _), (33, _)] ?_ ⟨rfl, rfl, rfl, rfl, rfl, rfl, trivial⟩
    refine WP.next (WP.ret ?_)
    refine WP.fn .ret (.inr rfl) (res1 rfl rfl) (Lr ++ Lt2) (Imm.le_trans hJ2 hJ3) ?_; have e1 : z.begins tb = (false, z.leads e.2) := by unfold Hm.begins; rw [hgt]; exact (if_neg h0).trans (if_pos hld)
    rw [e1]; exact ⟨rfl, Lr, _, rfl, hres, hT.mono hJ3⟩
   ·refine WQ.val rfl rfl rfl (Yld.assign rfl rfl) ?_
    refine WQ.nil ?_; refine WP.sub [(0, _), (2, _), (3, _), (4, _), (19, _), (33, _)] ?_ ⟨rfl, rfl, rfl, rfl, rfl, rfl, trivial⟩
    refine WP.next ?_; refine WP.condF rfl ?_; refine WP.skip (WP.leave (WP.next (WP.seq ?_)))
    refine WD.start Tryzmixed 12 (fun c o => c = b3 ∧ o = row 43 (entV e.2 (.slice An2 e.2.nodes.length cn2) (.slice Aw2 e.2.with_.length cw2))) (fun _ _ => False) (by rintro _ _ ⟨rfl, rfl⟩; exact zM) (fun _ _ h => h.elim) 13 [false, false, false, false, false, false, false, false, false, false, false, false, false] rfl rfl ?_; refine WD.vl (i := 0) rfl (Yld.move rfl rfl) ?_; refine WD.vl (i := 1) rfl (Yld.move rfl rfl) ?_; refine WD.vl (i := 2) rfl (Yld.fieldAddr rfl ty_fd_43_7 rfl) ?_; refine WD.val1 (i := 3) rfl rfl rfl rfl zK rfl zK (Yld.load (v := .int .i64 e.2.lead) rfl ty_sc_3 rfl (.inl ⟨rfl, rfl⟩) rfl) ?_; refine WD.vl (i := 4) rfl (Yld.fieldAddr rfl ty_fd_43_6 rfl) ?_; refine WD.val1 (i := 5) rfl rfl rfl rfl zK rfl zK (Yld.load (v := .int .i64 e.2.txn) rfl ty_sc_3 rfl (.inl ⟨rfl, rfl⟩) rfl) ?_; refine WD.vl (i := 6) rfl (Yld.nilCheck rfl rfl) ?_; refine WD.vl (i := 7) rfl (Yld.fieldAddr rfl ty_fd_72_1 rfl) ?_; refine WD.loud (i := 8) zK rfl rfl rfl ?_; refine Op.s1 rfl rfl ty_sz_3 rfl rfl rfl ?_; refine WD.gR ?_; refine WD.vl (i := 9) rfl (Yld.nilCheck rfl rfl) ?_; refine WD.vl (i := 10) rfl (Yld.fieldAddr rfl ty_fd_72_0 rfl) ?_; refine WD.vl (i := 11) rfl (Yld.fieldAddr rfl ty_fd_58_1 rfl) ?_; refine WD.loud (i := 12) zK rfl rfl rfl ?_; refine Op.s1 rfl rfl ty_sz_3 rfl rfl rfl ?_; refine WD.go (.inl rfl) (fun _ _ h => h.elim) ?_; refine WD.done zK ?_; refine WP.sub [(0, _), (2, _), (3, _), (4, _), (19, _), (33, _)] ?_ ⟨rfl, rfl, rfl, rfl, rfl, rfl, trivial⟩
    refine WP.next (WP.seq ?_)
    refine WP.region [0, 1, 2, 3, 4, 5, 6, 7] rfl ?_; refine WP.mv rfl rfl ?_; refine WP.vl rfl (Yld.nilCheck rfl rfl) ?_; refine WP.vl rfl (Yld.fieldAddr rfl ty_fd_72_0 rfl) ?_; refine WP.vl rfl (Yld.fieldAddr rfl ty_fd_58_0 rfl) ?_; refine WP.mv rfl rfl ?_; refine WP.vl rfl (Yld.makeFunc rfl (vs := [_]) (us := []) rfl rfl) ?_; refine WP.loud rfl rfl ?_; refine Op.cl (txn_goes (b := g) (l := l) (t := t) (nx := hnextV g z.at_) (th := .func (.func 55) [.pointer (some ⟨g, 0, none⟩)].toArray [].toArray) (z := ({ z.c with txn := e.2.txn } : Cm)) (vc := .slice Ac z.c.clear.length cc) (vn := .slice An z.c.ent.nodes.length cn) (vw := .slice Aw z.c.ent.with_.length cw) (ex := .int .i64 e.2.lead :: ex)) rfl Tryz.func111 rfl rfl rfl rfl ?_; rintro v J L1 - ⟨rfl, rfl, rfl⟩
    try simp only [nf]
    refine WP.mv rfl rfl ?_; refine WP.nil ?_; refine WP.sub [(0, _), (2, _), (3, _), (4, _), (19, _), (33, _)] ?_ ⟨rfl, rfl, rfl, rfl, rfl, rfl, trivial⟩
    refine WP.next (WP.ret ?_)
    refine WP.fn .ret (.inr rfl) (res1 rfl rfl) ([(g, row T (cmV l t (hnextV g 1) (.func (.func 55) [.pointer (some ⟨g, 0, none⟩)].toArray [].toArray) ({ z.c with txn := e.2.txn } : Cm) (.slice Ac z.c.clear.length cc) (.slice An z.c.ent.nodes.length cn) (.slice Aw z.c.ent.with_.length cw) (.int .i64 e.2.lead :: ex)))] ++ Lt2) hJ2 ?_; have e1 : z.begins tb = (false, ({ z with page := e.2.lead, c := { z.c with txn := e.2.txn } } : Hm).go 1) := by unfold Hm.begins; rw [hgt]; exact (if_neg h0).trans (if_neg hld)
    rw [e1]; exact ⟨rfl, _, _, rfl, .mk (hc.mono fun b o q => hJ2.2 b o q) (hn.mono hJ2) (hw.mono (Imv.le hJ2)) hs, hT⟩

theorem txh_follows0 {I : Imm} {g l t T : Nat} {ex : List Value} {z : Hm} {Lgr : Chunks} (hg : IsHl I g l t T ex z Lgr) {tb : Tb} {Lt : Chunks} (hT : IsT I t tb Lt) (hgt : tb.get z.page = none) : Spec Tryz.prog 118 [.pointer (some ⟨g, 0, none⟩)] I (Lgr ++ Lt) (fun v J L => v = .bool (z.follows tb).1 ∧ ∃ Lg2 Lt2, L = Lg2 ++ Lt2 ∧ IsHl J g l t T ex (z.follows tb).2 Lg2 ∧ IsT J t tb Lt2) := by
 cases hg with
 | @mk vc vn vw hc hn hw hs =>
 obtain ⟨Ac, cc, rfl, hcc, _, _⟩ := id hc
 obtain ⟨nvn, hn1, hn2⟩ := id hn.ex
 obtain ⟨An, cn, rfl, _⟩ := hn1.slice'
 obtain ⟨Aw, cw, rfl, _⟩ := hw.slice'
 refine Spec.of Tryz.func118 rfl Tryz.ntmps118 (Nat.le_of_ble_eq_true rfl) (fun F => ?_)
 try simp only [nf]
 dsimp only [argsEnv]
 refine WP.seq ?_; refine WP.region [0] rfl ?_; refine WP.mv rfl rfl ?_; refine WP.nil (WP.next (WP.seq ?_))
 refine WD.start Tryzmixed 15 (fun c o => c = g ∧ o = row T (cmV l t (hnextV g z.at_) (.func (.func 55) [.pointer (some ⟨g, 0, none⟩)].toArray [].toArray) z.c (.slice Ac z.c.clear.length cc) (.slice An z.c.ent.nodes.length cn) (.slice Aw z.c.ent.with_.length cw) (.int .i64 z.page :: ex))) (fun _ _ => False) (by rintro _ _ ⟨rfl, rfl⟩; exact zM) (fun _ _ h => h.elim) 17 [false, false, false, false, false, false, false, false, false, false, false, false, false, false, false, false, false] rfl rfl ?_; refine WD.vl (i := 0) rfl (Yld.move rfl rfl) ?_; refine WD.vl (i := 1) rfl (Yld.nilCheck rfl rfl) ?_; refine WD.vl (i := 2) rfl (Yld.fieldAddr rfl ty_fd_72_0 rfl) ?_; refine WD.vl (i := 3) rfl (Yld.fieldAddr rfl ty_fd_58_0 rfl) ?_; refine WD.vl (i := 4) rfl (Yld.fieldAddr rfl ty_fd_54_1 rfl) ?_; refine WD.val1 (i := 5) rfl rfl rfl rfl zK rfl zK (Yld.load (v := .pointer (some ⟨t, 0, none⟩)) rfl ty_sc_32 rfl (.inl ⟨rfl, rfl⟩) rfl) ?_; refine WD.vl (i := 6) rfl (Yld.move rfl rfl) ?_; refine WD.vl (i := 7) rfl (Yld.nilCheck rfl rfl) ?_; refine WD.vl (i := 8) rfl (Yld.fieldAddr rfl ty_fd_72_1 rfl) ?_; refine WD.val1 (i := 9) rfl rfl rfl rfl zK rfl zK (Yld.load (v := .int .i64 z.page) rfl ty_sc_3 rfl (.inl ⟨rfl, rfl⟩) rfl) ?_; refine WD.both (i := 10) (j := 14) zK rfl rfl ?_ ?_
 ·refine WP.oper rfl rfl ?_
  refine Op.cl (tabT_Load0 hT hgt) rfl Tryz.func12 rfl rfl rfl rfl ?_; rintro v J Lt - ⟨rfl, rfl, rfl⟩
  try simp only [nf]
  refine WD.gR ?_; refine WD.vl (i := 11) rfl (Yld.move rfl rfl) ?_; refine WD.vl (i := 12) rfl (Yld.extract rfl rfl rfl) ?_; refine WD.vl (i := 13) rfl (Yld.extract rfl rfl rfl) ?_; refine WD.loud (i := 14) zK rfl rfl rfl ?_; refine Op.alloc rfl rfl rfl ty_zr_43 (fun b3 => ?_)
  refine WD.gR ?_; refine WD.loud (i := 15) zK rfl rfl rfl ?_; refine Op.sA rfl rfl ty_sz_43 rfl rfl rfl rfl rfl ?_; refine WD.go (.inl rfl) (fun _ _ h => h.elim) ?_; refine WD.vl (i := 16) rfl (Yld.assign rfl rfl) ?_; refine WD.done zK ?_; refine WP.sub [(0, _), (2, _), (3, _), (4, _)] ?_ ⟨rfl, rfl, rfl, rfl, trivial⟩
  refine WP.next (WP.seq (WP.seq ?_))
  refine WQ.startAll Tryzmixed zK _ rfl ?_; refine WQ.val rfl rfl rfl (Yld.move rfl rfl) ?_; refine WQ.val rfl rfl rfl (Yld.neq rfl rfl rfl true (decide_eq_true (by decide))) ?_; refine WQ.val rfl rfl rfl (Yld.move rfl rfl) ?_; iterate 8 refine WQ.passG rfl rfl rfl rfl rfl rfl rfl ?_
  refine WQ.val rfl rfl rfl (Yld.pickT rfl rfl rfl) ?_; refine WQ.nil ?_; refine WP.sub [(0, _), (2, _), (3, _), (4, _), (30, _)] ?_ ⟨rfl, rfl, rfl, rfl, rfl, trivial⟩
  refine WP.next ?_; refine WP.condT rfl ?_; refine WP.seq ?_; refine WP.region [0, 1, 2, 3, 4, 5] rfl ?_; refine WP.mv rfl rfl ?_; refine WP.vl rfl (Yld.nilCheck rfl rfl) ?_; refine WP.vl rfl (Yld.fieldAddr rfl ty_fd_72_0 rfl) ?_; refine WP.vl rfl (Yld.fieldAddr rfl ty_fd_58_0 rfl) ?_; refine WP.loud rfl rfl ?_; refine Op.cl (txn_end (b := g)) rfl Tryz.func110 rfl rfl rfl rfl ?_; rintro v J L1 - ⟨rfl, rfl, rfl⟩
  try simp only [nf]
  refine WP.mv rfl rfl ?_; refine WP.nil ?_; refine WP.sub [(0, _), (2, _), (3, _), (4, _), (30, _)] ?_ ⟨rfl, rfl, rfl, rfl, rfl, trivial⟩
  refine WP.next (WP.ret ?_)
  refine WP.fn .ret (.inr rfl) (res1 rfl rfl) ([(g, row T (cmV l t (.nilFunc) (.func (.func 55) [.pointer (some ⟨g, 0, none⟩)].toArray [].toArray) ({ z.c with e := 132 } : Cm) (.slice Ac z.c.clear.length cc) (.slice An z.c.ent.nodes.length cn) (.slice Aw z.c.ent.with_.length cw) (.int .i64 z.page :: ex)))] ++ Lt) (Imm.le_refl _) ?_; have e1 : z.follows tb = (true, z.fin 132) := by unfold Hm.follows; rw [hgt]
  rw [e1]; exact ⟨rfl, _, _, rfl, .mk hc hn hw hs, hT⟩
 ·refine WP.oper rfl rfl ?_
  refine Op.alloc rfl rfl rfl ty_zr_43 (fun b3 => ?_)
  refine WD.gR ?_; refine WD.loud (i := 10) zK rfl rfl rfl ?_; refine Op.cl (tabT_Load0 hT hgt) rfl Tryz.func12 rfl rfl rfl rfl ?_; rintro v J Lt - ⟨rfl, rfl, rfl⟩
  try simp only [nf]
  refine WD.gR ?_; refine WD.vl (i := 11) rfl (Yld.move rfl rfl) ?_; refine WD.vl (i := 12) rfl (Yld.extract rfl rfl rfl) ?_; refine WD.vl (i := 13) rfl (Yld.extract rfl rfl rfl) ?_; refine WD.loud (i := 15) zK rfl rfl rfl ?_; refine Op.sA rfl rfl ty_sz_43 rfl rfl rfl rfl rfl ?_; refine WD.go (.inl rfl) (fun _ _ h => h.elim) ?_; refine WD.vl (i := 16) rfl (Yld.assign rfl rfl) ?_; refine WD.done zK ?_; refine WP.sub [(0, _), (2, _), (3, _), (4, _)] ?_ ⟨rfl, rfl, rfl, rfl, trivial⟩
  refine WP.next (WP.seq (WP.seq ?_))
  refine WQ.startAll Tryzmixed zK _ rfl ?_; refine WQ.val rfl rfl rfl (Yld.move rfl rfl) ?_; refine WQ.val rfl rfl rfl (Yld.neq rfl rfl rfl true (decide_eq_true (by decide))) ?_; refine WQ.val rfl rfl rfl (Yld.move rfl rfl) ?_; iterate 8 refine WQ.passG rfl rfl rfl rfl rfl rfl rfl ?_
  refine WQ.val rfl rfl rfl (Yld.pickT rfl rfl rfl) ?_; refine WQ.nil ?_; refine WP.sub [(0, _), (2, _), (3, _), (4, _), (30, _)] ?_ ⟨rfl, rfl, rfl, rfl, rfl, trivial⟩
  refine WP.next ?_; refine WP.condT rfl ?_; refine WP.seq ?_; refine WP.region [0, 1, 2, 3, 4, 5] rfl ?_; refine WP.mv rfl rfl ?_; refine WP.vl rfl (Yld.nilCheck rfl rfl) ?_; refine WP.vl rfl (Yld.fieldAddr rfl ty_fd_72_0 rfl) ?_; refine WP.vl rfl (Yld.fieldAddr rfl ty_fd_58_0 rfl) ?_; refine WP.loud rfl rfl ?_; refine Op.cl (txn_end (b := g)) rfl Tryz.func110 rfl rfl rfl rfl ?_; rintro v J L1 - ⟨rfl, rfl, rfl⟩
  try simp only [nf]
  refine WP.mv rfl rfl ?_; refine WP.nil ?_; refine WP.sub [(0, _), (2, _), (3, _), (4, _), (30, _)] ?_ ⟨rfl, rfl, rfl, rfl, rfl, trivial⟩
  refine WP.next (WP.ret ?_)
  refine WP.fn .ret (.inr rfl) (res1 rfl rfl) ([(g, row T (cmV l t (.nilFunc) (.func (.func 55) [.pointer (some ⟨g, 0, none⟩)].toArray [].toArray) ({ z.c with e := 132 } : Cm) (.slice Ac z.c.clear.length cc) (.slice An z.c.ent.nodes.length cn) (.slice Aw z.c.ent.with_.length cw) (.int .i64 z.page :: ex)))] ++ Lt) (Imm.le_refl _) ?_; have e1 : z.follows tb = (true, z.fin 132) := by unfold Hm.follows; rw [hgt]
  rw [e1]; exact ⟨rfl, _, _, rfl, .mk hc hn hw hs, hT⟩

theorem txh_follows1 {I : Imm} {g l t T : Nat} {ex : List Value} {z : Hm} {Lgr : Chunks} (hg : IsHl I g l t T ex z Lgr) {tb : Tb} {Lt : Chunks} (hT : IsT I t tb Lt) {e : Nat × Ent} (hgt : tb.get z.page = some e) (hes : ∀ e, tb.get z.page = some e → e.2.sized) : Spec Tryz.prog 118 [.pointer (some ⟨g, 0, none⟩)] I (Lgr ++ Lt) (fun v J L => v = .bool (z.follows tb).1 ∧ ∃ Lg2 Lt2, L = Lg2 ++ Lt2 ∧ IsHl J g l t T ex (z.follows tb).2 Lg2 ∧ IsT J t tb Lt2) := by
 cases hg with
 | @mk vc vn vw hc hn hw hs =>
 obtain ⟨Ac, cc, rfl, hcc, _, _⟩ := id hc
 obtain ⟨nvn, hn1, hn2⟩ := id hn.ex
 obtain ⟨An, cn, rfl, _⟩ := hn1.slice'
 obtain ⟨Aw, cw, rfl, _⟩ := hw.slice'
 refine Spec.of Tryz.func118 rfl Tryz.ntmps118 (Nat.le_of_ble_eq_true rfl) (fun F => ?_)
 try simp only [nf]
 dsimp only [argsEnv]
 refine WP.seq ?_; refine WP.region [0] rfl ?_; refine WP.mv rfl rfl ?_; refine WP.nil (WP.next (WP.seq ?_))
 refine WD.start Tryzmixed 15 (fun c o => c = g ∧ o = row T (cmV l t (hnextV g z.at_) (.func (.func 55) [.pointer (some ⟨g, 0, none⟩)].toArray [].toArray) z.c (.slice Ac z.c.clear.length cc) (.slice An z.c.ent.nodes.length cn) (.slice Aw z.c.ent.with_.length cw) (.int .i64 z.page :: ex))) (fun _ _ => False) (by rintro _ _ ⟨rfl, rfl⟩; exact zM) (fun _ _ h => h.elim) 17 [false, false, false, false, false, false, false, false, false, false, false, false, false, false, false, false, false] rfl rfl ?_; refine WD.vl (i := 0) rfl (Yld.move rfl rfl) ?_; refine WD.vl (i := 1) rfl (Yld.nilCheck rfl rfl) ?_; refine WD.vl (i := 2) rfl (Yld.fieldAddr rfl ty_fd_72_0 rfl) ?_; refine WD.vl (i := 3) rfl (Yld.fieldAddr rfl ty_fd_58_0 rfl) ?_; refine WD.vl (i := 4) rfl (Yld.fieldAddr rfl ty_fd_54_1 rfl) ?_; refine WD.val1 (i := 5) rfl rfl rfl rfl zK rfl zK (Yld.load (v := .pointer (some ⟨t, 0, none⟩)) rfl ty_sc_32 rfl (.inl ⟨rfl, rfl⟩) rfl) ?_; refine WD.vl (i := 6) rfl (Yld.move rfl rfl) ?_; refine WD.vl (i := 7) rfl (Yld.nilCheck rfl rfl) ?_; refine WD.vl (i := 8) rfl (Yld.fieldAddr rfl ty_fd_72_1 rfl) ?_; refine WD.val1 (i := 9) rfl rfl rfl rfl zK rfl zK (Yld.load (v := .int .i64 z.page) rfl ty_sc_3 rfl (.inl ⟨rfl, rfl⟩) rfl) ?_; refine WD.both (i := 10) (j := 14) zK rfl rfl ?_ ?_
 ·refine WP.oper rfl rfl ?_
  refine Op.cl (tabT_Load1 hT hgt) rfl Tryz.func12 rfl rfl rfl rfl ?_; rintro v J2 Lt2 hJ2 ⟨cs, rfl, hre, hT⟩
  try simp only [nf]
  obtain ⟨vn2, vw2, nv2, rfl, q1, q2, q3⟩ := id hre.ex
  obtain ⟨An2, cn2, rfl, _⟩ := q1.slice'
  obtain ⟨Aw2, cw2, rfl, _⟩ := q3.slice'
  refine WD.gR ?_; refine WD.vl (i := 11) rfl (Yld.move rfl rfl) ?_; refine WD.vl (i := 12) rfl (Yld.extract rfl rfl rfl) ?_; refine WD.vl (i := 13) rfl (Yld.extract rfl rfl rfl) ?_; refine WD.loud (i := 14) zK rfl rfl rfl ?_; refine Op.alloc rfl rfl rfl ty_zr_43 (fun b3 => ?_)
  refine WD.gR ?_; refine WD.loud (i := 15) zK rfl rfl rfl ?_; refine Op.sA rfl rfl ty_sz_43 rfl rfl rfl rfl rfl ?_; refine WD.go (.inl rfl) (fun _ _ h => h.elim) ?_; refine WD.vl (i := 16) rfl (Yld.assign rfl rfl) ?_; refine WD.done zK ?_; refine WP.sub [(0, _), (2, _), (3, _), (4, _)] ?_ ⟨rfl, rfl, rfl, rfl, trivial⟩
  refine WP.next (WP.seq (WP.seq ?_))
  refine WQ.startAll Tryzmixed zK _ rfl ?_; refine WQ.val rfl rfl rfl (Yld.move rfl rfl) ?_; refine WQ.val rfl rfl rfl (Yld.neq rfl rfl rfl false (decide_eq_false (by simp))) ?_; refine WQ.val rfl rfl rfl (Yld.move rfl rfl) ?_; refine WQ.valG rfl rfl rfl rfl rfl rfl (Yld.fieldAddr rfl ty_fd_43_6 rfl) ?_; refine WQ.valG rfl rfl rfl rfl rfl rfl (Yld.ld (v := .int .i64 e.2.txn) rfl ty_sc_3 rfl rfl) ?_; refine WQ.valG rfl rfl rfl rfl rfl rfl (Yld.move rfl rfl) ?_; refine WQ.valG rfl rfl rfl rfl rfl rfl (Yld.nilCheck rfl rfl) ?_; refine WQ.valG rfl rfl rfl rfl rfl rfl (Yld.fieldAddr rfl ty_fd_72_0 rfl) ?_; refine WQ.valG rfl rfl rfl rfl rfl rfl (Yld.fieldAddr rfl ty_fd_58_1 rfl) ?_; refine WQ.valG rfl rfl rfl rfl rfl rfl (Yld.ld (v := .int .i64 z.c.txn) rfl ty_sc_3 rfl rfl) ?_; refine WQ.splitG rfl rfl rfl rfl rfl rfl (Yld.neq rfl rfl rfl) (fun hx => ?_) (fun hx => ?_)
  ·refine WQ.val rfl rfl rfl (Yld.pickF rfl rfl rfl) ?_
   refine WQ.nil ?_; refine WP.sub [(0, _), (2, _), (3, _), (4, _), (30, _)] ?_ ⟨rfl, rfl, rfl, rfl, rfl, trivial⟩
   refine WP.next ?_; refine WP.condT rfl ?_; refine WP.seq ?_; refine WP.region [0, 1, 2, 3, 4, 5] rfl ?_; refine WP.mv rfl rfl ?_; refine WP.vl rfl (Yld.nilCheck rfl rfl) ?_; refine WP.vl rfl (Yld.fieldAddr rfl ty_fd_72_0 rfl) ?_; refine WP.vl rfl (Yld.fieldAddr rfl ty_fd_58_0 rfl) ?_; refine WP.loud rfl rfl ?_; refine Op.cl (txn_end (b := g)) rfl Tryz.func110 rfl rfl rfl rfl ?_; rintro v J L1 - ⟨rfl, rfl, rfl⟩
   try simp only [nf]
   refine WP.mv rfl rfl ?_; refine WP.nil ?_; refine WP.sub [(0, _), (2, _), (3, _), (4, _), (30, _)] ?_ ⟨rfl, rfl, rfl, rfl, rfl, trivial⟩
   refine WP.next (WP.ret ?_)
   refine WP.fn .ret (.inr rfl) (res1 rfl rfl) ([(g, row T (cmV l t (.nilFunc) (.func (.func 55) [.pointer (some ⟨g, 0, none⟩)].toArray [].toArray) ({ z.c with e := 132 } : Cm) (.slice Ac z.c.clear.length cc) (.slice An z.c.ent.nodes.length cn) (.slice Aw z.c.ent.with_.length cw) (.int .i64 z.page :: ex)))] ++ Lt2) hJ2 ?_; have e1 : z.follows tb = (true, z.fin 132) := by unfold Hm.follows; rw [hgt]; exact if_pos hx
   rw [e1]; exact ⟨rfl, _, _, rfl, .mk (hc.mono fun b o q => hJ2.2 b o q) (hn.mono hJ2) (hw.mono (Imv.le hJ2)) hs, hT⟩
  ·refine WQ.val rfl rfl rfl (Yld.pickF rfl rfl rfl) ?_
   refine WQ.nil ?_; refine WP.sub [(0, _), (2, _), (3, _), (4, _), (30, _)] ?_ ⟨rfl, rfl, rfl, rfl, rfl, trivial⟩
   refine WP.next ?_; refine WP.condF rfl ?_; refine WP.skip (WP.next (WP.seq ?_))
   refine WP.region [0, 1, 2, 3] rfl ?_; refine WP.mv rfl rfl ?_; refine WP.vl rfl (Yld.ldg (vs := (entV e.2 (.slice An2 e.2.nodes.length cn2) (.slice Aw2 e.2.with_.length cw2))) rfl ty_ag_43 rfl rfl rfl) ?_; refine WP.loud rfl rfl ?_; refine Op.cl (txh_leads (IsHl.mk (g := g) (l := l) (t := t) (T := T) (ex := ex) (z := z) (hc.mono fun b o q => hJ2.2 b o q) (hn.mono hJ2) (hw.mono (Imv.le hJ2)) hs) hre (hes e hgt)) rfl Tryz.func117 rfl rfl rfl rfl ?_; rintro v J3 Lr hJ3 ⟨rfl, hres⟩
   try simp only [nf]
   refine WP.mv rfl rfl ?_; refine WP.nil ?_; refine WP.sub [(0, _), (2, _), (3, _), (4, _), (30, _)] ?_ ⟨rfl, rfl, rfl, rfl, rfl, trivial⟩
   refine WP.next (WP.ret ?_)
   refine WP.fn .ret (.inr rfl) (res1 rfl rfl) (Lr ++ Lt2) (Imm.le_trans hJ2 hJ3) ?_; have e1 : z.follows tb = (false, z.leads e.2) := by unfold Hm.follows; rw [hgt]; exact if_neg hx
   rw [e1]; exact ⟨rfl, Lr, _, rfl, hres, hT.mono hJ3⟩
 ·refine WP.oper rfl rfl ?_
  refine Op.alloc rfl rfl rfl ty_zr_43 (fun b3 => ?_)
  refine WD.gR ?_; refine WD.loud (i := 10) zK rfl rfl rfl ?_; refine Op.cl (tabT_Load1 hT hgt) rfl Tryz.func12 rfl rfl rfl rfl ?_; rintro v J2 Lt2 hJ2 ⟨cs, rfl, hre, hT⟩
  try simp only [nf]
  obtain ⟨vn2, vw2, nv2, rfl, q1, q2, q3⟩ := id hre.ex
  obtain ⟨An2, cn2, rfl, _⟩ := q1.slice'
  obtain ⟨Aw2, cw2, rfl, _⟩ := q3.slice'
  refine WD.gR ?_; refine WD.vl (i := 11) rfl (Yld.move rfl rfl) ?_; refine WD.vl (i := 12) rfl (Yld.extract rfl rfl rfl) ?_; refine WD.vl (i := 13) rfl (Yld.extract rfl rfl rfl) ?_; refine WD.loud (i := 15) zK rfl rfl rfl ?_; refine Op.sA rfl rfl ty_sz_43 rfl rfl rfl rfl rfl ?_; refine WD.go (.inl rfl) (fun _ _ h => h.elim) ?_; refine WD.vl (i := 16) rfl (Yld.assign rfl rfl) ?_; refine WD.done zK ?_; refine WP.sub [(0, _), (2, _), (3, _), (4, _)] ?_ ⟨rfl, rfl, rfl, rfl, trivial⟩
  refine WP.next (WP.seq (WP.seq ?_))
  refine WQ.startAll Tryzmixed zK _ rfl ?_; refine WQ.val rfl rfl rfl (Yld.move rfl rfl) ?_; refine WQ.val rfl rfl rfl (Yld.neq rfl rfl rfl false (decide_eq_false (by simp))) ?_; refine WQ.val rfl rfl rfl (Yld.move rfl rfl) ?_; refine WQ.valG rfl rfl rfl rfl rfl rfl (Yld.fieldAddr rfl ty_fd_43_6 rfl) ?_; refine WQ.valG rfl rfl rfl rfl rfl rfl (Yld.ld (v := .int .i64 e.2.txn) rfl ty_sc_3 rfl rfl) ?_; refine WQ.valG rfl rfl rfl rfl rfl rfl (Yld.move rfl rfl) ?_; refine WQ.valG rfl rfl rfl rfl rfl rfl (Yld.nilCheck rfl rfl) ?_; refine WQ.valG rfl rfl rfl rfl rfl rfl (Yld.fieldAddr rfl ty_fd_72_0 rfl) ?_; refine WQ.valG rfl rfl rfl rfl rfl rfl (Yld.fieldAddr rfl ty_fd_58_1 rfl) ?_; refine WQ.valG rfl rfl rfl rfl rfl rfl (Yld.ld (v := .int .i64 z.c.txn) rfl ty_sc_3 rfl rfl) ?_; refine WQ.splitG rfl rfl rfl rfl rfl rfl (Yld.neq rfl rfl rfl) (fun hx => ?_) (fun hx => ?_)
  ·refine WQ.val rfl rfl rfl (Yld.pickF rfl rfl rfl) ?_
   refine WQ.nil ?_; refine WP.sub [(0, _), (2, _), (3, _), (4, _), (30, _)] ?_ ⟨rfl, rfl, rfl, rfl, rfl, trivial⟩
   refine WP.next ?_; refine WP.condT rfl ?_; refine WP.seq ?_; refine WP.region [0, 1, 2, 3, 4, 5] rfl ?_; refine WP.mv rfl rfl ?_; refine WP.vl rfl (Yld.nilCheck rfl rfl) ?_; refine WP.vl rfl (Yld.fieldAddr rfl ty_fd_72_0 rfl) ?_; refine WP.vl rfl (Yld.fieldAddr rfl ty_fd_58_0 rfl) ?_; refine WP.loud rfl rfl ?_; refine Op.cl (txn_end (b := g)) rfl Tryz.func110 rfl rfl rfl rfl ?_; rintro v J L1 - ⟨rfl, rfl, rfl⟩
   try simp only [nf]
   refine WP.mv rfl rfl ?_; refine WP.nil ?_; refine WP.sub [(0, _), (2, _), (3, _), (4, _), (30, _)] ?_ ⟨rfl, rfl, rfl, rfl, rfl, trivial⟩
   refine WP.next (WP.ret ?_)
   refine WP.fn .ret (.inr rfl) (res1 rfl rfl) ([(g, row T (cmV l t (.nilFunc) (.func (.func 55) [.pointer (some ⟨g, 0, none⟩)].toArray [].toArray) ({ z.c with e := 132 } : Cm) (.slice Ac z.c.clear.length cc) (.slice An z.c.ent.nodes.length cn) (.slice Aw z.c.ent.with_.length cw) (.int .i64 z.page :: ex)))] ++ Lt2) hJ2 ?_; have e1 : z.follows tb = (true, z.fin 132) := by unfold Hm.follows; rw [hgt]; exact if_pos hx
   rw [e1]; exact ⟨rfl, _, _, rfl, .mk (hc.mono fun b o q => hJ2.2 b o q) (hn.mono hJ2) (hw.mono (Imv.le hJ2)) hs, hT⟩
  ·refine WQ.val rfl rfl rfl (Yld.pickF rfl rfl rfl) ?_
   refine WQ.nil ?_; refine WP.sub [(0, _), (2, _), (3, _), (4, _), (30, _)] ?_ ⟨rfl, rfl, rfl, rfl, rfl, trivial⟩
   refine WP.next ?_; refine WP.condF rfl ?_; refine WP.skip (WP.next (WP.seq ?_))
   refine WP.region [0, 1, 2, 3] rfl ?_; refine WP.mv rfl rfl ?_; refine WP.vl rfl (Yld.ldg (vs := (entV e.2 (.slice An2 e.2.nodes.length cn2) (.slice Aw2 e.2.with_.length cw2))) rfl ty_ag_43 rfl rfl rfl) ?_; refine WP.loud rfl rfl ?_; refine Op.cl (txh_leads (IsHl.mk (g := g) (l := l) (t := t) (T := T) (ex := ex) (z := z) (hc.mono fun b o q => hJ2.2 b o q) (hn.mono hJ2) (hw.mono (Imv.le hJ2)) hs) hre (hes e hgt)) rfl Tryz.func117 rfl rfl rfl rfl ?_; rintro v J3 Lr hJ3 ⟨rfl, hres⟩
   try simp only [nf]
   refine WP.mv rfl rfl ?_; refine WP.nil ?_; refine WP.sub [(0, _), (2, _), (3, _), (4, _), (30, _)] ?_ ⟨rfl, rfl, rfl, rfl, rfl, trivial⟩
   refine WP.next (WP.ret ?_)
   refine WP.fn .ret (.inr rfl) (res1 rfl rfl) (Lr ++ Lt2) (Imm.le_trans hJ2 hJ3) ?_; have e1 : z.follows tb = (false, z.leads e.2) := by unfold Hm.follows; rw [hgt]; exact if_neg hx
   rw [e1]; exact ⟨rfl, Lr, _, rfl, hres, hT.mono hJ3⟩

theorem txh_Got {I : Imm} {g l t T : Nat} {ex : List Value} {z : Hm} {Lgr : Chunks} (hg : IsHl I g l t T ex z Lgr) : Spec Tryz.prog 22 [.pointer (some ⟨g, 0, none⟩)] I Lgr (fun v J L => v = .int .i64 z.c.e ∧ I = J ∧ L = Lgr) := by
 cases hg with
 | @mk vc vn vw hc hn hw hs =>
 obtain ⟨Ac, cc, rfl, hcc, _, _⟩ := id hc
 obtain ⟨nvn, hn1, hn2⟩ := id hn.ex
 obtain ⟨An, cn, rfl, _⟩ := hn1.slice'
 obtain ⟨Aw, cw, rfl, _⟩ := hw.slice'
 refine Spec.of Tryz.func22 rfl Tryz.ntmps22 (Nat.le_of_ble_eq_true rfl) (fun F => ?_)
 try simp only [nf]
 dsimp only [argsEnv]
 refine WP.seq ?_; refine WP.region [0] rfl ?_; refine WP.mv rfl rfl ?_; refine WP.nil (WP.next (WP.seq ?_))
 refine WP.region [0, 1, 2, 3, 4, 5, 6] rfl ?_; refine WP.mv rfl rfl ?_; refine WP.vl rfl (Yld.nilCheck rfl rfl) ?_; refine WP.vl rfl (Yld.fieldAddr rfl ty_fd_72_0 rfl) ?_; refine WP.vl rfl (Yld.fieldAddr rfl ty_fd_58_0 rfl) ?_; refine WP.vl rfl (Yld.fieldAddr rfl ty_fd_54_3 rfl) ?_; refine WP.vl rfl (Yld.ld (v := .int .i64 z.c.e) rfl ty_sc_27 rfl rfl) ?_; refine WP.mv rfl rfl ?_; refine WP.nil ?_; refine WP.sub [(0, _), (2, _)] ?_ ⟨rfl, rfl, trivial⟩
 refine WP.next (WP.ret ?_)
 refine WP.fn .ret (.inr rfl) (res1 rfl rfl) [(g, row T (cmV l t (hnextV g z.at_) (.func (.func 55) [.pointer (some ⟨g, 0, none⟩)].toArray [].toArray) z.c (.slice Ac z.c.clear.length cc) (.slice An z.c.ent.nodes.length cn) (.slice Aw z.c.ent.with_.length cw) (.int .i64 z.page :: ex)))] (Imm.le_refl _) ?_; exact ⟨rfl, rfl, rfl⟩


theorem txh_begin {I : Imm} {g l t T : Nat} {ex : List Value} {z : Hm} {Lgr : Chunks} (hg : IsHl I g l t T ex z Lgr) {tb : Tb} {Lt : Chunks} (hT : IsT I t tb Lt) : Spec Tryz.prog 57 [.pointer (some ⟨g, 0, none⟩)] I (Lgr ++ Lt) (fun v J L => v = .bool (z.begins tb).1 ∧ ∃ Lg2 Lt2, L = Lg2 ++ Lt2 ∧ IsHl J g l t T ex (z.begins tb).2 Lg2 ∧ IsT J t tb Lt2) := by
 cases hgt : tb.get z.page with
 | none => exact txh_begin0 hg hT hgt
 | some e => exact txh_begin1 hg hT hgt (fun e he => (hT.ent he).1)

theorem txh_follows {I : Imm} {g l t T : Nat} {ex : List Value} {z : Hm} {Lgr : Chunks} (hg : IsHl I g l t T ex z Lgr) {tb : Tb} {Lt : Chunks} (hT : IsT I t tb Lt) : Spec Tryz.prog 118 [.pointer (some ⟨g, 0, none⟩)] I (Lgr ++ Lt) (fun v J L => v = .bool (z.follows tb).1 ∧ ∃ Lg2 Lt2, L = Lg2 ++ Lt2 ∧ IsHl J g l t T ex (z.follows tb).2 Lg2 ∧ IsT J t tb Lt2) := by
 cases hgt : tb.get z.page with
 | none => exact txh_follows0 hg hT hgt
 | some e => exact txh_follows1 hg hT hgt (fun e he => (hT.ent he).1)

end Go.Hp
