import Derived.Test.YtcebcphnmbhcpaaGreatCacA
set_option linter.unusedVariables false
set_option linter.unusedSimpArgs false
namespace Go.Hp
open Go Go.Proofs

theorem IsT.ent {J : Imm} {t : Nat} {x : Tb} {L : Chunks} (h : IsT J t x L) {p : Int} {e : Nat × Ent} (he : x.get p = some e) : entOk J e := by cases h with | mk h => exact h.entOk he


structure Fl where
 at_ : Nat
 c : Mc
 full : Bool
 hn : Nat
 hp : Nat
 r : Pr
 no : Nat
def flV (m : Nat) (z : Fl) (vr : Value) : List Value := [.pointer (some ⟨m, 0, none⟩), .bool z.full, .int .i64 (z.hn : Int), .int .i64 (z.hp : Int), .int .i64 z.r.page, .int .i64 z.r.prev, vr, .int .i64 (z.no : Int)]
def flN (b : Nat) : Nat → Value
 | 1 => .func (.func 40) [.pointer (some ⟨b, 0, none⟩)].toArray [].toArray
 | 2 => .func (.func 61) [.pointer (some ⟨b, 0, none⟩)].toArray [].toArray
 | 3 => .func (.func 73) [.pointer (some ⟨b, 0, none⟩)].toArray [].toArray
 | 4 => .func (.func 80) [.pointer (some ⟨b, 0, none⟩)].toArray [].toArray
 | _ => .nilFunc
/-- A flush: 1 loads, 2 takes, 3 appends, 4 swaps, 9 has ended. -/
inductive IsFl (J : Imm) (f m s : Nat) (z : Fl) : Chunks → Prop
 | mk {vr : Value} {Lm : Chunks} (hr : RNodes J vr z.r.nodes) (hm : IsMc J m s (flN f z.at_) z.c Lm) : IsFl J f m s z (Lm ++ [(f, row 106 (flV m z vr))])
theorem IsFl.mono {I J : Imm} {f m s : Nat} {z : Fl} {L : Chunks} (h : IsFl I f m s z L) (hJ : I.le J) : IsFl J f m s z L := by
 cases h with
 | mk hr hm => exact .mk (hr.mono hJ) (hm.mono hJ)
def Fl.go (z : Fl) (k : Nat) : Fl := { z with at_ := k }
def Fl.setE (z : Fl) (e : Ent) : Fl := { z with c := { z.c with ent := e } }
def Fl.fin (z : Fl) (x : Ent) (e : Int) : Fl := { z with at_ := 9, c := z.c.fin x e }
def Fl.loads (z : Fl) (e : Ent) : Bool × Fl :=
 if e.nodes.length = 0 ∧ 0 < e.place ∧ z.full = true then (true, (z.setE e).fin e 131)
 else if e.nodes.length = 0 ∨ (e.kept = e.nodes.length ∧ z.full = false) then (true, (z.setE e).fin e 0)
 else (false, (z.setE e).go 2)
/-- What a flush writes. -/
def Fl.rc (z : Fl) : Pr := if z.full = false ∧ 0 < z.c.ent.place then ⟨z.c.page, z.c.ent.place, z.c.ent.nodes.take (z.c.ent.nodes.length - z.c.ent.kept.toNat)⟩ else ⟨z.c.page, 0, z.c.ent.nodes⟩
def Fl.setR (z : Fl) (r : Pr) : Fl := { z with r := r }
def Fl.appends (z : Fl) (e : Int) (no : Nat) : Bool × Fl := if e = 0 then (false, ({ z with no := no } : Fl).go 4) else if e = 5 then (false, z.go 2) else (true, z.fin z.c.ent e)
def Fl.ent2 (z : Fl) : Ent := { z.c.ent with place := z.hp, no := z.no, kept := z.c.ent.nodes.length, low := if z.r.prev = 0 then (z.hp : Int) else z.c.ent.low }
def Fl.swaps (z : Fl) (r : Int) : Bool × Fl := if r = 5 then (false, z.go 1) else (true, z.fin z.ent2 r)
theorem app1 {A B : Chunks} {x : Nat × Obj} : A ++ (x :: B) = (A ++ [x]) ++ B := by simp
structure LdX where
 b : Nat
 J : Imm
 A : Option Addr
 c : Nat
 B : Option Addr
 d : Nat
 L : Chunks
theorem fl_away {z : Fl} {e : Ent} (h1 : e.nodes.length = 0) (h2 : 0 < e.place) (h3 : z.full = true) : z.loads e = (true, (z.setE e).fin e 131) := if_pos ⟨h1, h2, h3⟩
theorem fl_kept {z : Fl} {e : Ent} (h : ¬ (e.nodes.length = 0 ∧ 0 < e.place ∧ z.full = true)) (h2 : e.nodes.length = 0 ∨ (e.kept = e.nodes.length ∧ z.full = false)) : z.loads e = (true, (z.setE e).fin e 0) := (if_neg h).trans (if_pos h2)
theorem fl_goes {z : Fl} {e : Ent} (h : ¬ e.nodes.length = 0) (h2 : ¬ (e.kept = e.nodes.length ∧ z.full = false)) : z.loads e = (false, (z.setE e).go 2) := (if_neg (fun q => h q.1)).trans (if_neg (fun q => q.elim h h2))
theorem fl_loads {I : Imm} {f m s : Nat} {z : Fl} {Lf : Chunks} (hf : IsFl I f m s z Lf) {l t : Nat} {tb : Tb} {Lt : Chunks} (hst : I.blk s = some (row 88 [.pointer (some ⟨t, 0, none⟩), .pointer (some ⟨l, 0, none⟩)])) (hT : IsT I t tb Lt) {e : Ent} (hg : tb.ent z.c.page = some e) (hx : e.txn = 0) : Spec Tryz.prog 40 [.pointer (some ⟨f, 0, none⟩)] I (Lf ++ Lt) (fun v J L => v = .bool (z.loads e).1 ∧ ∃ Lf2 Lt2, L = Lf2 ++ Lt2 ∧ IsFl J f m s (z.loads e).2 Lf2 ∧ IsT J t tb Lt2) := by
 cases hf with
 | @mk vr Lm hr hm =>
 cases hm with
 | @mk vn vw un uw hn hw hs on ow os =>
 obtain ⟨nvn, hn1, hn2⟩ := id hn.ex
 obtain ⟨An, cn, rfl, _⟩ := hn1.slice'
 obtain ⟨Aw, cw, rfl, _⟩ := hw.slice'
 obtain ⟨nvr, hr1, hr2⟩ := id hr.ex
 obtain ⟨Ar, cr, rfl, _⟩ := hr1.slice'
 refine Spec.of Tryz.func40 rfl Tryz.ntmps40 (Nat.le_of_ble_eq_true rfl) (fun F => ?_)
 try simp only [nf]
 dsimp only [argsEnv]
 refine WP.seq ?_; refine WP.region [0] rfl ?_; refine WP.mv rfl rfl ?_; refine WP.nil (WP.next ?_)
 refine WP.cut (X := LdX) (fun u : LdX => [(0, .pointer (some ⟨f, 0, none⟩)), (3, .pointer (some ⟨u.b, 0, none⟩)), (4, .int .i64 0)]) (fun u => u.J) (fun u : LdX => (u.b, row 50 [.int .u64 (e.tok : Int), .slice u.A e.nodes.length u.c, .int .i64 e.place, .int .i64 e.no, .int .i64 e.low, .int .i64 e.kept, .int .i64 e.txn, .int .i64 e.lead, .slice u.B e.with_.length u.d]) :: ((f, row 106 (flV m (z) (.slice Ar z.r.nodes.length cr))) :: ((m, row 110 (mcV s (flN f z.at_) (z.c) (.slice An z.c.ent.nodes.length cn) (.slice Aw z.c.ent.with_.length cw) (un) (uw))) :: (u.L ++ F)))) (fun u : LdX => I.le u.J ∧ RNodes u.J (.slice u.A e.nodes.length u.c) e.nodes ∧ SlRd (Imv u.J) (.slice u.B e.with_.length u.d) e.with_.length 1 (e.with_.map (Value.int .i64)) ∧ e.sized ∧ IsT u.J t tb u.L) ?_ ?_
 ·skip
  refine WD.start Tryzmixed 17 (fun c o => (c = f ∧ o = row 106 (flV m (z) (.slice Ar z.r.nodes.length cr))) ∨ (c = m ∧ o = row 110 (mcV s (flN f z.at_) (z.c) (.slice An z.c.ent.nodes.length cn) (.slice Aw z.c.ent.with_.length cw) (un) (uw))) ∨ I.blk c = some o) (fun _ _ => False) (by rintro _ _ (⟨rfl, rfl⟩ | ⟨rfl, rfl⟩ | h); exact zM; exact zM; exact There.i h) (fun _ _ h => h.elim) 24 [false, false, false, false, false, false, false, false, false, false, false, false, false, false, false, false, false, false, false, false, false, false, false, false] rfl rfl ?_; refine WD.vl (i := 0) rfl (Yld.move rfl rfl) ?_; refine WD.vl (i := 1) rfl (Yld.nilCheck rfl rfl) ?_; refine WD.vl (i := 2) rfl (Yld.fieldAddr rfl ty_fd_106_0 rfl) ?_; refine WD.val1 (i := 3) rfl rfl rfl rfl zK rfl zK (Yld.load (v := .pointer (some ⟨m, 0, none⟩)) rfl ty_sc_55 rfl (.inl (.inl ⟨rfl, rfl⟩)) rfl) ?_; refine WD.vl (i := 4) rfl (Yld.nilCheck rfl rfl) ?_; refine WD.vl (i := 5) rfl (Yld.fieldAddr rfl ty_fd_110_0 rfl) ?_; refine WD.val1 (i := 6) rfl rfl rfl rfl zK rfl zK (Yld.load (v := .pointer (some ⟨s, 0, none⟩)) rfl ty_sc_26 rfl (.inl (.inr (.inl ⟨rfl, rfl⟩))) rfl) ?_; refine WD.vl (i := 7) rfl (Yld.nilCheck rfl rfl) ?_; refine WD.vl (i := 8) rfl (Yld.fieldAddr rfl ty_fd_88_0 rfl) ?_; refine WD.val1 (i := 9) rfl rfl rfl rfl zK rfl zK (Yld.load (v := .pointer (some ⟨t, 0, none⟩)) rfl ty_sc_31 rfl (.inl (.inr (.inr hst))) rfl) ?_; refine WD.vl (i := 10) rfl (Yld.move rfl rfl) ?_; refine WD.vl (i := 11) rfl (Yld.nilCheck rfl rfl) ?_
  refine WD.vl (i := 12) rfl (Yld.fieldAddr rfl ty_fd_106_0 rfl) ?_; refine WD.val1 (i := 13) rfl rfl rfl rfl zK rfl zK (Yld.load (v := .pointer (some ⟨m, 0, none⟩)) rfl ty_sc_55 rfl (.inl (.inl ⟨rfl, rfl⟩)) rfl) ?_; refine WD.vl (i := 14) rfl (Yld.nilCheck rfl rfl) ?_; refine WD.vl (i := 15) rfl (Yld.fieldAddr rfl ty_fd_110_2 rfl) ?_; refine WD.val1 (i := 16) rfl rfl rfl rfl zK rfl zK (Yld.load (v := .int .i64 z.c.page) rfl ty_sc_3 rfl (.inl (.inr (.inl ⟨rfl, rfl⟩))) rfl) ?_; refine WD.both (i := 17) (j := 21) zK rfl rfl ?_ ?_
  ·refine WP.oper rfl rfl ?_
   refine Op.cl (tabT_LoadE hT hg) rfl Tryz.func20 rfl rfl rfl rfl ?_; rintro v J2 Lt2 hJ2 ⟨cs, rfl, hre, hT2⟩
   try simp only [nf]
   obtain ⟨vn2, vw2, nv2, rfl, q1, q2, q3⟩ := id hre.ex
   obtain ⟨An2, cn2, rfl, _⟩ := q1.slice'
   obtain ⟨Aw2, cw2, rfl, _⟩ := q3.slice'
   have hes : e.sized := by obtain ⟨_, hg2⟩ := Tb.ent_get hg; exact (hT.ent hg2).1
   have hqn : RNodes J2 (.slice An2 e.nodes.length cn2) e.nodes := ⟨nv2, q1, q2⟩
   refine WD.go (.inl rfl) (fun _ _ h => h.elim) ?_; refine WD.vl (i := 18) rfl (Yld.move rfl rfl) ?_; refine WD.vl (i := 19) rfl (Yld.extract rfl rfl rfl) ?_; refine WD.vl (i := 20) rfl (Yld.extract rfl rfl rfl) ?_; refine WD.loud (i := 21) zK rfl rfl rfl ?_; refine Op.alloc rfl rfl rfl ty_zr_50 (fun b3 => ?_)
   refine WD.go (.inl rfl) (fun _ _ h => h.elim) ?_; refine WD.loud (i := 22) zK rfl rfl rfl ?_; refine Op.sA rfl rfl ty_sz_50 rfl rfl rfl rfl rfl ?_; refine WD.go (.inl rfl) (fun _ _ h => h.elim) ?_; refine WD.vl (i := 23) rfl (Yld.assign rfl rfl) ?_; refine WD.done zK ?_; refine WP.sub [(0, _), (2, _), (3, _), (4, _)] ?_ ⟨rfl, rfl, rfl, rfl, trivial⟩
   exact WP.meet (⟨b3, J2, An2, cn2, Aw2, cw2, Lt2⟩ : LdX) ⟨hJ2, hqn, q3, hes, hT2⟩ ⟨rfl, rfl, rfl, trivial⟩ rfl zA
  ·refine WP.oper rfl rfl ?_
   refine Op.alloc rfl rfl rfl ty_zr_50 (fun b3 => ?_)
   refine WD.go (.inr (by rintro _ _ (⟨rfl, rfl⟩ | ⟨rfl, rfl⟩ | h); exact zM; exact zM; exact There.i h)) (fun _ _ h => h.elim) ?_; refine WD.loud (i := 17) zK rfl rfl rfl ?_; refine Op.cl (tabT_LoadE hT hg) rfl Tryz.func20 rfl rfl rfl rfl ?_; rintro v J2 Lt2 hJ2 ⟨cs, rfl, hre, hT2⟩
   try simp only [nf]
   obtain ⟨vn2, vw2, nv2, rfl, q1, q2, q3⟩ := id hre.ex
   obtain ⟨An2, cn2, rfl, _⟩ := q1.slice'
   obtain ⟨Aw2, cw2, rfl, _⟩ := q3.slice'
   have hes : e.sized := by obtain ⟨_, hg2⟩ := Tb.ent_get hg; exact (hT.ent hg2).1
   have hqn : RNodes J2 (.slice An2 e.nodes.length cn2) e.nodes := ⟨nv2, q1, q2⟩
   refine WD.go (.inl rfl) (fun _ _ h => h.elim) ?_; refine WD.vl (i := 18) rfl (Yld.move rfl rfl) ?_; refine WD.vl (i := 19) rfl (Yld.extract rfl rfl rfl) ?_; refine WD.vl (i := 20) rfl (Yld.extract rfl rfl rfl) ?_; refine WD.loud (i := 22) zK rfl rfl rfl ?_; refine Op.sA rfl rfl ty_sz_50 rfl rfl rfl rfl rfl ?_; refine WD.go (.inl rfl) (fun _ _ h => h.elim) ?_; refine WD.vl (i := 23) rfl (Yld.assign rfl rfl) ?_; refine WD.done zK ?_; refine WP.sub [(0, _), (2, _), (3, _), (4, _)] ?_ ⟨rfl, rfl, rfl, rfl, trivial⟩
   exact WP.meet (⟨b3, J2, An2, cn2, Aw2, cw2, Lt2⟩ : LdX) ⟨hJ2, hqn, q3, hes, hT2⟩ ⟨rfl, rfl, rfl, trivial⟩ rfl zA
 ·rintro ⟨b3, J2, An2, cn2, Aw2, cw2, Lt2⟩ ⟨hJ2, hqn, q3, hes, hT2⟩; dsimp only at hJ2 hqn q3 hes hT2 ⊢
  refine WP.seq ?_; refine WQ.start Tryzmixed 7 zK _ rfl [7] rfl ?_; refine WQ.val rfl rfl rfl (Yld.move rfl rfl) ?_; refine WQ.val rfl rfl rfl (Yld.nilCheck rfl rfl) ?_; refine WQ.val rfl rfl rfl (Yld.fieldAddr rfl ty_fd_106_0 rfl) ?_; refine WQ.val rfl rfl rfl (Yld.ld rfl ty_sc_55 rfl rfl) ?_; refine WQ.val rfl rfl rfl (Yld.ldg (vs := [.int .u64 (e.tok : Int), .slice An2 e.nodes.length cn2, .int .i64 e.place, .int .i64 e.no, .int .i64 e.low, .int .i64 e.kept, .int .i64 e.txn, .int .i64 e.lead, .slice Aw2 e.with_.length cw2]) rfl ty_ag_50 rfl rfl rfl) ?_; refine WQ.val rfl rfl rfl (Yld.nilCheck rfl rfl) ?_; refine WQ.val rfl rfl rfl (Yld.fieldAddr rfl ty_fd_110_3 rfl) ?_; refine WQ.nil ?_; refine WP.loud rfl rfl ?_; refine Op.storeN rfl rfl ty_sz_50 rfl rfl rfl (by rfl) (Nat.le_of_ble_eq_true rfl) (show mcV s (flN f z.at_) ({ z.c with ent := e }) (.slice An2 e.nodes.length cn2) (.slice Aw2 e.with_.length cw2) un uw = _ from rfl) (by repeat (first | exact Upd.head | apply Upd.tail | apply Upd.tailS)) ?_; refine WP.nil ?_; refine WP.sub [(0, _), (3, _), (4, _)] ?_ ⟨rfl, rfl, rfl, trivial⟩
  have hmm : IsMc J2 m s (flN f z.at_) ({ z.c with ent := e }) [(m, row 110 (mcV s (flN f z.at_) ({ z.c with ent := e }) (.slice An2 e.nodes.length cn2) (.slice Aw2 e.with_.length cw2) (un) (uw)))] := .mk (z := { z.c with ent := e }) hqn q3 hes (on.mono hJ2) (ow.mono (Imv.le hJ2)) os
  refine WP.next (WP.seq (WP.block (WP.seq ?_)))
  refine WP.region [0, 1, 2] rfl ?_; refine WP.mv rfl rfl ?_; refine WP.vl rfl (Yld.neq rfl rfl rfl false (decide_eq_false (by simp))) ?_; refine WP.mv rfl rfl ?_; refine WP.nil ?_; refine WP.sub [(0, _), (3, _), (4, _), (33, _)] ?_ ⟨rfl, rfl, rfl, rfl, trivial⟩
  refine WP.next ?_; refine WP.condF rfl ?_; refine WP.seq ?_; refine WP.region [0, 1, 2, 3] rfl ?_; refine WP.vl rfl (Yld.fieldAddr rfl ty_fd_50_6 rfl) ?_; refine WP.vl rfl (Yld.ld (v := .int .i64 e.txn) rfl ty_sc_3 rfl rfl) ?_; refine WP.vl rfl (Yld.neq rfl rfl rfl false (decide_eq_false (by exact fun h => h hx))) ?_; refine WP.mv rfl rfl ?_; refine WP.nil ?_; refine WP.sub [(0, _), (3, _), (4, _), (33, _), (43, _)] ?_ ⟨rfl, rfl, rfl, rfl, rfl, trivial⟩
  refine WP.next ?_; refine WP.condF rfl ?_; refine WP.seq ?_; refine WP.region [0, 1, 2, 3, 4, 5, 6, 7, 8, 9, 10, 11, 12, 13, 14, 15] rfl ?_; refine WP.vl rfl (Yld.fieldAddr rfl ty_fd_50_1 rfl) ?_; refine WP.vl rfl (Yld.ld (v := .slice An2 e.nodes.length cn2) rfl ty_sc_45 rfl rfl) ?_; refine WP.vl rfl (Yld.len rfl ty_sl_45 rfl) ?_; refine WP.split rfl rfl rfl rfl (Yld.eql rfl rfl rfl) (fun h73 => ?_) (fun h73 => ?_)
  ·refine WP.mv rfl rfl ?_
   refine WP.valG rfl rfl rfl rfl rfl rfl rfl (Yld.fieldAddr rfl ty_fd_50_2 rfl) ?_; refine WP.valG rfl rfl rfl rfl rfl rfl rfl (Yld.ld (v := .int .i64 e.place) rfl ty_sc_3 rfl rfl) ?_; refine WP.splitG rfl rfl rfl rfl rfl rfl rfl (Yld.gtr rfl rfl rfl) (fun h77 => ?_) (fun h77 => ?_)
   ·refine WP.vl rfl (Yld.pickT rfl rfl rfl) ?_
    refine WP.mv rfl rfl ?_; refine WP.valG rfl rfl rfl rfl rfl rfl rfl (Yld.move rfl rfl) ?_; refine WP.valG rfl rfl rfl rfl rfl rfl rfl (Yld.nilCheck rfl rfl) ?_; refine WP.valG rfl rfl rfl rfl rfl rfl rfl (Yld.fieldAddr rfl ty_fd_106_1 rfl) ?_; refine WP.valG rfl rfl rfl rfl rfl rfl rfl (Yld.ld (v := .bool z.full) rfl ty_sc_4 rfl rfl) ?_; by_cases hfu : z.full = true
    ·try rw [hfu]
     refine WP.vl rfl (Yld.pickT rfl rfl rfl) ?_; refine WP.mv rfl rfl ?_; refine WP.nil ?_; refine WP.sub [(0, _), (3, _), (4, _), (33, _), (43, _), (53, _)] ?_ ⟨rfl, rfl, rfl, rfl, rfl, rfl, trivial⟩
     refine WP.next ?_; refine WP.condT rfl ?_; refine WP.seq ?_; refine WQ.start Tryzmixed 5 zK _ rfl [5, 6] rfl ?_; refine WQ.val rfl rfl rfl (Yld.move rfl rfl) ?_; refine WQ.val rfl rfl rfl (Yld.nilCheck rfl rfl) ?_; refine WQ.val rfl rfl rfl (Yld.fieldAddr rfl ty_fd_106_0 rfl) ?_; refine WQ.val rfl rfl rfl (Yld.ld rfl ty_sc_55 rfl rfl) ?_; refine WQ.val rfl rfl rfl (Yld.ldg (vs := [.int .u64 (e.tok : Int), .slice An2 e.nodes.length cn2, .int .i64 e.place, .int .i64 e.no, .int .i64 e.low, .int .i64 e.kept, .int .i64 e.txn, .int .i64 e.lead, .slice Aw2 e.with_.length cw2]) rfl ty_ag_50 rfl rfl rfl) ?_; refine WQ.nil ?_; refine WP.loud rfl rfl ?_; refine Op.cl (cac_end hmm hqn q3 hes) rfl Tryz.func59 rfl rfl rfl rfl ?_; rintro v J Lm2 - ⟨rfl, rfl, hm2⟩
     try simp only [nf]
     refine WP.mv rfl rfl ?_; refine WP.nil ?_; refine WP.sub [(0, _), (2, _), (3, _), (4, _), (33, _), (43, _), (53, _)] ?_ ⟨rfl, rfl, rfl, rfl, rfl, rfl, rfl, trivial⟩
     refine WP.next (WP.ret ?_)
     refine WP.fn .ret (.inr rfl) (res1 rfl rfl) (Lm2 ++ ((f, row 106 (flV m (z) (.slice Ar z.r.nodes.length cr))) :: Lt2)) hJ2 ?_; have e1 := fl_away (z := z) (e := e) (by omega) h77 hfu
     rw [e1]; exact ⟨rfl, _, Lt2, app1, .mk (z := (z.setE e).fin e _) (hr.mono hJ2) hm2, hT2⟩
    ·have hfu : z.full = false := eq_false_of_ne_true hfu
     try rw [hfu]
     refine WP.vl rfl (Yld.pickT rfl rfl rfl) ?_; refine WP.mv rfl rfl ?_; refine WP.nil ?_; refine WP.sub [(0, _), (3, _), (4, _), (33, _), (43, _), (53, _)] ?_ ⟨rfl, rfl, rfl, rfl, rfl, rfl, trivial⟩
     refine WP.next ?_; refine WP.condF rfl ?_; refine WP.seq ?_; refine WP.region [0, 1, 2, 3, 4, 5, 6, 7, 8, 9, 10, 11, 12, 13, 14, 15, 16, 17, 18, 19] rfl ?_; refine WP.vl rfl (Yld.fieldAddr rfl ty_fd_50_1 rfl) ?_; refine WP.vl rfl (Yld.ld (v := .slice An2 e.nodes.length cn2) rfl ty_sc_45 rfl rfl) ?_; refine WP.vl rfl (Yld.len rfl ty_sl_45 rfl) ?_; refine WP.split rfl rfl rfl rfl (Yld.eql rfl rfl rfl) (fun h93 => ?_) (fun h93 => ?_)
     ·refine WP.mv rfl rfl ?_
      iterate 13 refine WP.passG rfl rfl rfl rfl rfl rfl rfl rfl ?_
      refine WP.vl rfl (Yld.pickT rfl rfl rfl) ?_; refine WP.mv rfl rfl ?_; refine WP.nil ?_; refine WP.sub [(0, _), (3, _), (4, _), (33, _), (43, _), (53, _), (75, _)] ?_ ⟨rfl, rfl, rfl, rfl, rfl, rfl, rfl, trivial⟩
      refine WP.next ?_; refine WP.condT rfl ?_; refine WP.seq ?_; refine WQ.start Tryzmixed 5 zK _ rfl [5, 6] rfl ?_; refine WQ.val rfl rfl rfl (Yld.move rfl rfl) ?_; refine WQ.val rfl rfl rfl (Yld.nilCheck rfl rfl) ?_; refine WQ.val rfl rfl rfl (Yld.fieldAddr rfl ty_fd_106_0 rfl) ?_; refine WQ.val rfl rfl rfl (Yld.ld rfl ty_sc_55 rfl rfl) ?_; refine WQ.val rfl rfl rfl (Yld.ldg (vs := [.int .u64 (e.tok : Int), .slice An2 e.nodes.length cn2, .int .i64 e.place, .int .i64 e.no, .int .i64 e.low, .int .i64 e.kept, .int .i64 e.txn, .int .i64 e.lead, .slice Aw2 e.with_.length cw2]) rfl ty_ag_50 rfl rfl rfl) ?_; refine WQ.nil ?_; refine WP.loud rfl rfl ?_; refine Op.cl (cac_end hmm hqn q3 hes) rfl Tryz.func59 rfl rfl rfl rfl ?_; rintro v J Lm2 - ⟨rfl, rfl, hm2⟩
      try simp only [nf]
      refine WP.mv rfl rfl ?_; refine WP.nil ?_; refine WP.sub [(0, _), (2, _), (3, _), (4, _), (33, _), (43, _), (53, _), (75, _)] ?_ ⟨rfl, rfl, rfl, rfl, rfl, rfl, rfl, rfl, trivial⟩
      refine WP.next (WP.ret ?_)
      refine WP.fn .ret (.inr rfl) (res1 rfl rfl) (Lm2 ++ ((f, row 106 (flV m (z) (.slice Ar z.r.nodes.length cr))) :: Lt2)) hJ2 ?_; have e1 := fl_kept (z := z) (e := e) (fun q => by rw [hfu] at q; cases q.2.2) (.inl (by omega))
      rw [e1]; exact ⟨rfl, _, Lt2, app1, .mk (z := (z.setE e).fin e _) (hr.mono hJ2) hm2, hT2⟩
     ·refine WP.mv rfl rfl ?_
      refine WP.valG rfl rfl rfl rfl rfl rfl rfl (Yld.fieldAddr rfl ty_fd_50_5 rfl) ?_; refine WP.valG rfl rfl rfl rfl rfl rfl rfl (Yld.ld (v := .int .i64 e.kept) rfl ty_sc_3 rfl rfl) ?_; refine WP.valG rfl rfl rfl rfl rfl rfl rfl (Yld.fieldAddr rfl ty_fd_50_1 rfl) ?_; refine WP.valG rfl rfl rfl rfl rfl rfl rfl (Yld.ld (v := .slice An2 e.nodes.length cn2) rfl ty_sc_45 rfl rfl) ?_; refine WP.valG rfl rfl rfl rfl rfl rfl rfl (Yld.len rfl ty_sl_45 rfl) ?_; refine WP.splitG rfl rfl rfl rfl rfl rfl rfl (Yld.eql rfl rfl rfl) (fun h910 => ?_) (fun h910 => ?_)
      ·refine WP.valG rfl rfl rfl rfl rfl rfl rfl (Yld.move rfl rfl) ?_
       refine WP.valG rfl rfl rfl rfl rfl rfl rfl (Yld.move rfl rfl) ?_; refine WP.valG rfl rfl rfl rfl rfl rfl rfl (Yld.nilCheck rfl rfl) ?_; refine WP.valG rfl rfl rfl rfl rfl rfl rfl (Yld.fieldAddr rfl ty_fd_106_1 rfl) ?_; refine WP.valG rfl rfl rfl rfl rfl rfl rfl (Yld.ld (v := .bool z.full) rfl ty_sc_4 rfl rfl) ?_; by_cases hfu2 : z.full = true
       ·try rw [hfu2]
        refine WP.valG rfl rfl rfl rfl rfl rfl rfl (Yld.not rfl rfl) ?_; refine WP.valG rfl rfl rfl rfl rfl rfl rfl (Yld.pickT rfl rfl rfl) ?_; refine WP.vl rfl (Yld.pickF rfl rfl rfl) ?_; refine WP.mv rfl rfl ?_; refine WP.nil ?_; refine WP.sub [(0, _), (3, _), (4, _), (33, _), (43, _), (53, _), (75, _)] ?_ ⟨rfl, rfl, rfl, rfl, rfl, rfl, rfl, trivial⟩
        refine WP.next ?_; refine WP.condF rfl ?_; refine WP.skip (WP.leave (WP.next (WP.seq ?_)))
        refine WP.region [0, 1, 2, 3, 4, 5, 6, 7] rfl ?_; refine WP.mv rfl rfl ?_; refine WP.vl rfl (Yld.nilCheck rfl rfl) ?_; refine WP.vl rfl (Yld.fieldAddr rfl ty_fd_106_0 rfl) ?_; refine WP.vl rfl (Yld.ld rfl ty_sc_55 rfl rfl) ?_; refine WP.mv rfl rfl ?_; refine WP.vl rfl (Yld.makeFunc rfl (vs := [_]) (us := []) rfl rfl) ?_; refine WP.loud rfl rfl ?_; refine Op.cl (cac_goes hmm) rfl Tryz.func60 rfl rfl rfl rfl ?_; rintro v J Lm2 - ⟨rfl, rfl, hm2⟩
        try simp only [nf]
        refine WP.mv rfl rfl ?_; refine WP.nil ?_; refine WP.sub [(0, _), (2, _), (3, _), (4, _), (33, _), (43, _), (53, _), (75, _)] ?_ ⟨rfl, rfl, rfl, rfl, rfl, rfl, rfl, rfl, trivial⟩
        refine WP.next (WP.ret ?_)
        refine WP.fn .ret (.inr rfl) (res1 rfl rfl) (Lm2 ++ ((f, row 106 (flV m (z) (.slice Ar z.r.nodes.length cr))) :: Lt2)) hJ2 ?_; have e1 := fl_goes (z := z) (e := e) (by omega) (fun q => by rw [hfu2] at q; cases q.2)
        rw [e1]; exact ⟨rfl, _, Lt2, app1, .mk (z := (z.setE e).go 2) (hr.mono hJ2) hm2, hT2⟩
       ·have hfu2 : z.full = false := eq_false_of_ne_true hfu2
        try rw [hfu2]
        refine WP.valG rfl rfl rfl rfl rfl rfl rfl (Yld.not rfl rfl) ?_; refine WP.valG rfl rfl rfl rfl rfl rfl rfl (Yld.pickT rfl rfl rfl) ?_; refine WP.vl rfl (Yld.pickF rfl rfl rfl) ?_; refine WP.mv rfl rfl ?_; refine WP.nil ?_; refine WP.sub [(0, _), (3, _), (4, _), (33, _), (43, _), (53, _), (75, _)] ?_ ⟨rfl, rfl, rfl, rfl, rfl, rfl, rfl, trivial⟩
        refine WP.next ?_; refine WP.condT rfl ?_; refine WP.seq ?_; refine WQ.start Tryzmixed 5 zK _ rfl [5, 6] rfl ?_; refine WQ.val rfl rfl rfl (Yld.move rfl rfl) ?_; refine WQ.val rfl rfl rfl (Yld.nilCheck rfl rfl) ?_; refine WQ.val rfl rfl rfl (Yld.fieldAddr rfl ty_fd_106_0 rfl) ?_; refine WQ.val rfl rfl rfl (Yld.ld rfl ty_sc_55 rfl rfl) ?_; refine WQ.val rfl rfl rfl (Yld.ldg (vs := [.int .u64 (e.tok : Int), .slice An2 e.nodes.length cn2, .int .i64 e.place, .int .i64 e.no, .int .i64 e.low, .int .i64 e.kept, .int .i64 e.txn, .int .i64 e.lead, .slice Aw2 e.with_.length cw2]) rfl ty_ag_50 rfl rfl rfl) ?_; refine WQ.nil ?_; refine WP.loud rfl rfl ?_; refine Op.cl (cac_end hmm hqn q3 hes) rfl Tryz.func59 rfl rfl rfl rfl ?_; rintro v J Lm2 - ⟨rfl, rfl, hm2⟩
        try simp only [nf]
        refine WP.mv rfl rfl ?_; refine WP.nil ?_; refine WP.sub [(0, _), (2, _), (3, _), (4, _), (33, _), (43, _), (53, _), (75, _)] ?_ ⟨rfl, rfl, rfl, rfl, rfl, rfl, rfl, rfl, trivial⟩
        refine WP.next (WP.ret ?_)
        refine WP.fn .ret (.inr rfl) (res1 rfl rfl) (Lm2 ++ ((f, row 106 (flV m (z) (.slice Ar z.r.nodes.length cr))) :: Lt2)) hJ2 ?_; have e1 := fl_kept (z := z) (e := e) (fun q => h93 (by omega)) (.inr ⟨by omega, hfu2⟩)
        rw [e1]; exact ⟨rfl, _, Lt2, app1, .mk (z := (z.setE e).fin e _) (hr.mono hJ2) hm2, hT2⟩
      ·refine WP.valG rfl rfl rfl rfl rfl rfl rfl (Yld.move rfl rfl) ?_
       iterate 5 refine WP.passG rfl rfl rfl rfl rfl rfl rfl rfl ?_
       refine WP.valG rfl rfl rfl rfl rfl rfl rfl (Yld.pickF rfl rfl rfl) ?_; refine WP.vl rfl (Yld.pickF rfl rfl rfl) ?_; refine WP.mv rfl rfl ?_; refine WP.nil ?_; refine WP.sub [(0, _), (3, _), (4, _), (33, _), (43, _), (53, _), (75, _)] ?_ ⟨rfl, rfl, rfl, rfl, rfl, rfl, rfl, trivial⟩
       refine WP.next ?_; refine WP.condF rfl ?_; refine WP.skip (WP.leave (WP.next (WP.seq ?_)))
       refine WP.region [0, 1, 2, 3, 4, 5, 6, 7] rfl ?_; refine WP.mv rfl rfl ?_; refine WP.vl rfl (Yld.nilCheck rfl rfl) ?_; refine WP.vl rfl (Yld.fieldAddr rfl ty_fd_106_0 rfl) ?_; refine WP.vl rfl (Yld.ld rfl ty_sc_55 rfl rfl) ?_; refine WP.mv rfl rfl ?_; refine WP.vl rfl (Yld.makeFunc rfl (vs := [_]) (us := []) rfl rfl) ?_; refine WP.loud rfl rfl ?_; refine Op.cl (cac_goes hmm) rfl Tryz.func60 rfl rfl rfl rfl ?_; rintro v J Lm2 - ⟨rfl, rfl, hm2⟩
       try simp only [nf]
       refine WP.mv rfl rfl ?_; refine WP.nil ?_; refine WP.sub [(0, _), (2, _), (3, _), (4, _), (33, _), (43, _), (53, _), (75, _)] ?_ ⟨rfl, rfl, rfl, rfl, rfl, rfl, rfl, rfl, trivial⟩
       refine WP.next (WP.ret ?_)
       refine WP.fn .ret (.inr rfl) (res1 rfl rfl) (Lm2 ++ ((f, row 106 (flV m (z) (.slice Ar z.r.nodes.length cr))) :: Lt2)) hJ2 ?_; have e1 := fl_goes (z := z) (e := e) (by omega) (fun q => by omega)
       rw [e1]; exact ⟨rfl, _, Lt2, app1, .mk (z := (z.setE e).go 2) (hr.mono hJ2) hm2, hT2⟩
   ·refine WP.vl rfl (Yld.pickT rfl rfl rfl) ?_
    refine WP.mv rfl rfl ?_; iterate 4 refine WP.passG rfl rfl rfl rfl rfl rfl rfl rfl ?_
    refine WP.vl rfl (Yld.pickF rfl rfl rfl) ?_; refine WP.mv rfl rfl ?_; refine WP.nil ?_; refine WP.sub [(0, _), (3, _), (4, _), (33, _), (43, _), (53, _)] ?_ ⟨rfl, rfl, rfl, rfl, rfl, rfl, trivial⟩
    refine WP.next ?_; refine WP.condF rfl ?_; refine WP.seq ?_; refine WP.region [0, 1, 2, 3, 4, 5, 6, 7, 8, 9, 10, 11, 12, 13, 14, 15, 16, 17, 18, 19] rfl ?_; refine WP.vl rfl (Yld.fieldAddr rfl ty_fd_50_1 rfl) ?_; refine WP.vl rfl (Yld.ld (v := .slice An2 e.nodes.length cn2) rfl ty_sc_45 rfl rfl) ?_; refine WP.vl rfl (Yld.len rfl ty_sl_45 rfl) ?_; refine WP.split rfl rfl rfl rfl (Yld.eql rfl rfl rfl) (fun h93 => ?_) (fun h93 => ?_)
    ·refine WP.mv rfl rfl ?_
     iterate 13 refine WP.passG rfl rfl rfl rfl rfl rfl rfl rfl ?_
     refine WP.vl rfl (Yld.pickT rfl rfl rfl) ?_; refine WP.mv rfl rfl ?_; refine WP.nil ?_; refine WP.sub [(0, _), (3, _), (4, _), (33, _), (43, _), (53, _), (75, _)] ?_ ⟨rfl, rfl, rfl, rfl, rfl, rfl, rfl, trivial⟩
     refine WP.next ?_; refine WP.condT rfl ?_; refine WP.seq ?_; refine WQ.start Tryzmixed 5 zK _ rfl [5, 6] rfl ?_; refine WQ.val rfl rfl rfl (Yld.move rfl rfl) ?_; refine WQ.val rfl rfl rfl (Yld.nilCheck rfl rfl) ?_; refine WQ.val rfl rfl rfl (Yld.fieldAddr rfl ty_fd_106_0 rfl) ?_; refine WQ.val rfl rfl rfl (Yld.ld rfl ty_sc_55 rfl rfl) ?_; refine WQ.val rfl rfl rfl (Yld.ldg (vs := [.int .u64 (e.tok : Int), .slice An2 e.nodes.length cn2, .int .i64 e.place, .int .i64 e.no, .int .i64 e.low, .int .i64 e.kept, .int .i64 e.txn, .int .i64 e.lead, .slice Aw2 e.with_.length cw2]) rfl ty_ag_50 rfl rfl rfl) ?_; refine WQ.nil ?_; refine WP.loud rfl rfl ?_; refine Op.cl (cac_end hmm hqn q3 hes) rfl Tryz.func59 rfl rfl rfl rfl ?_; rintro v J Lm2 - ⟨rfl, rfl, hm2⟩
     try simp only [nf]
     refine WP.mv rfl rfl ?_; refine WP.nil ?_; refine WP.sub [(0, _), (2, _), (3, _), (4, _), (33, _), (43, _), (53, _), (75, _)] ?_ ⟨rfl, rfl, rfl, rfl, rfl, rfl, rfl, rfl, trivial⟩
     refine WP.next (WP.ret ?_)
     refine WP.fn .ret (.inr rfl) (res1 rfl rfl) (Lm2 ++ ((f, row 106 (flV m (z) (.slice Ar z.r.nodes.length cr))) :: Lt2)) hJ2 ?_; have e1 := fl_kept (z := z) (e := e) (fun q => h77 q.2.1) (.inl (by omega))
     rw [e1]; exact ⟨rfl, _, Lt2, app1, .mk (z := (z.setE e).fin e _) (hr.mono hJ2) hm2, hT2⟩
    ·refine WP.mv rfl rfl ?_
     refine WP.valG rfl rfl rfl rfl rfl rfl rfl (Yld.fieldAddr rfl ty_fd_50_5 rfl) ?_; refine WP.valG rfl rfl rfl rfl rfl rfl rfl (Yld.ld (v := .int .i64 e.kept) rfl ty_sc_3 rfl rfl) ?_; refine WP.valG rfl rfl rfl rfl rfl rfl rfl (Yld.fieldAddr rfl ty_fd_50_1 rfl) ?_; refine WP.valG rfl rfl rfl rfl rfl rfl rfl (Yld.ld (v := .slice An2 e.nodes.length cn2) rfl ty_sc_45 rfl rfl) ?_; refine WP.valG rfl rfl rfl rfl rfl rfl rfl (Yld.len rfl ty_sl_45 rfl) ?_; refine WP.splitG rfl rfl rfl rfl rfl rfl rfl (Yld.eql rfl rfl rfl) (fun h910 => ?_) (fun h910 => ?_)
     ·refine WP.valG rfl rfl rfl rfl rfl rfl rfl (Yld.move rfl rfl) ?_
      refine WP.valG rfl rfl rfl rfl rfl rfl rfl (Yld.move rfl rfl) ?_; refine WP.valG rfl rfl rfl rfl rfl rfl rfl (Yld.nilCheck rfl rfl) ?_; refine WP.valG rfl rfl rfl rfl rfl rfl rfl (Yld.fieldAddr rfl ty_fd_106_1 rfl) ?_; refine WP.valG rfl rfl rfl rfl rfl rfl rfl (Yld.ld (v := .bool z.full) rfl ty_sc_4 rfl rfl) ?_; by_cases hfu2 : z.full = true
      ·try rw [hfu2]
       refine WP.valG rfl rfl rfl rfl rfl rfl rfl (Yld.not rfl rfl) ?_; refine WP.valG rfl rfl rfl rfl rfl rfl rfl (Yld.pickT rfl rfl rfl) ?_; refine WP.vl rfl (Yld.pickF rfl rfl rfl) ?_; refine WP.mv rfl rfl ?_; refine WP.nil ?_; refine WP.sub [(0, _), (3, _), (4, _), (33, _), (43, _), (53, _), (75, _)] ?_ ⟨rfl, rfl, rfl, rfl, rfl, rfl, rfl, trivial⟩
       refine WP.next ?_; refine WP.condF rfl ?_; refine WP.skip (WP.leave (WP.next (WP.seq ?_)))
       refine WP.region [0, 1, 2, 3, 4, 5, 6, 7] rfl ?_; refine WP.mv rfl rfl ?_; refine WP.vl rfl (Yld.nilCheck rfl rfl) ?_; refine WP.vl rfl (Yld.fieldAddr rfl ty_fd_106_0 rfl) ?_; refine WP.vl rfl (Yld.ld rfl ty_sc_55 rfl rfl) ?_; refine WP.mv rfl rfl ?_; refine WP.vl rfl (Yld.makeFunc rfl (vs := [_]) (us := []) rfl rfl) ?_; refine WP.loud rfl rfl ?_; refine Op.cl (cac_goes hmm) rfl Tryz.func60 rfl rfl rfl rfl ?_; rintro v J Lm2 - ⟨rfl, rfl, hm2⟩
       try simp only [nf]
       refine WP.mv rfl rfl ?_; refine WP.nil ?_; refine WP.sub [(0, _), (2, _), (3, _), (4, _), (33, _), (43, _), (53, _), (75, _)] ?_ ⟨rfl, rfl, rfl, rfl, rfl, rfl, rfl, rfl, trivial⟩
       refine WP.next (WP.ret ?_)
       refine WP.fn .ret (.inr rfl) (res1 rfl rfl) (Lm2 ++ ((f, row 106 (flV m (z) (.slice Ar z.r.nodes.length cr))) :: Lt2)) hJ2 ?_; have e1 := fl_goes (z := z) (e := e) (by omega) (fun q => by rw [hfu2] at q; cases q.2)
       rw [e1]; exact ⟨rfl, _, Lt2, app1, .mk (z := (z.setE e).go 2) (hr.mono hJ2) hm2, hT2⟩
      ·have hfu2 : z.full = false := eq_false_of_ne_true hfu2
       try rw [hfu2]
       refine WP.valG rfl rfl rfl rfl rfl rfl rfl (Yld.not rfl rfl) ?_; refine WP.valG rfl rfl rfl rfl rfl rfl rfl (Yld.pickT rfl rfl rfl) ?_; refine WP.vl rfl (Yld.pickF rfl rfl rfl) ?_; refine WP.mv rfl rfl ?_; refine WP.nil ?_; refine WP.sub [(0, _), (3, _), (4, _), (33, _), (43, _), (53, _), (75, _)] ?_ ⟨rfl, rfl, rfl, rfl, rfl, rfl, rfl, trivial⟩
       refine WP.next ?_; refine WP.condT rfl ?_; refine WP.seq ?_; refine WQ.start Tryzmixed 5 zK _ rfl [5, 6] rfl ?_; refine WQ.val rfl rfl rfl (Yld.move rfl rfl) ?_; refine WQ.val rfl rfl rfl (Yld.nilCheck rfl rfl) ?_; refine WQ.val rfl rfl rfl (Yld.fieldAddr rfl ty_fd_106_0 rfl) ?_; refine WQ.val rfl rfl rfl (Yld.ld rfl ty_sc_55 rfl rfl) ?_; refine WQ.val rfl rfl rfl (Yld.ldg (vs := [.int .u64 (e.tok : Int), .slice An2 e.nodes.length cn2, .int .i64 e.place, .int .i64 e.no, .int .i64 e.low, .int .i64 e.kept, .int .i64 e.txn, .int .i64 e.lead, .slice Aw2 e.with_.length cw2]) rfl ty_ag_50 rfl rfl rfl) ?_; refine WQ.nil ?_; refine WP.loud rfl rfl ?_; refine Op.cl (cac_end hmm hqn q3 hes) rfl Tryz.func59 rfl rfl rfl rfl ?_; rintro v J Lm2 - ⟨rfl, rfl, hm2⟩
       try simp only [nf]
       refine WP.mv rfl rfl ?_; refine WP.nil ?_; refine WP.sub [(0, _), (2, _), (3, _), (4, _), (33, _), (43, _), (53, _), (75, _)] ?_ ⟨rfl, rfl, rfl, rfl, rfl, rfl, rfl, rfl, trivial⟩
       refine WP.next (WP.ret ?_)
       refine WP.fn .ret (.inr rfl) (res1 rfl rfl) (Lm2 ++ ((f, row 106 (flV m (z) (.slice Ar z.r.nodes.length cr))) :: Lt2)) hJ2 ?_; have e1 := fl_kept (z := z) (e := e) (fun q => h93 (by omega)) (.inr ⟨by omega, hfu2⟩)
       rw [e1]; exact ⟨rfl, _, Lt2, app1, .mk (z := (z.setE e).fin e _) (hr.mono hJ2) hm2, hT2⟩
     ·refine WP.valG rfl rfl rfl rfl rfl rfl rfl (Yld.move rfl rfl) ?_
      iterate 5 refine WP.passG rfl rfl rfl rfl rfl rfl rfl rfl ?_
      refine WP.valG rfl rfl rfl rfl rfl rfl rfl (Yld.pickF rfl rfl rfl) ?_; refine WP.vl rfl (Yld.pickF rfl rfl rfl) ?_; refine WP.mv rfl rfl ?_; refine WP.nil ?_; refine WP.sub [(0, _), (3, _), (4, _), (33, _), (43, _), (53, _), (75, _)] ?_ ⟨rfl, rfl, rfl, rfl, rfl, rfl, rfl, trivial⟩
      refine WP.next ?_; refine WP.condF rfl ?_; refine WP.skip (WP.leave (WP.next (WP.seq ?_)))
      refine WP.region [0, 1, 2, 3, 4, 5, 6, 7] rfl ?_; refine WP.mv rfl rfl ?_; refine WP.vl rfl (Yld.nilCheck rfl rfl) ?_; refine WP.vl rfl (Yld.fieldAddr rfl ty_fd_106_0 rfl) ?_; refine WP.vl rfl (Yld.ld rfl ty_sc_55 rfl rfl) ?_; refine WP.mv rfl rfl ?_; refine WP.vl rfl (Yld.makeFunc rfl (vs := [_]) (us := []) rfl rfl) ?_; refine WP.loud rfl rfl ?_; refine Op.cl (cac_goes hmm) rfl Tryz.func60 rfl rfl rfl rfl ?_; rintro v J Lm2 - ⟨rfl, rfl, hm2⟩
      try simp only [nf]
      refine WP.mv rfl rfl ?_; refine WP.nil ?_; refine WP.sub [(0, _), (2, _), (3, _), (4, _), (33, _), (43, _), (53, _), (75, _)] ?_ ⟨rfl, rfl, rfl, rfl, rfl, rfl, rfl, rfl, trivial⟩
      refine WP.next (WP.ret ?_)
      refine WP.fn .ret (.inr rfl) (res1 rfl rfl) (Lm2 ++ ((f, row 106 (flV m (z) (.slice Ar z.r.nodes.length cr))) :: Lt2)) hJ2 ?_; have e1 := fl_goes (z := z) (e := e) (by omega) (fun q => by omega)
      rw [e1]; exact ⟨rfl, _, Lt2, app1, .mk (z := (z.setE e).go 2) (hr.mono hJ2) hm2, hT2⟩
  ·refine WP.mv rfl rfl ?_
   iterate 3 refine WP.passG rfl rfl rfl rfl rfl rfl rfl rfl ?_
   refine WP.vl rfl (Yld.pickF rfl rfl rfl) ?_; refine WP.mv rfl rfl ?_; iterate 4 refine WP.passG rfl rfl rfl rfl rfl rfl rfl rfl ?_
   refine WP.vl rfl (Yld.pickF rfl rfl rfl) ?_; refine WP.mv rfl rfl ?_; refine WP.nil ?_; refine WP.sub [(0, _), (3, _), (4, _), (33, _), (43, _), (53, _)] ?_ ⟨rfl, rfl, rfl, rfl, rfl, rfl, trivial⟩
   refine WP.next ?_; refine WP.condF rfl ?_; refine WP.seq ?_; refine WP.region [0, 1, 2, 3, 4, 5, 6, 7, 8, 9, 10, 11, 12, 13, 14, 15, 16, 17, 18, 19] rfl ?_; refine WP.vl rfl (Yld.fieldAddr rfl ty_fd_50_1 rfl) ?_; refine WP.vl rfl (Yld.ld (v := .slice An2 e.nodes.length cn2) rfl ty_sc_45 rfl rfl) ?_; refine WP.vl rfl (Yld.len rfl ty_sl_45 rfl) ?_; refine WP.split rfl rfl rfl rfl (Yld.eql rfl rfl rfl) (fun h93 => ?_) (fun h93 => ?_)
   ·refine WP.mv rfl rfl ?_
    iterate 13 refine WP.passG rfl rfl rfl rfl rfl rfl rfl rfl ?_
    refine WP.vl rfl (Yld.pickT rfl rfl rfl) ?_; refine WP.mv rfl rfl ?_; refine WP.nil ?_; refine WP.sub [(0, _), (3, _), (4, _), (33, _), (43, _), (53, _), (75, _)] ?_ ⟨rfl, rfl, rfl, rfl, rfl, rfl, rfl, trivial⟩
    refine WP.next ?_; refine WP.condT rfl ?_; refine WP.seq ?_; refine WQ.start Tryzmixed 5 zK _ rfl [5, 6] rfl ?_; refine WQ.val rfl rfl rfl (Yld.move rfl rfl) ?_; refine WQ.val rfl rfl rfl (Yld.nilCheck rfl rfl) ?_; refine WQ.val rfl rfl rfl (Yld.fieldAddr rfl ty_fd_106_0 rfl) ?_; refine WQ.val rfl rfl rfl (Yld.ld rfl ty_sc_55 rfl rfl) ?_; refine WQ.val rfl rfl rfl (Yld.ldg (vs := [.int .u64 (e.tok : Int), .slice An2 e.nodes.length cn2, .int .i64 e.place, .int .i64 e.no, .int .i64 e.low, .int .i64 e.kept, .int .i64 e.txn, .int .i64 e.lead, .slice Aw2 e.with_.length cw2]) rfl ty_ag_50 rfl rfl rfl) ?_; refine WQ.nil ?_; refine WP.loud rfl rfl ?_; refine Op.cl (cac_end hmm hqn q3 hes) rfl Tryz.func59 rfl rfl rfl rfl ?_; rintro v J Lm2 - ⟨rfl, rfl, hm2⟩
    try simp only [nf]
    refine WP.mv rfl rfl ?_; refine WP.nil ?_; refine WP.sub [(0, _), (2, _), (3, _), (4, _), (33, _), (43, _), (53, _), (75, _)] ?_ ⟨rfl, rfl, rfl, rfl, rfl, rfl, rfl, rfl, trivial⟩
    refine WP.next (WP.ret ?_)
    refine WP.fn .ret (.inr rfl) (res1 rfl rfl) (Lm2 ++ ((f, row 106 (flV m (z) (.slice Ar z.r.nodes.length cr))) :: Lt2)) hJ2 ?_; have e1 := fl_kept (z := z) (e := e) (fun q => h73 (by omega)) (.inl (by omega))
    rw [e1]; exact ⟨rfl, _, Lt2, app1, .mk (z := (z.setE e).fin e _) (hr.mono hJ2) hm2, hT2⟩
   ·refine WP.mv rfl rfl ?_
    refine WP.valG rfl rfl rfl rfl rfl rfl rfl (Yld.fieldAddr rfl ty_fd_50_5 rfl) ?_; refine WP.valG rfl rfl rfl rfl rfl rfl rfl (Yld.ld (v := .int .i64 e.kept) rfl ty_sc_3 rfl rfl) ?_; refine WP.valG rfl rfl rfl rfl rfl rfl rfl (Yld.fieldAddr rfl ty_fd_50_1 rfl) ?_; refine WP.valG rfl rfl rfl rfl rfl rfl rfl (Yld.ld (v := .slice An2 e.nodes.length cn2) rfl ty_sc_45 rfl rfl) ?_; refine WP.valG rfl rfl rfl rfl rfl rfl rfl (Yld.len rfl ty_sl_45 rfl) ?_; refine WP.splitG rfl rfl rfl rfl rfl rfl rfl (Yld.eql rfl rfl rfl) (fun h910 => ?_) (fun h910 => ?_)
    ·refine WP.valG rfl rfl rfl rfl rfl rfl rfl (Yld.move rfl rfl) ?_
     refine WP.valG rfl rfl rfl rfl rfl rfl rfl (Yld.move rfl rfl) ?_; refine WP.valG rfl rfl rfl rfl rfl rfl rfl (Yld.nilCheck rfl rfl) ?_; refine WP.valG rfl rfl rfl rfl rfl rfl rfl (Yld.fieldAddr rfl ty_fd_106_1 rfl) ?_; refine WP.valG rfl rfl rfl rfl rfl rfl rfl (Yld.ld (v := .bool z.full) rfl ty_sc_4 rfl rfl) ?_; by_cases hfu2 : z.full = true
     ·try rw [hfu2]
      refine WP.valG rfl rfl rfl rfl rfl rfl rfl (Yld.not rfl rfl) ?_; refine WP.valG rfl rfl rfl rfl rfl rfl rfl (Yld.pickT rfl rfl rfl) ?_; refine WP.vl rfl (Yld.pickF rfl rfl rfl) ?_; refine WP.mv rfl rfl ?_; refine WP.nil ?_; refine WP.sub [(0, _), (3, _), (4, _), (33, _), (43, _), (53, _), (75, _)] ?_ ⟨rfl, rfl, rfl, rfl, rfl, rfl, rfl, trivial⟩
      refine WP.next ?_; refine WP.condF rfl ?_; refine WP.skip (WP.leave (WP.next (WP.seq ?_)))
      refine WP.region [0, 1, 2, 3, 4, 5, 6, 7] rfl ?_; refine WP.mv rfl rfl ?_; refine WP.vl rfl (Yld.nilCheck rfl rfl) ?_; refine WP.vl rfl (Yld.fieldAddr rfl ty_fd_106_0 rfl) ?_; refine WP.vl rfl (Yld.ld rfl ty_sc_55 rfl rfl) ?_; refine WP.mv rfl rfl ?_; refine WP.vl rfl (Yld.makeFunc rfl (vs := [_]) (us := []) rfl rfl) ?_; refine WP.loud rfl rfl ?_; refine Op.cl (cac_goes hmm) rfl Tryz.func60 rfl rfl rfl rfl ?_; rintro v J Lm2 - ⟨rfl, rfl, hm2⟩
      try simp only [nf]
      refine WP.mv rfl rfl ?_; refine WP.nil ?_; refine WP.sub [(0, _), (2, _), (3, _), (4, _), (33, _), (43, _), (53, _), (75, _)] ?_ ⟨rfl, rfl, rfl, rfl, rfl, rfl, rfl, rfl, trivial⟩
      refine WP.next (WP.ret ?_)
      refine WP.fn .ret (.inr rfl) (res1 rfl rfl) (Lm2 ++ ((f, row 106 (flV m (z) (.slice Ar z.r.nodes.length cr))) :: Lt2)) hJ2 ?_; have e1 := fl_goes (z := z) (e := e) (by omega) (fun q => by rw [hfu2] at q; cases q.2)
      rw [e1]; exact ⟨rfl, _, Lt2, app1, .mk (z := (z.setE e).go 2) (hr.mono hJ2) hm2, hT2⟩
     ·have hfu2 : z.full = false := eq_false_of_ne_true hfu2
      try rw [hfu2]
      refine WP.valG rfl rfl rfl rfl rfl rfl rfl (Yld.not rfl rfl) ?_; refine WP.valG rfl rfl rfl rfl rfl rfl rfl (Yld.pickT rfl rfl rfl) ?_; refine WP.vl rfl (Yld.pickF rfl rfl rfl) ?_; refine WP.mv rfl rfl ?_; refine WP.nil ?_; refine WP.sub [(0, _), (3, _), (4, _), (33, _), (43, _), (53, _), (75, _)] ?_ ⟨rfl, rfl, rfl, rfl, rfl, rfl, rfl, trivial⟩
      refine WP.next ?_; refine WP.condT rfl ?_; refine WP.seq ?_; refine WQ.start Tryzmixed 5 zK _ rfl [5, 6] rfl ?_; refine WQ.val rfl rfl rfl (Yld.move rfl rfl) ?_; refine WQ.val rfl rfl rfl (Yld.nilCheck rfl rfl) ?_; refine WQ.val rfl rfl rfl (Yld.fieldAddr rfl ty_fd_106_0 rfl) ?_; refine WQ.val rfl rfl rfl (Yld.ld rfl ty_sc_55 rfl rfl) ?_; refine WQ.val rfl rfl rfl (Yld.ldg (vs := [.int .u64 (e.tok : Int), .slice An2 e.nodes.length cn2, .int .i64 e.place, .int .i64 e.no, .int .i64 e.low, .int .i64 e.kept, .int .i64 e.txn, .int .i64 e.lead, .slice Aw2 e.with_.length cw2]) rfl ty_ag_50 rfl rfl rfl) ?_; refine WQ.nil ?_; refine WP.loud rfl rfl ?_; refine Op.cl (cac_end hmm hqn q3 hes) rfl Tryz.func59 rfl rfl rfl rfl ?_; rintro v J Lm2 - ⟨rfl, rfl, hm2⟩
      try simp only [nf]
      refine WP.mv rfl rfl ?_; refine WP.nil ?_; refine WP.sub [(0, _), (2, _), (3, _), (4, _), (33, _), (43, _), (53, _), (75, _)] ?_ ⟨rfl, rfl, rfl, rfl, rfl, rfl, rfl, rfl, trivial⟩
      refine WP.next (WP.ret ?_)
      refine WP.fn .ret (.inr rfl) (res1 rfl rfl) (Lm2 ++ ((f, row 106 (flV m (z) (.slice Ar z.r.nodes.length cr))) :: Lt2)) hJ2 ?_; have e1 := fl_kept (z := z) (e := e) (fun q => h93 (by omega)) (.inr ⟨by omega, hfu2⟩)
      rw [e1]; exact ⟨rfl, _, Lt2, app1, .mk (z := (z.setE e).fin e _) (hr.mono hJ2) hm2, hT2⟩
    ·refine WP.valG rfl rfl rfl rfl rfl rfl rfl (Yld.move rfl rfl) ?_
     iterate 5 refine WP.passG rfl rfl rfl rfl rfl rfl rfl rfl ?_
     refine WP.valG rfl rfl rfl rfl rfl rfl rfl (Yld.pickF rfl rfl rfl) ?_; refine WP.vl rfl (Yld.pickF rfl rfl rfl) ?_; refine WP.mv rfl rfl ?_; refine WP.nil ?_; refine WP.sub [(0, _), (3, _), (4, _), (33, _), (43, _), (53, _), (75, _)] ?_ ⟨rfl, rfl, rfl, rfl, rfl, rfl, rfl, trivial⟩
     refine WP.next ?_; refine WP.condF rfl ?_; refine WP.skip (WP.leave (WP.next (WP.seq ?_)))
     refine WP.region [0, 1, 2, 3, 4, 5, 6, 7] rfl ?_; refine WP.mv rfl rfl ?_; refine WP.vl rfl (Yld.nilCheck rfl rfl) ?_; refine WP.vl rfl (Yld.fieldAddr rfl ty_fd_106_0 rfl) ?_; refine WP.vl rfl (Yld.ld rfl ty_sc_55 rfl rfl) ?_; refine WP.mv rfl rfl ?_; refine WP.vl rfl (Yld.makeFunc rfl (vs := [_]) (us := []) rfl rfl) ?_; refine WP.loud rfl rfl ?_; refine Op.cl (cac_goes hmm) rfl Tryz.func60 rfl rfl rfl rfl ?_; rintro v J Lm2 - ⟨rfl, rfl, hm2⟩
     try simp only [nf]
     refine WP.mv rfl rfl ?_; refine WP.nil ?_; refine WP.sub [(0, _), (2, _), (3, _), (4, _), (33, _), (43, _), (53, _), (75, _)] ?_ ⟨rfl, rfl, rfl, rfl, rfl, rfl, rfl, rfl, trivial⟩
     refine WP.next (WP.ret ?_)
     refine WP.fn .ret (.inr rfl) (res1 rfl rfl) (Lm2 ++ ((f, row 106 (flV m (z) (.slice Ar z.r.nodes.length cr))) :: Lt2)) hJ2 ?_; have e1 := fl_goes (z := z) (e := e) (by omega) (fun q => by omega)
     rw [e1]; exact ⟨rfl, _, Lt2, app1, .mk (z := (z.setE e).go 2) (hr.mono hJ2) hm2, hT2⟩


end Go.Hp
