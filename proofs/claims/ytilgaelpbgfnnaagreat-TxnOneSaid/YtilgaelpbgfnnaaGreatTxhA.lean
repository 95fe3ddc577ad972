import Derived.Test.YtilgaelpbgfnnaaGreatTxnAA
set_option linter.unusedVariables false
set_option linter.unusedSimpArgs false
namespace Go.Hp
open Go Go.Proofs

def hnextV (b : Nat) : Nat → Value
 | 0 => .func (.func 57) [.pointer (some ⟨b, 0, none⟩)].toArray [].toArray
 | 1 => .func (.func 118) [.pointer (some ⟨b, 0, none⟩)].toArray [].toArray
 | 2 => .func (.func 54) [.pointer (some ⟨b, 0, none⟩)].toArray [].toArray
 | 3 => .func (.func 115) [.pointer (some ⟨b, 0, none⟩)].toArray [].toArray
 | 4 => .func (.func 160) [.pointer (some ⟨b, 0, none⟩)].toArray [].toArray
 | 5 => .func (.func 185) [.pointer (some ⟨b, 0, none⟩)].toArray [].toArray
 | 6 => .func (.func 189) [.pointer (some ⟨b, 0, none⟩)].toArray [].toArray
 | 7 => .func (.func 191) [.pointer (some ⟨b, 0, none⟩)].toArray [].toArray
 | 8 => .func (.func 159) [.pointer (some ⟨b, 0, none⟩)].toArray [].toArray
 | _ => .nilFunc

/-- A Help (and what is one in a Settle): 0 begins, 1 follows, 2 finds, 3 asks, 4 takes, 5 commits, 6 looks, 7 clears, 8 bars, 9 has ended. -/
structure Hm where
 at_ : Nat
 c : Cm
 page : Int
inductive IsHl (J : Imm) (g l t T : Nat) (ex : List Value) (z : Hm) : Chunks → Prop
 | mk {vc vn vw : Value} (hc : SlRd (Im J) vc z.c.clear.length 1 (z.c.clear.map (Value.int .i64))) (hn : RNodes J vn z.c.ent.nodes) (hw : SlRd (Imv J) vw z.c.ent.with_.length 1 (z.c.ent.with_.map (Value.int .i64))) (hs : z.c.ent.sized) :
  IsHl J g l t T ex z [(g, row T (cmV l t (hnextV g z.at_) (.func (.func 55) [.pointer (some ⟨g, 0, none⟩)].toArray [].toArray) z.c vc vn vw (.int .i64 z.page :: ex)))]
theorem IsHl.mono {I J : Imm} {g l t T : Nat} {ex : List Value} {z : Hm} {L : Chunks} (h : IsHl I g l t T ex z L) (hJ : I.le J) : IsHl J g l t T ex z L := by
 cases h with
 | mk hc hn hw hs => exact .mk (hc.mono fun b o q => hJ.2 b o q) (hn.mono hJ) (hw.mono (Imv.le hJ)) hs
def Hm.go (z : Hm) (k : Nat) : Hm := { z with at_ := k }
def Hm.fin (z : Hm) (e : Int) : Hm := { z with at_ := 9, c := { z.c with e := e } }
def Hm.setC (z : Hm) (c : Cm) : Hm := { z with c := c }
def Hm.past (z : Hm) : Bool × Hm := if z.c.clear.tail = [] then (true, (z.setC { z.c with clear := [] }).fin 0) else (false, (z.setC { z.c with clear := z.c.clear.tail }).go 6)
def Hm.looks (tb : Tb) (z : Hm) : Bool × Hm := match tb.get (z.c.clear.headD 0) with
 | none => z.past
 | some e => if e.2.txn ≠ z.c.txn then z.past else (false, (z.setC { z.c with ent := e.2 }).go 7)
def Hm.clears (z : Hm) (r : Int) : Bool × Hm := if r = 5 then (false, z.go 6) else z.past
def Hm.commits (z : Hm) (e : Int) : Bool × Hm := if e = 0 then (false, z.go 6) else if e = 5 then (false, z.go 4) else (true, z.fin e)
theorem txh_ends {I : Imm} {g l t T : Nat} {ex : List Value} {z : Hm} {Lgr : Chunks} (hg : IsHl I g l t T ex z Lgr) : Spec Tryz.prog 55 [.pointer (some ⟨g, 0, none⟩)] I Lgr (fun v J L => v = .bool true ∧ I = J ∧ IsHl J g l t T ex (z.fin 0) L) := by
 cases hg with
 | @mk vc vn vw hc hn hw hs =>
 obtain ⟨Ac, cc, rfl, hcc, _, _⟩ := id hc
 obtain ⟨nvn, hn1, hn2⟩ := id hn.ex
 obtain ⟨An, cn, rfl, _⟩ := hn1.slice'
 obtain ⟨Aw, cw, rfl, _⟩ := hw.slice'
 refine Spec.of Tryz.func55 rfl Tryz.ntmps55 (Nat.le_of_ble_eq_true rfl) (fun F => ?_)
 try simp only [nf]
 dsimp only [argsEnv]
 refine WP.seq ?_; refine WP.region [0] rfl ?_; refine WP.mv rfl rfl ?_; refine WP.nil (WP.next (WP.seq ?_))
 refine WP.region [0, 1, 2, 3, 4, 5] rfl ?_; refine WP.mv rfl rfl ?_; refine WP.vl rfl (Yld.nilCheck rfl rfl) ?_; refine WP.vl rfl (Yld.fieldAddr rfl ty_fd_72_0 rfl) ?_; refine WP.vl rfl (Yld.fieldAddr rfl ty_fd_58_0 rfl) ?_; refine WP.loud rfl rfl ?_; refine Op.cl (txn_end (b := g)) rfl Tryz.func110 rfl rfl rfl rfl ?_; rintro v J L1 - ⟨rfl, rfl, rfl⟩
 try simp only [nf]
 refine WP.mv rfl rfl ?_; refine WP.nil ?_; refine WP.sub [(0, _), (2, _)] ?_ ⟨rfl, rfl, trivial⟩
 refine WP.next (WP.ret ?_)
 refine WP.fn .ret (.inr rfl) (res1 rfl rfl) [(g, row T (cmV l t (.nilFunc) (.func (.func 55) [.pointer (some ⟨g, 0, none⟩)].toArray [].toArray) ({ z.c with e := 0 } : Cm) (.slice Ac z.c.clear.length cc) (.slice An z.c.ent.nodes.length cn) (.slice Aw z.c.ent.with_.length cw) (.int .i64 z.page :: ex)))] (Imm.le_refl _) ?_; exact ⟨rfl, rfl, .mk hc hn hw hs⟩

theorem txh_past {I : Imm} {g l t T : Nat} {ex : List Value} {z : Hm} {Lgr : Chunks} (hg : IsHl I g l t T ex z Lgr) (h0 : 0 < z.c.clear.length) : Spec Tryz.prog 190 [.pointer (some ⟨g, 0, none⟩)] I Lgr (fun v J L => v = .bool z.past.1 ∧ IsHl J g l t T ex z.past.2 L) := by
 cases hg with
 | @mk vc vn vw hc hn hw hs =>
 obtain ⟨Ac, cc, rfl, hcc, _, _⟩ := id hc
 obtain ⟨nvn, hn1, hn2⟩ := id hn.ex
 obtain ⟨An, cn, rfl, _⟩ := hn1.slice'
 obtain ⟨Aw, cw, rfl, _⟩ := hw.slice'
 obtain ⟨At, ct, tl1, htl⟩ := tail_rd hc h0
 refine Spec.of Tryz.func190 rfl Tryz.ntmps190 (Nat.le_of_ble_eq_true rfl) (fun F => ?_)
 try simp only [nf]
 dsimp only [argsEnv]
 refine WP.seq ?_; refine WP.region [0] rfl ?_; refine WP.mv rfl rfl ?_; refine WP.nil (WP.next (WP.seq (WP.seq ?_)))
 refine WP.region [0, 1, 2, 3, 4, 5, 6, 7, 8] rfl ?_; iterate 2 refine WP.mv rfl rfl ?_
 refine WP.vl rfl (Yld.nilCheck rfl rfl) ?_; refine WP.vl rfl (Yld.fieldAddr rfl ty_fd_58_3 rfl) ?_; refine WP.vl rfl (Yld.ld (v := .slice Ac z.c.clear.length cc) rfl ty_sc_22 rfl rfl) ?_; refine WP.vl rfl (Yld.slice (l := 1) (h := z.c.clear.length) rfl ty_sl_22 rfl (Env.limS rfl) Env.lim0 h0 hcc) ?_; rw [tl1]
 refine WP.vl rfl (Yld.nilCheck rfl rfl) ?_; refine WP.vl rfl (Yld.fieldAddr rfl ty_fd_58_3 rfl) ?_; refine WP.loud rfl rfl ?_; refine Op.s1 rfl rfl ty_sz_22 rfl rfl rfl ?_; refine WP.nil ?_; refine WP.sub [(0, _), (2, _)] ?_ ⟨rfl, rfl, trivial⟩
 refine WP.next (WP.seq ?_)
 refine WP.region [0, 1, 2, 3, 4, 5] rfl ?_; refine WP.mv rfl rfl ?_; refine WP.vl rfl (Yld.nilCheck rfl rfl) ?_; refine WP.vl rfl (Yld.fieldAddr rfl ty_fd_58_3 rfl) ?_; refine WP.vl rfl (Yld.ld (v := .slice At z.c.clear.tail.length ct) rfl ty_sc_22 rfl rfl) ?_; refine WP.vl rfl (Yld.len rfl ty_sl_22 rfl) ?_; refine WP.split rfl rfl rfl rfl (Yld.gtr rfl rfl rfl) (fun h1 => ?_) (fun h1 => ?_)
 ·refine WP.nil ?_
  refine WP.sub [(0, _), (2, _), (16, _)] ?_ ⟨rfl, rfl, rfl, trivial⟩
  refine WP.next ?_; refine WP.condT rfl ?_; refine WP.seq ?_; refine WP.region [0, 1, 2, 3, 4, 5, 6] rfl ?_; refine WP.mv rfl rfl ?_; refine WP.vl rfl (Yld.nilCheck rfl rfl) ?_; refine WP.vl rfl (Yld.fieldAddr rfl ty_fd_58_0 rfl) ?_; refine WP.mv rfl rfl ?_; refine WP.vl rfl (Yld.makeFunc rfl (vs := [_]) (us := []) rfl rfl) ?_; refine WP.loud rfl rfl ?_; refine Op.cl (txn_goes (b := g)) rfl Tryz.func111 rfl rfl rfl rfl ?_; rintro v J L1 - ⟨rfl, rfl, rfl⟩
  try simp only [nf]
  refine WP.mv rfl rfl ?_; refine WP.nil ?_; refine WP.sub [(0, _), (2, _), (16, _)] ?_ ⟨rfl, rfl, rfl, trivial⟩
  refine WP.next (WP.ret ?_)
  refine WP.fn .ret (.inr rfl) (res1 rfl rfl) [(g, row T (cmV l t (hnextV g 6) (.func (.func 55) [.pointer (some ⟨g, 0, none⟩)].toArray [].toArray) ({ z.c with clear := z.c.clear.tail } : Cm) (.slice At z.c.clear.tail.length ct) (.slice An z.c.ent.nodes.length cn) (.slice Aw z.c.ent.with_.length cw) (.int .i64 z.page :: ex)))] (Imm.le_refl _) ?_; have e0 : ¬ z.c.clear.tail = [] := fun e => by rw [e] at h1; exact absurd h1 (by decide)
  have e : z.past = (false, (z.setC ({ z.c with clear := z.c.clear.tail } : Cm)).go 6) := if_neg e0
  rw [e]; exact ⟨rfl, .mk htl hn hw hs⟩
 ·refine WP.nil ?_
  refine WP.sub [(0, _), (2, _), (16, _)] ?_ ⟨rfl, rfl, rfl, trivial⟩
  refine WP.next ?_; refine WP.condF rfl ?_; refine WP.skip (WP.next (WP.seq ?_))
  have hgm : IsHl I g l t T ex (z.setC ({ z.c with clear := z.c.clear.tail } : Cm)) [(g, row T (cmV l t (hnextV g z.at_) (.func (.func 55) [.pointer (some ⟨g, 0, none⟩)].toArray [].toArray) ({ z.c with clear := z.c.clear.tail } : Cm) (.slice At z.c.clear.tail.length ct) (.slice An z.c.ent.nodes.length cn) (.slice Aw z.c.ent.with_.length cw) (.int .i64 z.page :: ex)))] := .mk htl hn hw hs
  refine WP.region [0, 1, 2, 3, 4, 5] rfl ?_; refine WP.mv rfl rfl ?_; refine WP.vl rfl (Yld.nilCheck rfl rfl) ?_; refine WP.vl rfl (Yld.fieldAddr rfl ty_fd_58_5 rfl) ?_; refine WP.vl rfl (Yld.ld (v := .func (.func 55) [.pointer (some ⟨g, 0, none⟩)].toArray [].toArray) rfl ty_sc_23 rfl rfl) ?_; refine WP.loud rfl rfl ?_; refine Op.callE (txh_ends hgm) (Enters.bound rfl Tryz.func55 rfl (rs := [.pointer (some ⟨g, 0, none⟩)]) (us := []) rfl (vs := []) rfl) rfl rfl zT ?_; rintro v J L2 hJ ⟨rfl, rfl, hres⟩
  try simp only [nf]
  refine WP.mv rfl rfl ?_; refine WP.nil ?_; refine WP.sub [(0, _), (2, _), (16, _)] ?_ ⟨rfl, rfl, rfl, trivial⟩
  refine WP.next (WP.ret ?_)
  refine WP.fn .ret (.inr rfl) (res1 rfl rfl) L2 (Imm.le_refl _) ?_; have e0 : z.c.clear.tail = [] := List.length_eq_zero_iff.1 (by omega)
  have e : z.past = (true, (z.setC { z.c with clear := [] }).fin 0) := if_pos e0
  rw [e]; rw [e0] at hres; exact ⟨rfl, hres⟩

theorem txh_takes {I : Imm} {g l t T : Nat} {ex : List Value} {z : Hm} {Lgr : Chunks} (hg : IsHl I g l t T ex z Lgr) {s d n : Nat} {x : Lg} {y : Dk} {Ll : Chunks} (hlg : IsLog I l s d n x y Ll) : Spec Tryz.prog 160 [.pointer (some ⟨g, 0, none⟩)] I (Lgr ++ Ll) (fun v J L => v = .bool false ∧ I = J ∧ ∃ Lg2, L = Lg2 ++ Ll ∧ IsHl J g l t T ex ((z.setC ({ z.c with hn := x.no, hp := x.pl } : Cm)).go 5) Lg2) := by
 cases hg with
 | @mk vc vn vw hc hn hw hs =>
 obtain ⟨Ac, cc, rfl, hcc, _, _⟩ := id hc
 obtain ⟨nvn, hn1, hn2⟩ := id hn.ex
 obtain ⟨An, cn, rfl, _⟩ := hn1.slice'
 obtain ⟨Aw, cw, rfl, _⟩ := hw.slice'
 refine Spec.of Tryz.func160 rfl Tryz.ntmps160 (Nat.le_of_ble_eq_true rfl) (fun F => ?_)
 try simp only [nf]
 dsimp only [argsEnv]
 refine WP.seq ?_; refine WP.region [0] rfl ?_; refine WP.mv rfl rfl ?_; refine WP.nil (WP.next (WP.seq ?_))
 refine WP.region [0, 1, 2, 3, 4, 5, 6, 7, 8, 9] rfl ?_; iterate 2 refine WP.mv rfl rfl ?_
 refine WP.vl rfl (Yld.nilCheck rfl rfl) ?_; refine WP.vl rfl (Yld.fieldAddr rfl ty_fd_58_0 rfl) ?_; refine WP.vl rfl (Yld.fieldAddr rfl ty_fd_54_0 rfl) ?_; refine WP.vl rfl (Yld.ld (v := .pointer (some ⟨l, 0, none⟩)) rfl ty_sc_31 rfl rfl) ?_; refine WP.loud rfl rfl ?_; refine Op.cl (log_Head hlg) rfl Tryz.func18 rfl rfl rfl rfl ?_; rintro v J L1 - ⟨rfl, rfl, rfl⟩
 try simp only [nf]
 refine WP.vl rfl (Yld.nilCheck rfl rfl) ?_; refine WP.vl rfl (Yld.fieldAddr rfl ty_fd_58_2 rfl) ?_; refine WP.loud rfl rfl ?_; refine Op.storeN rfl rfl ty_sz_56 rfl rfl rfl rfl (Nat.le_of_ble_eq_true rfl) (show cmV l t (hnextV g z.at_) (.func (.func 55) [.pointer (some ⟨g, 0, none⟩)].toArray [].toArray) ({ z.c with hn := x.no, hp := x.pl } : Cm) (.slice Ac z.c.clear.length cc) (.slice An z.c.ent.nodes.length cn) (.slice Aw z.c.ent.with_.length cw) (.int .i64 z.page :: ex) = _ from rfl) (by repeat (first | exact Upd.head | apply Upd.tail | apply Upd.tailS)) ?_; refine WP.nil ?_; refine WP.sub [(0, _), (2, _)] ?_ ⟨rfl, rfl, trivial⟩
 refine WP.next (WP.seq ?_)
 refine WP.region [0, 1, 2, 3, 4, 5, 6] rfl ?_; refine WP.mv rfl rfl ?_; refine WP.vl rfl (Yld.nilCheck rfl rfl) ?_; refine WP.vl rfl (Yld.fieldAddr rfl ty_fd_58_0 rfl) ?_; refine WP.mv rfl rfl ?_; refine WP.vl rfl (Yld.makeFunc rfl (vs := [_]) (us := []) rfl rfl) ?_; refine WP.loud rfl rfl ?_; refine Op.cl (txn_goes (b := g)) rfl Tryz.func111 rfl rfl rfl rfl ?_; rintro v J L1 - ⟨rfl, rfl, rfl⟩
 try simp only [nf]
 refine WP.mv rfl rfl ?_; refine WP.nil ?_; refine WP.sub [(0, _), (2, _)] ?_ ⟨rfl, rfl, trivial⟩
 refine WP.next (WP.ret ?_)
 refine WP.fn .ret (.inr rfl) (res1 rfl rfl) ([(g, row T (cmV l t (hnextV g 5) (.func (.func 55) [.pointer (some ⟨g, 0, none⟩)].toArray [].toArray) ({ z.c with hn := x.no, hp := x.pl } : Cm) (.slice Ac z.c.clear.length cc) (.slice An z.c.ent.nodes.length cn) (.slice Aw z.c.ent.with_.length cw) (.int .i64 z.page :: ex)))] ++ Ll) (Imm.le_refl _) ?_; exact ⟨rfl, rfl, _, rfl, .mk hc hn hw hs⟩

theorem txh_looks0 {I : Imm} {g l t T : Nat} {ex : List Value} {z : Hm} {Lgr : Chunks} (hg : IsHl I g l t T ex z Lgr) {tb : Tb} {Lt : Chunks} (hT : IsT I t tb Lt) (h0 : 0 < z.c.clear.length) (hgt : tb.get (z.c.clear[0]'h0) = none) : Spec Tryz.prog 189 [.pointer (some ⟨g, 0, none⟩)] I (Lgr ++ Lt) (fun v J L => v = .bool (z.looks tb).1 ∧ ∃ Lg2 Lt2, L = Lg2 ++ Lt2 ∧ IsHl J g l t T ex (z.looks tb).2 Lg2 ∧ IsT J t tb Lt2) := by
 cases hg with
 | @mk vc vn vw hc hn hw hs =>
 obtain ⟨Ac, cc, rfl, hcc, _, _⟩ := id hc
 obtain ⟨nvn, hn1, hn2⟩ := id hn.ex
 obtain ⟨An, cn, rfl, _⟩ := hn1.slice'
 obtain ⟨Aw, cw, rfl, _⟩ := hw.slice'
 obtain ⟨bi, ki, Ti, fi, ari, ei, hbi, hci⟩ := ints_at hc h0
 refine Spec.of Tryz.func189 rfl Tryz.ntmps189 (Nat.le_of_ble_eq_true rfl) (fun F => ?_)
 try simp only [nf]
 dsimp only [argsEnv]
 refine WP.seq ?_; refine WP.region [0] rfl ?_; refine WP.mv rfl rfl ?_; refine WP.nil (WP.next (WP.seq ?_))
 refine WD.start Tryzmixed 16 (fun c o => (c = g ∧ o = row T (cmV l t (hnextV g z.at_) (.func (.func 55) [.pointer (some ⟨g, 0, none⟩)].toArray [].toArray) z.c (.slice Ac z.c.clear.length cc) (.slice An z.c.ent.nodes.length cn) (.slice Aw z.c.ent.with_.length cw) (.int .i64 z.page :: ex))) ∨ I.blk c = some o) (fun _ _ => False) (by rintro _ _ (⟨rfl, rfl⟩ | h); exact zM; exact There.i h) (fun _ _ h => h.elim) 18 [false, false, false, false, false, false, false, false, false, false, false, false, false, false, false, false, false, false] rfl rfl ?_; refine WD.vl (i := 0) rfl (Yld.move rfl rfl) ?_; refine WD.vl (i := 1) rfl (Yld.nilCheck rfl rfl) ?_; refine WD.vl (i := 2) rfl (Yld.fieldAddr rfl ty_fd_58_0 rfl) ?_; refine WD.vl (i := 3) rfl (Yld.fieldAddr rfl ty_fd_54_1 rfl) ?_; refine WD.val1 (i := 4) rfl rfl rfl rfl zK rfl zK (Yld.load (v := .pointer (some ⟨t, 0, none⟩)) rfl ty_sc_32 rfl (.inl (.inl ⟨rfl, rfl⟩)) rfl) ?_; refine WD.vl (i := 5) rfl (Yld.move rfl rfl) ?_; refine WD.vl (i := 6) rfl (Yld.nilCheck rfl rfl) ?_; refine WD.vl (i := 7) rfl (Yld.fieldAddr rfl ty_fd_58_3 rfl) ?_; refine WD.val1 (i := 8) rfl rfl rfl rfl zK rfl zK (Yld.load (v := .slice Ac z.c.clear.length cc) rfl ty_sc_22 rfl (.inl (.inl ⟨rfl, rfl⟩)) rfl) ?_; refine WD.vl (i := 9) rfl (Yld.indexAddr (i := 0) rfl ty_sl_22 (congrArg (fun a => some (Value.slice a z.c.clear.length cc)) ei) rfl h0) ?_; refine WD.val1 (i := 10) rfl rfl rfl rfl zK rfl zK (Yld.loadC rfl ty_sc_3 rfl (.inl (.inr hbi)) hci) ?_; refine WD.both (i := 11) (j := 15) zK rfl rfl ?_ ?_
 ·refine WP.oper rfl rfl ?_
  refine Op.cl (tabT_Load0 hT hgt) rfl Tryz.func12 rfl rfl rfl rfl ?_; rintro v J Lt - ⟨rfl, rfl, rfl⟩
  try simp only [nf]
  refine WD.go (.inr (by rintro _ _ (⟨rfl, rfl⟩ | h); exact zM; first | exact There.i h | exact There.i (hJ2.2 _ _ h) | exact There.i (hJ3.2 _ _ (hJ2.2 _ _ h)) | exact There.i (hJ3.2 _ _ h))) (fun _ _ h => h.elim) ?_; refine WD.vl (i := 12) rfl (Yld.move rfl rfl) ?_; refine WD.vl (i := 13) rfl (Yld.extract rfl rfl rfl) ?_; refine WD.vl (i := 14) rfl (Yld.extract rfl rfl rfl) ?_; refine WD.loud (i := 15) zK rfl rfl rfl ?_; refine Op.alloc rfl rfl rfl ty_zr_43 (fun b15 => ?_)
  refine WD.go (.inr (by rintro _ _ (⟨rfl, rfl⟩ | h); exact zM; first | exact There.i h | exact There.i (hJ2.2 _ _ h) | exact There.i (hJ3.2 _ _ (hJ2.2 _ _ h)) | exact There.i (hJ3.2 _ _ h))) (fun _ _ h => h.elim) ?_; refine WD.loud (i := 16) zK rfl rfl rfl ?_; refine Op.sA rfl rfl ty_sz_43 rfl rfl rfl rfl rfl ?_; refine WD.go (.inl rfl) (fun _ _ h => h.elim) ?_; refine WD.vl (i := 17) rfl (Yld.assign rfl rfl) ?_; refine WD.done zK ?_; refine WP.sub [(0, _), (2, _), (3, _), (4, _)] ?_ ⟨rfl, rfl, rfl, rfl, trivial⟩
  refine WP.next (WP.seq (WP.seq ?_))
  refine WQ.startAll Tryzmixed zK _ rfl ?_; refine WQ.val rfl rfl rfl (Yld.move rfl rfl) ?_; refine WQ.val rfl rfl rfl (Yld.neq rfl rfl rfl true (decide_eq_true (by decide))) ?_; refine WQ.val rfl rfl rfl (Yld.move rfl rfl) ?_; iterate 7 refine WQ.passG rfl rfl rfl rfl rfl rfl rfl ?_
  refine WQ.val rfl rfl rfl (Yld.pickT rfl rfl rfl) ?_; refine WQ.nil ?_; refine WP.sub [(0, _), (2, _), (3, _), (4, _), (30, _)] ?_ ⟨rfl, rfl, rfl, rfl, rfl, trivial⟩
  refine WP.next ?_; refine WP.condT rfl ?_; refine WP.seq ?_; have hg2 := (IsHl.mk (g := g) (l := l) (t := t) (T := T) (ex := ex) (z := z) hc hn hw hs)
  refine WP.region [0, 1, 2] rfl ?_; refine WP.mv rfl rfl ?_; refine WP.loud rfl rfl ?_; refine Op.cl (txh_past hg2 h0) rfl Tryz.func190 rfl rfl rfl rfl ?_; rintro v J3 Lr hJ3 ⟨rfl, hres⟩
  try simp only [nf]
  refine WP.mv rfl rfl ?_; refine WP.nil ?_; refine WP.sub [(0, _), (2, _), (3, _), (4, _), (30, _)] ?_ ⟨rfl, rfl, rfl, rfl, rfl, trivial⟩
  refine WP.next (WP.ret ?_)
  refine WP.fn .ret (.inr rfl) (res1 rfl rfl) (Lr ++ Lt) hJ3 ?_; have e : z.looks tb = z.past := by unfold Hm.looks; rw [headD_0 h0, hgt]
  rw [e]; exact ⟨rfl, Lr, _, rfl, hres, hT.mono hJ3⟩
 ·refine WP.oper rfl rfl ?_
  refine Op.alloc rfl rfl rfl ty_zr_43 (fun b15 => ?_)
  refine WD.go (.inr (by rintro _ _ (⟨rfl, rfl⟩ | h); exact zM; first | exact There.i h | exact There.i (hJ2.2 _ _ h) | exact There.i (hJ3.2 _ _ (hJ2.2 _ _ h)) | exact There.i (hJ3.2 _ _ h))) (fun _ _ h => h.elim) ?_; refine WD.loud (i := 11) zK rfl rfl rfl ?_; refine Op.cl (tabT_Load0 hT hgt) rfl Tryz.func12 rfl rfl rfl rfl ?_; rintro v J Lt - ⟨rfl, rfl, rfl⟩
  try simp only [nf]
  refine WD.go (.inr (by rintro _ _ (⟨rfl, rfl⟩ | h); exact zM; first | exact There.i h | exact There.i (hJ2.2 _ _ h) | exact There.i (hJ3.2 _ _ (hJ2.2 _ _ h)) | exact There.i (hJ3.2 _ _ h))) (fun _ _ h => h.elim) ?_; refine WD.vl (i := 12) rfl (Yld.move rfl rfl) ?_; refine WD.vl (i := 13) rfl (Yld.extract rfl rfl rfl) ?_; refine WD.vl (i := 14) rfl (Yld.extract rfl rfl rfl) ?_; refine WD.loud (i := 16) zK rfl rfl rfl ?_; refine Op.sA rfl rfl ty_sz_43 rfl rfl rfl rfl rfl ?_; refine WD.go (.inl rfl) (fun _ _ h => h.elim) ?_; refine WD.vl (i := 17) rfl (Yld.assign rfl rfl) ?_; refine WD.done zK ?_; refine WP.sub [(0, _), (2, _), (3, _), (4, _)] ?_ ⟨rfl, rfl, rfl, rfl, trivial⟩
  refine WP.next (WP.seq (WP.seq ?_))
  refine WQ.startAll Tryzmixed zK _ rfl ?_; refine WQ.val rfl rfl rfl (Yld.move rfl rfl) ?_; refine WQ.val rfl rfl rfl (Yld.neq rfl rfl rfl true (decide_eq_true (by decide))) ?_; refine WQ.val rfl rfl rfl (Yld.move rfl rfl) ?_; iterate 7 refine WQ.passG rfl rfl rfl rfl rfl rfl rfl ?_
  refine WQ.val rfl rfl rfl (Yld.pickT rfl rfl rfl) ?_; refine WQ.nil ?_; refine WP.sub [(0, _), (2, _), (3, _), (4, _), (30, _)] ?_ ⟨rfl, rfl, rfl, rfl, rfl, trivial⟩
  refine WP.next ?_; refine WP.condT rfl ?_; refine WP.seq ?_; have hg2 := (IsHl.mk (g := g) (l := l) (t := t) (T := T) (ex := ex) (z := z) hc hn hw hs)
  refine WP.region [0, 1, 2] rfl ?_; refine WP.mv rfl rfl ?_; refine WP.loud rfl rfl ?_; refine Op.cl (txh_past hg2 h0) rfl Tryz.func190 rfl rfl rfl rfl ?_; rintro v J3 Lr hJ3 ⟨rfl, hres⟩
  try simp only [nf]
  refine WP.mv rfl rfl ?_; refine WP.nil ?_; refine WP.sub [(0, _), (2, _), (3, _), (4, _), (30, _)] ?_ ⟨rfl, rfl, rfl, rfl, rfl, trivial⟩
  refine WP.next (WP.ret ?_)
  refine WP.fn .ret (.inr rfl) (res1 rfl rfl) (Lr ++ Lt) hJ3 ?_; have e : z.looks tb = z.past := by unfold Hm.looks; rw [headD_0 h0, hgt]
  rw [e]; exact ⟨rfl, Lr, _, rfl, hres, hT.mono hJ3⟩

theorem txh_looks1 {I : Imm} {g l t T : Nat} {ex : List Value} {z : Hm} {Lgr : Chunks} (hg : IsHl I g l t T ex z Lgr) {tb : Tb} {Lt : Chunks} (hT : IsT I t tb Lt) (h0 : 0 < z.c.clear.length) {e : Nat × Ent} (hgt : tb.get (z.c.clear[0]'h0) = some e) (hes : ∀ e, tb.get (z.c.clear[0]'h0) = some e → e.2.sized) : Spec Tryz.prog 189 [.pointer (some ⟨g, 0, none⟩)] I (Lgr ++ Lt) (fun v J L => v = .bool (z.looks tb).1 ∧ ∃ Lg2 Lt2, L = Lg2 ++ Lt2 ∧ IsHl J g l t T ex (z.looks tb).2 Lg2 ∧ IsT J t tb Lt2) := by
 cases hg with
 | @mk vc vn vw hc hn hw hs =>
 obtain ⟨Ac, cc, rfl, hcc, _, _⟩ := id hc
 obtain ⟨nvn, hn1, hn2⟩ := id hn.ex
 obtain ⟨An, cn, rfl, _⟩ := hn1.slice'
 obtain ⟨Aw, cw, rfl, _⟩ := hw.slice'
 obtain ⟨bi, ki, Ti, fi, ari, ei, hbi, hci⟩ := ints_at hc h0
 refine Spec.of Tryz.func189 rfl Tryz.ntmps189 (Nat.le_of_ble_eq_true rfl) (fun F => ?_)
 try simp only [nf]
 dsimp only [argsEnv]
 refine WP.seq ?_; refine WP.region [0] rfl ?_; refine WP.mv rfl rfl ?_; refine WP.nil (WP.next (WP.seq ?_))
 refine WD.start Tryzmixed 16 (fun c o => (c = g ∧ o = row T (cmV l t (hnextV g z.at_) (.func (.func 55) [.pointer (some ⟨g, 0, none⟩)].toArray [].toArray) z.c (.slice Ac z.c.clear.length cc) (.slice An z.c.ent.nodes.length cn) (.slice Aw z.c.ent.with_.length cw) (.int .i64 z.page :: ex))) ∨ I.blk c = some o) (fun _ _ => False) (by rintro _ _ (⟨rfl, rfl⟩ | h); exact zM; exact There.i h) (fun _ _ h => h.elim) 18 [false, false, false, false, false, false, false, false, false, false, false, false, false, false, false, false, false, false] rfl rfl ?_; refine WD.vl (i := 0) rfl (Yld.move rfl rfl) ?_; refine WD.vl (i := 1) rfl (Yld.nilCheck rfl rfl) ?_; refine WD.vl (i := 2) rfl (Yld.fieldAddr rfl ty_fd_58_0 rfl) ?_; refine WD.vl (i := 3) rfl (Yld.fieldAddr rfl ty_fd_54_1 rfl) ?_; refine WD.val1 (i := 4) rfl rfl rfl rfl zK rfl zK (Yld.load (v := .pointer (some ⟨t, 0, none⟩)) rfl ty_sc_32 rfl (.inl (.inl ⟨rfl, rfl⟩)) rfl) ?_; refine WD.vl (i := 5) rfl (Yld.move rfl rfl) ?_; refine WD.vl (i := 6) rfl (Yld.nilCheck rfl rfl) ?_; refine WD.vl (i := 7) rfl (Yld.fieldAddr rfl ty_fd_58_3 rfl) ?_; refine WD.val1 (i := 8) rfl rfl rfl rfl zK rfl zK (Yld.load (v := .slice Ac z.c.clear.length cc) rfl ty_sc_22 rfl (.inl (.inl ⟨rfl, rfl⟩)) rfl) ?_; refine WD.vl (i := 9) rfl (Yld.indexAddr (i := 0) rfl ty_sl_22 (congrArg (fun a => some (Value.slice a z.c.clear.length cc)) ei) rfl h0) ?_; refine WD.val1 (i := 10) rfl rfl rfl rfl zK rfl zK (Yld.loadC rfl ty_sc_3 rfl (.inl (.inr hbi)) hci) ?_; refine WD.both (i := 11) (j := 15) zK rfl rfl ?_ ?_
 ·refine WP.oper rfl rfl ?_
  refine Op.cl (tabT_Load1 hT hgt) rfl Tryz.func12 rfl rfl rfl rfl ?_; rintro v J2 Lt2 hJ2 ⟨cs, rfl, hre, hT⟩
  try simp only [nf]
  obtain ⟨vn2, vw2, nv2, rfl, q1, q2, q3⟩ := id hre.ex
  obtain ⟨An2, cn2, rfl, _⟩ := q1.slice'
  obtain ⟨Aw2, cw2, rfl, _⟩ := q3.slice'
  refine WD.go (.inr (by rintro _ _ (⟨rfl, rfl⟩ | h); exact zM; first | exact There.i h | exact There.i (hJ2.2 _ _ h) | exact There.i (hJ3.2 _ _ (hJ2.2 _ _ h)) | exact There.i (hJ3.2 _ _ h))) (fun _ _ h => h.elim) ?_; refine WD.vl (i := 12) rfl (Yld.move rfl rfl) ?_; refine WD.vl (i := 13) rfl (Yld.extract rfl rfl rfl) ?_; refine WD.vl (i := 14) rfl (Yld.extract rfl rfl rfl) ?_; refine WD.loud (i := 15) zK rfl rfl rfl ?_; refine Op.alloc rfl rfl rfl ty_zr_43 (fun b15 => ?_)
  refine WD.go (.inr (by rintro _ _ (⟨rfl, rfl⟩ | h); exact zM; first | exact There.i h | exact There.i (hJ2.2 _ _ h) | exact There.i (hJ3.2 _ _ (hJ2.2 _ _ h)) | exact There.i (hJ3.2 _ _ h))) (fun _ _ h => h.elim) ?_; refine WD.loud (i := 16) zK rfl rfl rfl ?_; refine Op.sA rfl rfl ty_sz_43 rfl rfl rfl rfl rfl ?_; refine WD.go (.inl rfl) (fun _ _ h => h.elim) ?_; refine WD.vl (i := 17) rfl (Yld.assign rfl rfl) ?_; refine WD.done zK ?_; refine WP.sub [(0, _), (2, _), (3, _), (4, _)] ?_ ⟨rfl, rfl, rfl, rfl, trivial⟩
  refine WP.next (WP.seq (WP.seq ?_))
  refine WQ.startAll Tryzmixed zK _ rfl ?_; refine WQ.val rfl rfl rfl (Yld.move rfl rfl) ?_; refine WQ.val rfl rfl rfl (Yld.neq rfl rfl rfl false (decide_eq_false (by simp))) ?_; refine WQ.val rfl rfl rfl (Yld.move rfl rfl) ?_; refine WQ.valG rfl rfl rfl rfl rfl rfl (Yld.fieldAddr rfl ty_fd_43_6 rfl) ?_; refine WQ.valG rfl rfl rfl rfl rfl rfl (Yld.ld (v := .int .i64 e.2.txn) rfl ty_sc_3 rfl rfl) ?_; refine WQ.valG rfl rfl rfl rfl rfl rfl (Yld.move rfl rfl) ?_; refine WQ.valG rfl rfl rfl rfl rfl rfl (Yld.nilCheck rfl rfl) ?_; refine WQ.valG rfl rfl rfl rfl rfl rfl (Yld.fieldAddr rfl ty_fd_58_1 rfl) ?_; refine WQ.valG rfl rfl rfl rfl rfl rfl (Yld.ld (v := .int .i64 z.c.txn) rfl ty_sc_3 rfl rfl) ?_; refine WQ.splitG rfl rfl rfl rfl rfl rfl (Yld.neq rfl rfl rfl) (fun hx => ?_) (fun hx => ?_)
  ·refine WQ.val rfl rfl rfl (Yld.pickF rfl rfl rfl) ?_
   refine WQ.nil ?_; refine WP.sub [(0, _), (2, _), (3, _), (4, _), (30, _)] ?_ ⟨rfl, rfl, rfl, rfl, rfl, trivial⟩
   refine WP.next ?_; refine WP.condT rfl ?_; refine WP.seq ?_; have hg2 := (IsHl.mk (g := g) (l := l) (t := t) (T := T) (ex := ex) (z := z) hc hn hw hs).mono hJ2
   refine WP.region [0, 1, 2] rfl ?_; refine WP.mv rfl rfl ?_; refine WP.loud rfl rfl ?_; refine Op.cl (txh_past hg2 h0) rfl Tryz.func190 rfl rfl rfl rfl ?_; rintro v J3 Lr hJ3 ⟨rfl, hres⟩
   try simp only [nf]
   refine WP.mv rfl rfl ?_; refine WP.nil ?_; refine WP.sub [(0, _), (2, _), (3, _), (4, _), (30, _)] ?_ ⟨rfl, rfl, rfl, rfl, rfl, trivial⟩
   refine WP.next (WP.ret ?_)
   refine WP.fn .ret (.inr rfl) (res1 rfl rfl) (Lr ++ Lt2) (Imm.le_trans hJ2 hJ3) ?_; have e : z.looks tb = z.past := by unfold Hm.looks; rw [headD_0 h0, hgt]; exact if_pos hx
   rw [e]; exact ⟨rfl, Lr, _, rfl, hres, hT.mono hJ3⟩
  ·refine WQ.val rfl rfl rfl (Yld.pickF rfl rfl rfl) ?_
   refine WQ.nil ?_; refine WP.sub [(0, _), (2, _), (3, _), (4, _), (30, _)] ?_ ⟨rfl, rfl, rfl, rfl, rfl, trivial⟩
   refine WP.next ?_; refine WP.condF rfl ?_; refine WP.skip (WP.next (WP.seq ?_))
   refine WP.region [0, 1, 2, 3, 4] rfl ?_; refine WP.mv rfl rfl ?_; refine WP.vl rfl (Yld.ldg (vs := entV e.2 (.slice An2 e.2.nodes.length cn2) (.slice Aw2 e.2.with_.length cw2)) rfl ty_ag_43 rfl rfl rfl) ?_; refine WP.vl rfl (Yld.nilCheck rfl rfl) ?_; refine WP.vl rfl (Yld.fieldAddr rfl ty_fd_58_4 rfl) ?_; refine WP.loud rfl rfl ?_; refine Op.storeN rfl rfl ty_sz_43 rfl rfl rfl rfl (Nat.le_of_ble_eq_true rfl) (show cmV l t (hnextV g z.at_) (.func (.func 55) [.pointer (some ⟨g, 0, none⟩)].toArray [].toArray) ({ z.c with ent := e.2 } : Cm) (.slice Ac z.c.clear.length cc) (.slice An2 e.2.nodes.length cn2) (.slice Aw2 e.2.with_.length cw2) (.int .i64 z.page :: ex) = _ from rfl) (by repeat (first | exact Upd.head | apply Upd.tail | apply Upd.tailS)) ?_; refine WP.nil ?_; refine WP.sub [(0, _), (2, _), (3, _), (4, _), (30, _)] ?_ ⟨rfl, rfl, rfl, rfl, rfl, trivial⟩
   refine WP.next (WP.seq ?_)
   refine WP.region [0, 1, 2, 3, 4, 5, 6] rfl ?_; refine WP.mv rfl rfl ?_; refine WP.vl rfl (Yld.nilCheck rfl rfl) ?_; refine WP.vl rfl (Yld.fieldAddr rfl ty_fd_58_0 rfl) ?_; refine WP.mv rfl rfl ?_; refine WP.vl rfl (Yld.makeFunc rfl (vs := [_]) (us := []) rfl rfl) ?_; refine WP.loud rfl rfl ?_; refine Op.cl (txn_goes (b := g)) rfl Tryz.func111 rfl rfl rfl rfl ?_; rintro v J L1 - ⟨rfl, rfl, rfl⟩
   try simp only [nf]
   refine WP.mv rfl rfl ?_; refine WP.nil ?_; refine WP.sub [(0, _), (2, _), (3, _), (4, _), (30, _)] ?_ ⟨rfl, rfl, rfl, rfl, rfl, trivial⟩
   refine WP.next (WP.ret ?_)
   refine WP.fn .ret (.inr rfl) (res1 rfl rfl) ([(g, row T (cmV l t (hnextV g 7) (.func (.func 55) [.pointer (some ⟨g, 0, none⟩)].toArray [].toArray) ({ z.c with ent := e.2 } : Cm) (.slice Ac z.c.clear.length cc) (.slice An2 e.2.nodes.length cn2) (.slice Aw2 e.2.with_.length cw2) (.int .i64 z.page :: ex)))] ++ Lt2) hJ2 ?_; have e1 : z.looks tb = (false, (z.setC { z.c with ent := e.2 }).go 7) := by unfold Hm.looks; rw [headD_0 h0, hgt]; exact if_neg hx
   rw [e1]; exact ⟨rfl, _, _, rfl, .mk (hc.mono fun b o q => hJ2.2 b o q) ⟨nv2, q1, q2⟩ q3 (hes e hgt), hT⟩
 ·refine WP.oper rfl rfl ?_
  refine Op.alloc rfl rfl rfl ty_zr_43 (fun b15 => ?_)
  refine WD.go (.inr (by rintro _ _ (⟨rfl, rfl⟩ | h); exact zM; first | exact There.i h | exact There.i (hJ2.2 _ _ h) | exact There.i (hJ3.2 _ _ (hJ2.2 _ _ h)) | exact There.i (hJ3.2 _ _ h))) (fun _ _ h => h.elim) ?_; refine WD.loud (i := 11) zK rfl rfl rfl ?_; refine Op.cl (tabT_Load1 hT hgt) rfl Tryz.func12 rfl rfl rfl rfl ?_; rintro v J2 Lt2 hJ2 ⟨cs, rfl, hre, hT⟩
  try simp only [nf]
  obtain ⟨vn2, vw2, nv2, rfl, q1, q2, q3⟩ := id hre.ex
  obtain ⟨An2, cn2, rfl, _⟩ := q1.slice'
  obtain ⟨Aw2, cw2, rfl, _⟩ := q3.slice'
  refine WD.go (.inr (by rintro _ _ (⟨rfl, rfl⟩ | h); exact zM; first | exact There.i h | exact There.i (hJ2.2 _ _ h) | exact There.i (hJ3.2 _ _ (hJ2.2 _ _ h)) | exact There.i (hJ3.2 _ _ h))) (fun _ _ h => h.elim) ?_; refine WD.vl (i := 12) rfl (Yld.move rfl rfl) ?_; refine WD.vl (i := 13) rfl (Yld.extract rfl rfl rfl) ?_; refine WD.vl (i := 14) rfl (Yld.extract rfl rfl rfl) ?_; refine WD.loud (i := 16) zK rfl rfl rfl ?_; refine Op.sA rfl rfl ty_sz_43 rfl rfl rfl rfl rfl ?_; refine WD.go (.inl rfl) (fun _ _ h => h.elim) ?_; refine WD.vl (i := 17) rfl (Yld.assign rfl rfl) ?_; refine WD.done zK ?_; refine WP.sub [(0, _), (2, _), (3, _), (4, _)] ?_ ⟨rfl, rfl, rfl, rfl, trivial⟩
  refine WP.next (WP.seq (WP.seq ?_))
  refine WQ.startAll Tryzmixed zK _ rfl ?_; refine WQ.val rfl rfl rfl (Yld.move rfl rfl) ?_; refine WQ.val rfl rfl rfl (Yld.neq rfl rfl rfl false (decide_eq_false (by simp))) ?_; refine WQ.val rfl rfl rfl (Yld.move rfl rfl) ?_; refine WQ.valG rfl rfl rfl rfl rfl rfl (Yld.fieldAddr rfl ty_fd_43_6 rfl) ?_; refine WQ.valG rfl rfl rfl rfl rfl rfl (Yld.ld (v := .int .i64 e.2.txn) rfl ty_sc_3 rfl rfl) ?_; refine WQ.valG rfl rfl rfl rfl rfl rfl (Yld.move rfl rfl) ?_; refine WQ.valG rfl rfl rfl rfl rfl rfl (Yld.nilCheck rfl rfl) ?_; refine WQ.valG rfl rfl rfl rfl rfl rfl (Yld.fieldAddr rfl ty_fd_58_1 rfl) ?_; refine WQ.valG rfl rfl rfl rfl rfl rfl (Yld.ld (v := .int .i64 z.c.txn) rfl ty_sc_3 rfl rfl) ?_; refine WQ.splitG rfl rfl rfl rfl rfl rfl (Yld.neq rfl rfl rfl) (fun hx => ?_) (fun hx => ?_)
  ·refine WQ.val rfl rfl rfl (Yld.pickF rfl rfl rfl) ?_
   refine WQ.nil ?_; refine WP.sub [(0, _), (2, _), (3, _), (4, _), (30, _)] ?_ ⟨rfl, rfl, rfl, rfl, rfl, trivial⟩
   refine WP.next ?_; refine WP.condT rfl ?_; refine WP.seq ?_; have hg2 := (IsHl.mk (g := g) (l := l) (t := t) (T := T) (ex := ex) (z := z) hc hn hw hs).mono hJ2
   refine WP.region [0, 1, 2] rfl ?_; refine WP.mv rfl rfl ?_; refine WP.loud rfl rfl ?_; refine Op.cl (txh_past hg2 h0) rfl Tryz.func190 rfl rfl rfl rfl ?_; rintro v J3 Lr hJ3 ⟨rfl, hres⟩
   try simp only [nf]
   refine WP.mv rfl rfl ?_; refine WP.nil ?_; refine WP.sub [(0, _), (2, _), (3, _), (4, _), (30, _)] ?_ ⟨rfl, rfl, rfl, rfl, rfl, trivial⟩
   refine WP.next (WP.ret ?_)
   refine WP.fn .ret (.inr rfl) (res1 rfl rfl) (Lr ++ Lt2) (Imm.le_trans hJ2 hJ3) ?_; have e : z.looks tb = z.past := by unfold Hm.looks; rw [headD_0 h0, hgt]; exact if_pos hx
   rw [e]; exact ⟨rfl, Lr, _, rfl, hres, hT.mono hJ3⟩
  ·refine WQ.val rfl rfl rfl (Yld.pickF rfl rfl rfl) ?_
   refine WQ.nil ?_; refine WP.sub [(0, _), (2, _), (3, _), (4, _), (30, _)] ?_ ⟨rfl, rfl, rfl, rfl, rfl, trivial⟩
   refine WP.next ?_; refine WP.condF rfl ?_; refine WP.skip (WP.next (WP.seq ?_))
   refine WP.region [0, 1, 2, 3, 4] rfl ?_; refine WP.mv rfl rfl ?_; refine WP.vl rfl (Yld.ldg (vs := entV e.2 (.slice An2 e.2.nodes.length cn2) (.slice Aw2 e.2.with_.length cw2)) rfl ty_ag_43 rfl rfl rfl) ?_; refine WP.vl rfl (Yld.nilCheck rfl rfl) ?_; refine WP.vl rfl (Yld.fieldAddr rfl ty_fd_58_4 rfl) ?_; refine WP.loud rfl rfl ?_; refine Op.storeN rfl rfl ty_sz_43 rfl rfl rfl rfl (Nat.le_of_ble_eq_true rfl) (show cmV l t (hnextV g z.at_) (.func (.func 55) [.pointer (some ⟨g, 0, none⟩)].toArray [].toArray) ({ z.c with ent := e.2 } : Cm) (.slice Ac z.c.clear.length cc) (.slice An2 e.2.nodes.length cn2) (.slice Aw2 e.2.with_.length cw2) (.int .i64 z.page :: ex) = _ from rfl) (by repeat (first | exact Upd.head | apply Upd.tail | apply Upd.tailS)) ?_; refine WP.nil ?_; refine WP.sub [(0, _), (2, _), (3, _), (4, _), (30, _)] ?_ ⟨rfl, rfl, rfl, rfl, rfl, trivial⟩
   refine WP.next (WP.seq ?_)
   refine WP.region [0, 1, 2, 3, 4, 5, 6] rfl ?_; refine WP.mv rfl rfl ?_; refine WP.vl rfl (Yld.nilCheck rfl rfl) ?_; refine WP.vl rfl (Yld.fieldAddr rfl ty_fd_58_0 rfl) ?_; refine WP.mv rfl rfl ?_; refine WP.vl rfl (Yld.makeFunc rfl (vs := [_]) (us := []) rfl rfl) ?_; refine WP.loud rfl rfl ?_; refine Op.cl (txn_goes (b := g)) rfl Tryz.func111 rfl rfl rfl rfl ?_; rintro v J L1 - ⟨rfl, rfl, rfl⟩
   try simp only [nf]
   refine WP.mv rfl rfl ?_; refine WP.nil ?_; refine WP.sub [(0, _), (2, _), (3, _), (4, _), (30, _)] ?_ ⟨rfl, rfl, rfl, rfl, rfl, trivial⟩
   refine WP.next (WP.ret ?_)
   refine WP.fn .ret (.inr rfl) (res1 rfl rfl) ([(g, row T (cmV l t (hnextV g 7) (.func (.func 55) [.pointer (some ⟨g, 0, none⟩)].toArray [].toArray) ({ z.c with ent := e.2 } : Cm) (.slice Ac z.c.clear.length cc) (.slice An2 e.2.nodes.length cn2) (.slice Aw2 e.2.with_.length cw2) (.int .i64 z.page :: ex)))] ++ Lt2) hJ2 ?_; have e1 : z.looks tb = (false, (z.setC { z.c with ent := e.2 }).go 7) := by unfold Hm.looks; rw [headD_0 h0, hgt]; exact if_neg hx
   rw [e1]; exact ⟨rfl, _, _, rfl, .mk (hc.mono fun b o q => hJ2.2 b o q) ⟨nv2, q1, q2⟩ q3 (hes e hgt), hT⟩


theorem txh_looks {I : Imm} {g l t T : Nat} {ex : List Value} {z : Hm} {Lgr : Chunks} (hg : IsHl I g l t T ex z Lgr) {tb : Tb} {Lt : Chunks} (hT : IsT I t tb Lt) (h0 : 0 < z.c.clear.length) : Spec Tryz.prog 189 [.pointer (some ⟨g, 0, none⟩)] I (Lgr ++ Lt) (fun v J L => v = .bool (z.looks tb).1 ∧ ∃ Lg2 Lt2, L = Lg2 ++ Lt2 ∧ IsHl J g l t T ex (z.looks tb).2 Lg2 ∧ IsT J t tb Lt2) := by
 cases hgt : tb.get (z.c.clear[0]'h0) with
 | none => exact txh_looks0 hg hT h0 hgt
 | some e => exact txh_looks1 hg hT h0 hgt (fun e he => (hT.ent he).1)
theorem txh_clears {I : Imm} {g l t T : Nat} {ex : List Value} {z : Hm} {Lgr : Chunks} (hg : IsHl I g l t T ex z Lgr) {tb : Tb} {Lt : Chunks} (hT : IsT I t tb Lt) (h0 : 0 < z.c.clear.length) (htk : tb.tok + 1 < 18446744073709551616) : Spec Tryz.prog 191 [.pointer (some ⟨g, 0, none⟩)] I (Lgr ++ Lt) (fun v J L => ∃ r tb2 Lg2 Lt2, SwR tb (z.c.clear[0]'h0) z.c.ent.tok z.c.ent.clr r tb2 ∧ v = .bool (z.clears r).1 ∧ L = Lg2 ++ Lt2 ∧ IsHl J g l t T ex (z.clears r).2 Lg2 ∧ IsT J t tb2 Lt2) := by
 cases hg with
 | @mk vc vn vw hc hn hw hs =>
 obtain ⟨Ac, cc, rfl, hcc, _, _⟩ := id hc
 obtain ⟨nvn, hn1, hn2⟩ := id hn.ex
 obtain ⟨An, cn, rfl, _⟩ := hn1.slice'
 obtain ⟨Aw, cw, rfl, _⟩ := hw.slice'
 obtain ⟨bi, ki, Ti, fi, ari, ei, hbi, hci⟩ := ints_at hc h0
 have hre2 : REnt I z.c.ent.clr [.int .u64 (z.c.ent.clr.tok : Int), (.slice An z.c.ent.nodes.length cn), .int .i64 z.c.ent.clr.place, .int .i64 z.c.ent.clr.no, .int .i64 z.c.ent.clr.low, .int .i64 z.c.ent.clr.kept, .int .i64 z.c.ent.clr.txn, .int .i64 z.c.ent.clr.lead, (.slice none 0 0)] := ⟨_, _, nvn, rfl, hn1, hn2, ⟨none, 0, rfl, Nat.le_refl _, rfl, .inl rfl⟩⟩
 have hsz2 : z.c.ent.clr.sized := ⟨hs.nodes, hs.data, Nat.zero_le _⟩
 refine Spec.of Tryz.func191 rfl Tryz.ntmps191 (Nat.le_of_ble_eq_true rfl) (fun F => ?_)
 try simp only [nf]
 dsimp only [argsEnv]
 refine WP.seq ?_; refine WP.region [0] rfl ?_; refine WP.mv rfl rfl ?_; refine WP.nil (WP.next (WP.seq (WP.seq ?_)))
 refine WD.start Tryzmixed 22 (fun c o => (c = g ∧ o = row T (cmV l t (hnextV g z.at_) (.func (.func 55) [.pointer (some ⟨g, 0, none⟩)].toArray [].toArray) z.c (.slice Ac z.c.clear.length cc) (.slice An z.c.ent.nodes.length cn) (.slice Aw z.c.ent.with_.length cw) (.int .i64 z.page :: ex))) ∨ I.blk c = some o) (fun _ _ => False) (by rintro _ _ (⟨rfl, rfl⟩ | h); exact zM; exact There.i h) (fun _ _ h => h.elim) 24 [false, false, false, false, false, false, false, false, false, false, false, false, false, false, false, false, false, false, false, false, false, false, false, false] rfl rfl ?_; refine WD.vl (i := 0) rfl (Yld.move rfl rfl) ?_; refine WD.vl (i := 1) rfl (Yld.nilCheck rfl rfl) ?_; refine WD.vl (i := 2) rfl (Yld.fieldAddr rfl ty_fd_58_0 rfl) ?_; refine WD.vl (i := 3) rfl (Yld.fieldAddr rfl ty_fd_54_1 rfl) ?_; refine WD.val1 (i := 4) rfl rfl rfl rfl zK rfl zK (Yld.load (v := .pointer (some ⟨t, 0, none⟩)) rfl ty_sc_32 rfl (.inl (.inl ⟨rfl, rfl⟩)) rfl) ?_; refine WD.vl (i := 5) rfl (Yld.move rfl rfl) ?_; refine WD.vl (i := 6) rfl (Yld.nilCheck rfl rfl) ?_; refine WD.vl (i := 7) rfl (Yld.fieldAddr rfl ty_fd_58_3 rfl) ?_; refine WD.val1 (i := 8) rfl rfl rfl rfl zK rfl zK (Yld.load (v := .slice Ac z.c.clear.length cc) rfl ty_sc_22 rfl (.inl (.inl ⟨rfl, rfl⟩)) rfl) ?_; refine WD.vl (i := 9) rfl (Yld.indexAddr (i := 0) rfl ty_sl_22 (congrArg (fun a => some (Value.slice a z.c.clear.length cc)) ei) rfl h0) ?_; refine WD.val1 (i := 10) rfl rfl rfl rfl zK rfl zK (Yld.loadC rfl ty_sc_3 rfl (.inl (.inr hbi)) hci) ?_
 refine WD.vl (i := 11) rfl (Yld.move rfl rfl) ?_; refine WD.vl (i := 12) rfl (Yld.nilCheck rfl rfl) ?_; refine WD.vl (i := 13) rfl (Yld.fieldAddr rfl ty_fd_58_4 rfl) ?_; refine WD.vl (i := 14) rfl (Yld.fieldAddr rfl ty_fd_43_0 rfl) ?_; refine WD.val1 (i := 15) rfl rfl rfl rfl zK rfl zK (Yld.load (v := .int .u64 (z.c.ent.tok : Int)) rfl ty_sc_40 rfl (.inl (.inl ⟨rfl, rfl⟩)) rfl) ?_; refine WD.vl (i := 16) rfl (Yld.move rfl rfl) ?_; refine WD.vl (i := 17) rfl (Yld.nilCheck rfl rfl) ?_; refine WD.vl (i := 18) rfl (Yld.fieldAddr rfl ty_fd_58_4 rfl) ?_; refine WD.val1 (i := 19) rfl rfl rfl rfl zK rfl zK (Yld.loadAgg (vs := [.int .u64 (z.c.ent.tok : Int), (.slice An z.c.ent.nodes.length cn), .int .i64 z.c.ent.place, .int .i64 z.c.ent.no, .int .i64 z.c.ent.low, .int .i64 z.c.ent.kept, .int .i64 z.c.ent.txn, .int .i64 z.c.ent.lead, (.slice Aw z.c.ent.with_.length cw)]) rfl ty_ag_43 rfl (.inl (.inl ⟨rfl, rfl⟩)) rfl rfl) ?_; refine WD.loud (i := 20) zK rfl rfl rfl ?_; refine Op.buildSlice rfl ty_sl_279 ty_el2_279 rfl rfl rfl rfl (vs := [_]) rfl (segs := [(0, [_])]) (cs := [.func (.func 192) [].toArray [].toArray]) rfl rfl zS (fun ba => ?_)
 refine WD.go (.inr (by rintro _ _ (⟨rfl, rfl⟩ | h); exact zM; first | exact There.i h | exact There.i (hJ2.2 _ _ h) | exact There.i (hJ3.2 _ _ (hJ2.2 _ _ h)) | exact There.i (hJ3.2 _ _ h))) (fun _ _ h => h.elim) ?_; refine WD.loud (i := 21) zK rfl rfl rfl ?_; refine Op.cl (txn_with_done (e := z.c.ent) (ba := ba) (vn := .slice An z.c.ent.nodes.length cn) (vw := .slice Aw z.c.ent.with_.length cw) rfl rfl) rfl Tryz.func181 rfl rfl rfl rfl ?_; rintro v J L1 - ⟨rfl, rfl, rfl⟩
 try simp only [nf]
 refine WD.go (.inr (by rintro _ _ (⟨rfl, rfl⟩ | h); exact zM; first | exact There.i h | exact There.i (hJ2.2 _ _ h) | exact There.i (hJ3.2 _ _ (hJ2.2 _ _ h)) | exact There.i (hJ3.2 _ _ h))) (fun _ _ h => h.elim) ?_; refine WD.loud (i := 22) zK rfl rfl rfl ?_; refine Op.cl (tabT_SwapX hT (p := z.c.clear[0]) (tk := z.c.ent.tok) (e := z.c.ent.clr) hre2 hsz2 htk) rfl Tryz.func83 rfl rfl rfl rfl ?_; rintro v J2 Lt2 hJ2 ⟨r, tb2, rfl, hsw, hT2⟩
 try simp only [nf]
 refine WD.go (.inl rfl) (fun _ _ h => h.elim) ?_; refine WD.split (i := 23) rfl rfl rfl rfl zK rfl (Yld.eql rfl rfl rfl) (fun h5 => ?_) (fun h5 => ?_)
 ·refine WD.done zK ?_
  refine WP.sub [(0, _), (2, _), (26, _)] ?_ ⟨rfl, rfl, rfl, trivial⟩
  refine WP.next ?_; refine WP.condT rfl ?_; refine WP.seq ?_; refine WP.region [0, 1, 2, 3, 4, 5, 6] rfl ?_; refine WP.mv rfl rfl ?_; refine WP.vl rfl (Yld.nilCheck rfl rfl) ?_; refine WP.vl rfl (Yld.fieldAddr rfl ty_fd_58_0 rfl) ?_; refine WP.mv rfl rfl ?_; refine WP.vl rfl (Yld.makeFunc rfl (vs := [_]) (us := []) rfl rfl) ?_; refine WP.loud rfl rfl ?_; refine Op.cl (txn_goes (b := g)) rfl Tryz.func111 rfl rfl rfl rfl ?_; rintro v J L1 - ⟨rfl, rfl, rfl⟩
  try simp only [nf]
  refine WP.mv rfl rfl ?_; refine WP.nil ?_; refine WP.sub [(0, _), (2, _), (26, _)] ?_ ⟨rfl, rfl, rfl, trivial⟩
  refine WP.next (WP.ret ?_)
  refine WP.fn .ret (.inr rfl) (res1 rfl rfl) ([(g, row T (cmV l t (hnextV g 6) (.func (.func 55) [.pointer (some ⟨g, 0, none⟩)].toArray [].toArray) z.c (.slice Ac z.c.clear.length cc) (.slice An z.c.ent.nodes.length cn) (.slice Aw z.c.ent.with_.length cw) (.int .i64 z.page :: ex)))] ++ Lt2) hJ2 ?_; have e : z.clears r = (false, z.go 6) := if_pos h5
  exact ⟨r, tb2, _, _, hsw, by rw [e], rfl, by rw [e]; exact (.mk (hc.mono fun b o q => hJ2.2 b o q) (hn.mono hJ2) (hw.mono (Imv.le hJ2)) hs), hT2⟩
 ·refine WD.done zK ?_
  refine WP.sub [(0, _), (2, _), (26, _)] ?_ ⟨rfl, rfl, rfl, trivial⟩
  refine WP.next ?_; refine WP.condF rfl ?_; refine WP.skip (WP.next (WP.seq ?_))
  have hg2 := (IsHl.mk (g := g) (l := l) (t := t) (T := T) (ex := ex) (z := z) hc hn hw hs).mono hJ2
  refine WP.region [0, 1, 2] rfl ?_; refine WP.mv rfl rfl ?_; refine WP.loud rfl rfl ?_; refine Op.cl (txh_past hg2 h0) rfl Tryz.func190 rfl rfl rfl rfl ?_; rintro v J3 Lr hJ3 ⟨rfl, hres⟩
  try simp only [nf]
  refine WP.mv rfl rfl ?_; refine WP.nil ?_; refine WP.sub [(0, _), (2, _), (26, _)] ?_ ⟨rfl, rfl, rfl, trivial⟩
  refine WP.next (WP.ret ?_)
  refine WP.fn .ret (.inr rfl) (res1 rfl rfl) (Lr ++ Lt2) (Imm.le_trans hJ2 hJ3) ?_; have e : z.clears r = z.past := if_neg h5
  exact ⟨r, tb2, _, _, hsw, by rw [e], rfl, by rw [e]; exact hres, hT2.mono hJ3⟩

theorem txh_commits {I : Imm} {g l t T : Nat} {ex : List Value} {z : Hm} {Lgr : Chunks} (hg : IsHl I g l t T ex z Lgr) {s d n : Nat} {x : Lg} {y : Dk} {Ll : Chunks} (hlg : IsLog I l s d n x y Ll) (ht : 1 ≤ z.c.txn ∧ z.c.txn ≤ 1099511627776) : Spec Tryz.prog 185 [.pointer (some ⟨g, 0, none⟩)] I (Lgr ++ Ll) (fun v J L => ∃ e x2 Lg2 Ll2, e = x.apE z.c.hn z.c.hp 4 (numB z.c.txn.toNat) ∧ ApK x 4 (numB z.c.txn.toNat) e x2 ∧ v = .bool (z.commits e).1 ∧ L = Lg2 ++ Ll2 ∧ IsHl J g l t T ex (z.commits e).2 Lg2 ∧ IsLog J l s d n x2 y Ll2) := by
 cases hg with
 | @mk vc vn vw hc hn hw hs =>
 obtain ⟨Ac, cc, rfl, hcc, _, _⟩ := id hc
 obtain ⟨nvn, hn1, hn2⟩ := id hn.ex
 obtain ⟨An, cn, rfl, _⟩ := hn1.slice'
 obtain ⟨Aw, cw, rfl, _⟩ := hw.slice'
 refine Spec.of Tryz.func185 rfl Tryz.ntmps185 (Nat.le_of_ble_eq_true rfl) (fun F => ?_)
 try simp only [nf]
 dsimp only [argsEnv]
 refine WP.seq ?_; refine WP.region [0] rfl ?_; refine WP.mv rfl rfl ?_; refine WP.nil (WP.next (WP.seq ?_))
 refine WP.region [0, 1, 2, 3, 4, 5, 6, 7, 8, 9] rfl ?_; refine WP.mv rfl rfl ?_; refine WP.vl rfl (Yld.nilCheck rfl rfl) ?_; refine WP.vl rfl (Yld.fieldAddr rfl ty_fd_58_1 rfl) ?_; refine WP.vl rfl (Yld.ld (v := .int .i64 z.c.txn) rfl ty_sc_3 rfl rfl) ?_; refine WP.loud rfl rfl ?_; refine Op.cl (txn_EncodeCommit_ok ht) rfl Tryz.func29 rfl rfl rfl rfl ?_; rintro v J1 L1 hJ1 ⟨vb2, rfl, hob⟩
 try simp only [nf]
 obtain ⟨Ab2, cb2, rfl, _⟩ := hob.slice
 refine WP.mv rfl rfl ?_; iterate 2 refine WP.vl rfl (Yld.extract rfl rfl rfl) ?_
 iterate 2 refine WP.mv rfl rfl ?_
 refine WP.nil ?_; refine WP.sub [(0, _), (2, _), (3, _), (4, _)] ?_ ⟨rfl, rfl, rfl, rfl, trivial⟩
 refine WP.next (WP.seq (WP.seq ?_))
 refine WP.region [0, 1] rfl ?_; refine WP.mv rfl rfl ?_; refine WP.vl rfl (Yld.neq rfl rfl rfl false (decide_eq_false (by simp))) ?_; refine WP.nil ?_; refine WP.sub [(0, _), (2, _), (3, _), (4, _), (14, _)] ?_ ⟨rfl, rfl, rfl, rfl, rfl, trivial⟩
 refine WP.next ?_; refine WP.condF rfl ?_; refine WP.skip (WP.next (WP.seq ?_))
 refine WP.shO hob (fun J0 hJ0 hb2 => ?_)
 have hlg := (hlg.mono hJ1).mono hJ0
 refine WD.start Tryzmixed 10 (fun c o => (c = g ∧ o = row T (cmV l t (hnextV g z.at_) (.func (.func 55) [.pointer (some ⟨g, 0, none⟩)].toArray [].toArray) z.c (.slice Ac z.c.clear.length cc) (.slice An z.c.ent.nodes.length cn) (.slice Aw z.c.ent.with_.length cw) (.int .i64 z.page :: ex))) ∨ J0.blk c = some o) (fun _ _ => False) (by rintro _ _ (⟨rfl, rfl⟩ | h); exact zM; exact There.i h) (fun _ _ h => h.elim) 15 [false, false, false, false, false, false, false, false, false, false, false, false, false, false, false] rfl rfl ?_; refine WD.vl (i := 0) rfl (Yld.move rfl rfl) ?_; refine WD.vl (i := 1) rfl (Yld.nilCheck rfl rfl) ?_; refine WD.vl (i := 2) rfl (Yld.fieldAddr rfl ty_fd_58_0 rfl) ?_; refine WD.vl (i := 3) rfl (Yld.fieldAddr rfl ty_fd_54_0 rfl) ?_; refine WD.val1 (i := 4) rfl rfl rfl rfl zK rfl zK (Yld.load (v := .pointer (some ⟨l, 0, none⟩)) rfl ty_sc_31 rfl (.inl (.inl ⟨rfl, rfl⟩)) rfl) ?_; refine WD.vl (i := 5) rfl (Yld.move rfl rfl) ?_; refine WD.vl (i := 6) rfl (Yld.nilCheck rfl rfl) ?_; refine WD.vl (i := 7) rfl (Yld.fieldAddr rfl ty_fd_58_2 rfl) ?_; refine WD.val1 (i := 8) rfl rfl rfl rfl zK rfl zK (Yld.loadAgg (vs := [.int .i64 (z.c.hn : Int), .int .i64 (z.c.hp : Int)]) rfl ty_ag_56 rfl (.inl (.inl ⟨rfl, rfl⟩)) rfl rfl) ?_; refine WD.vl (i := 9) rfl (Yld.move rfl rfl) ?_; refine WD.loud (i := 10) zK rfl rfl rfl ?_; refine Op.cl (log_AppendE (hn := z.c.hn) (hp := z.c.hp) (kind := 4) hlg hb2) rfl Tryz.func80 rfl rfl rfl rfl ?_; rintro v J2 Ll2 hJ2 ⟨e, hn', hp', x2, rfl, hee, hap, -, hlg2⟩
 try simp only [nf]
 have hJa := Imm.le_trans hJ1 (Imm.le_trans hJ0 hJ2)
 refine WD.go (.inl rfl) (fun _ _ h => h.elim) ?_; refine WD.vl (i := 11) rfl (Yld.move rfl rfl) ?_; refine WD.vl (i := 12) rfl (Yld.extract rfl rfl rfl) ?_; refine WD.vl (i := 13) rfl (Yld.extract rfl rfl rfl) ?_; refine WD.vl (i := 14) rfl (Yld.assign rfl rfl) ?_; refine WD.done zK ?_; refine WP.sub [(0, _), (2, _), (3, _), (4, _), (14, _)] ?_ ⟨rfl, rfl, rfl, rfl, rfl, trivial⟩
 refine WP.next (WP.seq (WP.seq ?_))
 refine WP.region [0] rfl ?_; refine WP.mv rfl rfl ?_; refine WP.nil (WP.next (WP.block (WP.seq ?_)))
 refine WP.region [0, 1] rfl ?_; refine WP.split rfl rfl rfl rfl (Yld.eql rfl rfl rfl) (fun h0 => ?_) (fun h0 => ?_)
 ·refine WP.mv rfl rfl ?_
  refine WP.nil ?_; refine WP.sub [(0, _), (2, _), (3, _), (4, _), (14, _), (34, _), (35, _)] ?_ ⟨rfl, rfl, rfl, rfl, rfl, rfl, rfl, trivial⟩
  refine WP.next ?_; refine WP.condT rfl ?_; refine WP.seq ?_; refine WP.region [0, 1, 2, 3, 4, 5, 6] rfl ?_; refine WP.mv rfl rfl ?_; refine WP.vl rfl (Yld.nilCheck rfl rfl) ?_; refine WP.vl rfl (Yld.fieldAddr rfl ty_fd_58_0 rfl) ?_; refine WP.mv rfl rfl ?_; refine WP.vl rfl (Yld.makeFunc rfl (vs := [_]) (us := []) rfl rfl) ?_; refine WP.loud rfl rfl ?_; refine Op.cl (txn_goes (b := g)) rfl Tryz.func111 rfl rfl rfl rfl ?_; rintro v J L1 - ⟨rfl, rfl, rfl⟩
  try simp only [nf]
  refine WP.mv rfl rfl ?_; refine WP.nil ?_; refine WP.sub [(0, _), (2, _), (3, _), (4, _), (14, _), (34, _), (35, _)] ?_ ⟨rfl, rfl, rfl, rfl, rfl, rfl, rfl, trivial⟩
  refine WP.next (WP.ret ?_)
  refine WP.fn .ret (.inr rfl) (res1 rfl rfl) ([(g, row T (cmV l t (hnextV g 6) (.func (.func 55) [.pointer (some ⟨g, 0, none⟩)].toArray [].toArray) z.c (.slice Ac z.c.clear.length cc) (.slice An z.c.ent.nodes.length cn) (.slice Aw z.c.ent.with_.length cw) (.int .i64 z.page :: ex)))] ++ Ll2) hJa ?_; have e1 : z.commits e = (false, z.go 6) := if_pos h0
  exact ⟨e, x2, _, _, hee, hap, by rw [e1], rfl, by rw [e1]; exact (.mk (hc.mono fun b o q => hJa.2 b o q) (hn.mono hJa) (hw.mono (Imv.le hJa)) hs), hlg2⟩
 ·refine WP.mv rfl rfl ?_
  refine WP.nil ?_; refine WP.sub [(0, _), (2, _), (3, _), (4, _), (14, _), (34, _), (35, _)] ?_ ⟨rfl, rfl, rfl, rfl, rfl, rfl, rfl, trivial⟩
  refine WP.next ?_; refine WP.condF rfl ?_; refine WP.seq ?_; refine WP.region [0, 1] rfl ?_; refine WP.split rfl rfl rfl rfl (Yld.eql rfl rfl rfl) (fun h5 => ?_) (fun h5 => ?_)
  ·refine WP.mv rfl rfl ?_
   refine WP.nil ?_; refine WP.sub [(0, _), (2, _), (3, _), (4, _), (14, _), (34, _), (35, _), (43, _)] ?_ ⟨rfl, rfl, rfl, rfl, rfl, rfl, rfl, rfl, trivial⟩
   refine WP.next ?_; refine WP.condT rfl ?_; refine WP.seq ?_; refine WP.region [0, 1, 2, 3, 4, 5, 6] rfl ?_; refine WP.mv rfl rfl ?_; refine WP.vl rfl (Yld.nilCheck rfl rfl) ?_; refine WP.vl rfl (Yld.fieldAddr rfl ty_fd_58_0 rfl) ?_; refine WP.mv rfl rfl ?_; refine WP.vl rfl (Yld.makeFunc rfl (vs := [_]) (us := []) rfl rfl) ?_; refine WP.loud rfl rfl ?_; refine Op.cl (txn_goes (b := g)) rfl Tryz.func111 rfl rfl rfl rfl ?_; rintro v J L1 - ⟨rfl, rfl, rfl⟩
   try simp only [nf]
   refine WP.mv rfl rfl ?_; refine WP.nil ?_; refine WP.sub [(0, _), (2, _), (3, _), (4, _), (14, _), (34, _), (35, _), (43, _)] ?_ ⟨rfl, rfl, rfl, rfl, rfl, rfl, rfl, rfl, trivial⟩
   refine WP.next (WP.ret ?_)
   refine WP.fn .ret (.inr rfl) (res1 rfl rfl) ([(g, row T (cmV l t (hnextV g 4) (.func (.func 55) [.pointer (some ⟨g, 0, none⟩)].toArray [].toArray) z.c (.slice Ac z.c.clear.length cc) (.slice An z.c.ent.nodes.length cn) (.slice Aw z.c.ent.with_.length cw) (.int .i64 z.page :: ex)))] ++ Ll2) hJa ?_; have e1 : z.commits e = (false, z.go 4) := (if_neg h0).trans (if_pos h5)
   exact ⟨e, x2, _, _, hee, hap, by rw [e1], rfl, by rw [e1]; exact (.mk (hc.mono fun b o q => hJa.2 b o q) (hn.mono hJa) (hw.mono (Imv.le hJa)) hs), hlg2⟩
  ·refine WP.mv rfl rfl ?_
   refine WP.nil ?_; refine WP.sub [(0, _), (2, _), (3, _), (4, _), (14, _), (34, _), (35, _), (43, _)] ?_ ⟨rfl, rfl, rfl, rfl, rfl, rfl, rfl, rfl, trivial⟩
   refine WP.next ?_; refine WP.condF rfl ?_; refine WP.skip (WP.leave (WP.next (WP.seq ?_)))
   refine WP.region [0, 1, 2, 3, 4, 5] rfl ?_; refine WP.mv rfl rfl ?_; refine WP.vl rfl (Yld.nilCheck rfl rfl) ?_; refine WP.vl rfl (Yld.fieldAddr rfl ty_fd_58_0 rfl) ?_; refine WP.mv rfl rfl ?_; refine WP.loud rfl rfl ?_; refine Op.cl (txn_end (b := g)) rfl Tryz.func110 rfl rfl rfl rfl ?_; rintro v J L1 - ⟨rfl, rfl, rfl⟩
   try simp only [nf]
   refine WP.mv rfl rfl ?_; refine WP.nil ?_; refine WP.sub [(0, _), (2, _), (3, _), (4, _), (14, _), (34, _), (35, _), (43, _)] ?_ ⟨rfl, rfl, rfl, rfl, rfl, rfl, rfl, rfl, trivial⟩
   refine WP.next (WP.ret ?_)
   refine WP.fn .ret (.inr rfl) (res1 rfl rfl) ([(g, row T (cmV l t (hnextV g 9) (.func (.func 55) [.pointer (some ⟨g, 0, none⟩)].toArray [].toArray) ({ z.c with e := e } : Cm) (.slice Ac z.c.clear.length cc) (.slice An z.c.ent.nodes.length cn) (.slice Aw z.c.ent.with_.length cw) (.int .i64 z.page :: ex)))] ++ Ll2) hJa ?_; have e1 : z.commits e = (true, z.fin e) := (if_neg h0).trans (if_neg h5)
   exact ⟨e, x2, _, _, hee, hap, by rw [e1], rfl, by rw [e1]; exact (.mk (hc.mono fun b o q => hJa.2 b o q) (hn.mono hJa) (hw.mono (Imv.le hJa)) hs), hlg2⟩


end Go.Hp
