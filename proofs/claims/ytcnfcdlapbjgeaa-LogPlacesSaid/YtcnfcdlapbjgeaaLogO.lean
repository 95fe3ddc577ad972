import Derived.Test.YtcnfcdlapbjgeaaLogN
set_option linter.unusedVariables false
set_option linter.unusedSimpArgs false
namespace Go.Hp
open Go Go.Proofs

/-- A list of texts of bytes that is read. -/
structure RBs (J : Imm) (v : Value) (l : List (Value × List UInt8)) : Prop where
 rd : SlRd (Im J) v l.length 1 (l.map (·.1))
 el : ∀ e ∈ l, SlRd (Im J) e.1 e.2.length 1 (bytesV e.2)
theorem RBs.mono {I J : Imm} {v : Value} {l : List (Value × List UInt8)} (h : RBs I v l) (hJ : I.le J) : RBs J v l := ⟨h.rd.mono fun b o q => hJ.2 b o q, fun e he => (h.el e he).mono fun b o q => hJ.2 b o q⟩
theorem RBs.at_ {J : Imm} {A : Option Addr} {m c : Nat} {l : List (Value × List UInt8)} (h : RBs J (.slice A m c) l) {i : Nat} (hi : i < l.length) : ∃ b k T fr arr, A = some ⟨b, k, none⟩ ∧ J.blk b = some (.cells arr T fr) ∧ arr[k + i * 1]? = some l[i].1 := by
 obtain ⟨b, k, c', T, fr, arr, e, hc, hb, hcd⟩ := h.rd.get (by omega)
 refine ⟨b, k, T, fr, arr, by injection e, hb, ?_⟩
 have := take_cells hcd i l[i].1 (by simp [hi]) (by rw [List.length_map]; exact hi)
 rw [Array.getElem?_toList] at this
 rwa [Nat.mul_one]
theorem ints_at {J : Imm} {A : Option Addr} {m c : Nat} {l : List Int} (h : SlRd (Im J) (.slice A m c) l.length 1 (l.map (Value.int .i64))) {i : Nat} (hi : i < l.length) : ∃ b k T fr arr, A = some ⟨b, k, none⟩ ∧ J.blk b = some (.cells arr T fr) ∧ arr[k + i * 1]? = some (.int .i64 l[i]) := by
 obtain ⟨b, k, c', T, fr, arr, e, hc, hb, hcd⟩ := h.get (by omega)
 refine ⟨b, k, T, fr, arr, by injection e, hb, ?_⟩
 have := take_cells hcd i (.int .i64 l[i]) (by simp [hi]) (by rw [List.length_map]; exact hi)
 rw [Array.getElem?_toList] at this
 rwa [Nat.mul_one]
def RBB (I : Imm) (e : Value × List UInt8) (cs : List Value) : Prop := cs = [e.1] ∧ SlRd (Im I) e.1 e.2.length 1 (bytesV e.2)
theorem elem_bb {H : Type} {enc : TypeId × Value → H} {W : World} {sp : Nat → Bool} {held : Bool} (n : Nat) (cs : List Value) (x : DataW H × List MemPlace) (h : DataW.trod enc Try.prog W 0 sp held n 46 cs = some x) (hl : cs.length = 1) : ∃ e, RBB (immOf W) e cs ∧ (fun (_ : Value × List UInt8) (_ : DataW H) => True) e x.1 := by
 obtain ⟨v, z, j, S, D⟩ := open_slc RB (fun _ _ => True) Try.underlying46 (sz := 1) (by kernel_rfl) (by decide) (elem_byte (by kernel_rfl)) h
 exact ⟨(v, z), ⟨j, Slc.bytes S⟩, trivial⟩
theorem Slc.bss {I : Imm} {v : Value} {l : List (Value × List UInt8)} (h : Slc I 1 (RBB I) v l) : RBs I v l := by
 refine ⟨Slc.flat (fun e : Value × List UInt8 => e.1) (fun x cs h => h.1) h, fun e he => ?_⟩
 obtain ⟨i, hi, rfl⟩ := List.getElem_of_mem he
 obtain ⟨A, cap, _, _, h3⟩ := h
 rcases h3 with rfl | ⟨b, kk, arr, T, fr, _, _, hel⟩
 ·cases hi
 ·exact (hel i _ (List.getElem?_eq_getElem hi)).2.2
/-- An Append, whatever it answers. -/
structure APX where
 e : Int
 hn : Nat
 hp : Nat
 x : Lg
 J : Imm
 L : Chunks
 b : Nat
def ApOk (x : Lg) (b : List UInt8) (e : Int) (hn hp : Nat) (x' : Lg) : Prop := (e ≠ 0 ∧ x' = x ∧ hn = 0 ∧ hp = 0) ∨ (e = 0 ∧ ∃ r : Rc, r.b = b ∧ x' = x.push r ∧ hn = x'.no ∧ hp = x'.pl)
theorem log_AppendX {I : Imm} {l s d n : Nat} {x : Lg} {y : Dk} {L : Chunks} (hl : IsLog I l s d n x y L) {hn hp : Nat} {kind : Int} {b : List UInt8} {vb : Value} (hb : SlRd (Im I) vb b.length 1 (bytesV b)) : Spec Try.prog 10 [.pointer (some ⟨l, 0, none⟩), .agg #[.int .i64 (hn : Int), .int .i64 (hp : Int)], .int .i64 kind, vb] I L (fun v J L' => ∃ (e : Int) (hn' hp' : Nat) (x' : Lg), v = .tuple #[.agg #[.int .i64 (hn' : Int), .int .i64 (hp' : Int)], .int .i64 e] ∧ e = x.apE hn hp kind b ∧ ApOk x b e hn' hp' x' ∧ IsLog J l s d n x' y L') :=
 (log_Append hl hb).mono (by
  rintro v J L' _ (⟨h1, h2, h3⟩ | ⟨h1, r, h2, h3, h4, h5⟩)
  ·exact ⟨_, 0, 0, x, h2, rfl, .inl ⟨h1, rfl, rfl, rfl⟩, h3⟩
  ·exact ⟨0, _, _, x.push r, h4, h1.symm, .inr ⟨rfl, r, h3, rfl, rfl, rfl⟩, h5⟩)
theorem push_last (x : Lg) (r : Rc) : ∃ h : x.rs.length < (x.push r).rs.length, (x.push r).rs[x.rs.length] = r := ⟨by show _ < (x.rs ++ [r]).length; rw [List.length_append]; simp, by simp [Lg.push]⟩
theorem log_Record_last {I : Imm} {l s d n : Nat} {x : Lg} {r : Rc} {y : Dk} {L : Chunks} (hl : IsLog I l s d n (x.push r) y L) (hlk : (x.push r).lo ≤ x.no) : Spec Try.prog 18 [.pointer (some ⟨l, 0, none⟩), .int .i64 ((x.no + 1 : Nat) : Int)] I L (fun v J L' => I = J ∧ ∃ vb Lc, v = .tuple #[.int .i64 r.kind, .int .i64 (x.pl : Int), vb, .bool true] ∧ Own 5 1 vb (bytesV r.b) r.b.length Lc ∧ L' = Lc ++ L) := by
 obtain ⟨hk, e⟩ := push_last x r
 have h := log_Record hl hk hlk
 rw [e, x.endP_push r (Nat.le_refl _), x.endP_len] at h
 exact h
theorem lo_zero {x : Lg} (h : x.mno = 0) : x.lo = 0 := by unfold Lg.lo; rw [h]; exact Nat.zero_min _
structure PLX where
 i : Nat
 x : Lg
 J : Imm
 L : Chunks
structure PLX.ok (I : Imm) (l s d n : Nat) (g : Sg) (m : Nat) (t : PLX) : Prop where
 le : t.i ≤ m
 hJ : I.le t.J
 hl : IsLog t.J l s d n t.x (Dk.new n) t.L
 b0 : t.x.base = 0
 m0 : t.x.mno = 0
 w0 : t.x.wr = 0
 gg : t.x.g = g
set_option maxHeartbeats 1000000 in
theorem log_LogPlaces {I : Imm} {ls : List (Value × List UInt8)} {vl vk : Value} {ks : List Int} (hls : RBs I vl ls) (hks : SlRd (Im I) vk ks.length 1 (ks.map (Value.int .i64))) (hln : ls.length ≤ 140737488351232) : Spec Try.prog 5 [vl, vk] I [] (fun v J L => v = .bool true ∧ L = []) := by
 obtain ⟨Al, cl, rfl, _, _, _⟩ := id hls.rd
 obtain ⟨Ak, ck, rfl, _, _, _⟩ := id hks
 refine Spec.of Try.func5 rfl Try.ntmps5 (Nat.le_of_ble_eq_true rfl) (fun F => ?_)
 try simp only [nf]
 dsimp only [argsEnv]
 refine WP.seq ?_
 refine WP.region [0] rfl ?_
 refine WP.mv rfl rfl ?_
 refine WP.nil ?_
 refine WP.next ?_
 refine WP.seq ?_
 refine WP.region [0, 1] rfl ?_
 refine WP.loud rfl rfl ?_
 refine Op.cl log_awake rfl Try.func8 rfl rfl rfl rfl ?_
 rintro v Ja L1 hJa ⟨rfl, rfl⟩
 try simp only [nf]
 have hls := hls.mono hJa
 have hks := hks.mono (fun b o h => hJa.2 b o h)
 refine WP.mv rfl rfl ?_
 refine WP.nil ?_
 refine WP.sub [(0, _), (1, _), (4, _), (5, _)] ?_ ⟨rfl, rfl, rfl, rfl, trivial⟩
 refine WP.next ?_
 refine WP.seq ?_
 refine WP.region [0, 1, 2, 3, 4, 5, 6, 7, 8] rfl ?_
 refine WP.vl rfl (Yld.buildS (pl := [(1, 1, 1)]) rfl ty_zr_29 ty_zd_29 (by kernel_rfl) rfl (vs := [_]) rfl (segs := [(1, [_])]) rfl rfl (by repeat (first | exact SetSeg.nil | apply SetSeg.one | exact SetAt.zero | apply SetAt.succ))) ?_
 refine WP.loud rfl rfl ?_
 refine Op.cl (log_begun (n := 1288) (f := 1) (hn := 0) (hp := 8) (era := 1) (by decide) (by decide) (by decide) (by decide) (by decide) (by decide) (by decide)) rfl Try.func9 rfl rfl rfl rfl ?_
 rintro v J L1 - ⟨rfl, x, d, s, l, q, rt, rm, Ll, rfl, rfl, hl⟩
 try simp only [nf]
 have hl : IsLog _ l s d 1288 (⟨1, ⟨40, 1, 1⟩, 0, 8, [], 0, 0, 8⟩ : Lg) (Dk.new 1288) Ll := hl
 refine WP.mv rfl rfl ?_
 refine WP.vl rfl (Yld.extract rfl rfl rfl) ?_
 refine WP.vl rfl (Yld.extract rfl rfl rfl) ?_
 refine WP.vl rfl (Yld.extract rfl rfl rfl) ?_
 iterate 3 refine WP.mv rfl rfl ?_
 refine WP.nil ?_
 refine WP.sub [(0, _), (1, _), (4, _), (5, _), (6, _), (7, _)] ?_ ⟨rfl, rfl, rfl, rfl, rfl, rfl, trivial⟩
 refine WP.next ?_
 refine WP.seq ?_
 refine WP.seq ?_
 refine WP.region [0, 1, 2, 3, 4, 5] rfl ?_
 refine WP.mv rfl rfl ?_
 refine WP.vl rfl (Yld.not rfl rfl) ?_
 refine WP.mv rfl rfl ?_
 refine WP.valG rfl rfl rfl rfl rfl rfl rfl (Yld.move rfl rfl) ?_
 refine WP.valG rfl rfl rfl rfl rfl rfl rfl (Yld.not rfl rfl) ?_
 refine WP.vl rfl (Yld.pickF rfl rfl rfl) ?_
 refine WP.nil ?_
 refine WP.sub [(0, _), (1, _), (4, _), (5, _), (6, _), (7, _), (31, _)] ?_ ⟨rfl, rfl, rfl, rfl, rfl, rfl, rfl, trivial⟩
 refine WP.next ?_
 refine WP.condF rfl ?_
 refine WP.skip ?_
 refine WP.next ?_
 refine WP.seq ?_
 refine WP.region [0] rfl ?_
 refine WP.mv rfl rfl ?_
 refine WP.nil ?_
 refine WP.next ?_
 refine WP.seq ?_
 refine WP.region [0] rfl ?_
 refine WP.mv rfl rfl ?_
 refine WP.nil ?_
 refine WP.next ?_
 refine WP.seq ?_
 refine WP.seq ?_
 refine WP.region [0] rfl ?_
 refine WP.mv rfl rfl ?_
 refine WP.nil ?_
 refine WP.next ?_
 refine WP.block ?_
 refine WP.loop (X := PLX) (fun t : PLX => [(0, .slice Al ls.length cl), (1, .slice Ak ks.length ck), (6, .pointer (some ⟨x, 0, none⟩)), (9, .int .i64 (t.x.pl : Int)), (10, .int .i64 (t.x.no : Int)), (11, .int .i64 (t.i : Int))]) (fun t => t.J) (fun t : PLX => (x, row 43 [.pointer (some ⟨d, 0, none⟩), .pointer (some ⟨s, 0, none⟩), .pointer (some ⟨l, 0, none⟩), .pointer (some ⟨q, 0, none⟩), .pointer (some ⟨rt, 0, none⟩), .pointer (some ⟨rm, 0, none⟩), .slice none 0 0, .slice none 0 0, .slice none 0 0, .slice none 0 0]) :: (t.L ++ F)) (fun t => t.ok Ja l s d 1288 ⟨40, 1, 1⟩ ls.length) (fun t => ls.length - t.i) ⟨0, ⟨1, ⟨40, 1, 1⟩, 0, 8, [], 0, 0, 8⟩, Ja, Ll⟩ ⟨Nat.zero_le _, Imm.le_refl _, hl, rfl, rfl, rfl, rfl⟩ ⟨rfl, rfl, rfl, rfl, rfl, rfl, trivial⟩ rfl (by (try dsimp only); repeat (first | exact Rm.chunk | exact Rm.here | exact Rm.nil0 | apply Rm.skip | apply Rm.skipS | apply PX.cons | (apply PX.done; (repeat (first | exact Leave.done | apply Leave.drop | apply Leave.dropS)); done) | apply PX.app)) ?_
 rintro ⟨i, xx, J, Lx⟩ ⟨hle, hJ, hl, hb0, hm0, hw0, hgg⟩; dsimp only at hle hJ hl hb0 hm0 hw0 hgg
 try dsimp only
 try simp only [nf]
 refine WP.seq ?_
 refine WP.seq ?_
 refine WP.region [0, 1, 2, 3] rfl ?_
 iterate 2 refine WP.mv rfl rfl ?_
 refine WP.vl rfl (Yld.len rfl ty_sl_22 rfl) ?_
 refine WP.split rfl rfl rfl rfl (Yld.lss rfl rfl rfl) (fun hlt => ?_) (fun hlt => ?_)
 ·have hi : i < ls.length := by omega
  have hls := hls.mono hJ
  have hks := hks.mono (fun b o h => hJ.2 b o h)
  obtain ⟨bl, kl, Tl, fl, arl, ea, hbl, hcl⟩ := hls.at_ hi
  subst ea
  have hel := hls.el _ (List.getElem_mem hi)
  refine WP.nil ?_
  refine WP.sub [(0, _), (1, _), (6, _), (9, _), (10, _), (11, _), (35, _)] ?_ ⟨rfl, rfl, rfl, rfl, rfl, rfl, rfl, trivial⟩
  refine WP.next ?_
  refine WP.condT rfl ?_
  refine WP.skip ?_
  refine WP.next ?_
  refine WP.seq ?_
  refine WP.block ?_
  refine WP.seq ?_
  refine WP.region [0] rfl ?_
  refine WP.mv rfl rfl ?_
  refine WP.nil ?_
  refine WP.next ?_
  refine WP.seq ?_
  refine WP.seq ?_
  refine WP.region [0, 1, 2, 3] rfl ?_
  iterate 2 refine WP.mv rfl rfl ?_
  refine WP.vl rfl (Yld.len rfl ty_sl_23 rfl) ?_
  refine WP.split rfl rfl rfl rfl (Yld.lss rfl rfl rfl) (fun hlt2 => ?_) (fun hlt2 => ?_)
  ·have hi2 : i < ks.length := by omega
   obtain ⟨bk, kk, Tk, fk, ark, ek, hbk, hck⟩ := ints_at hks hi2
   refine WP.nil ?_
   refine WP.sub [(0, _), (1, _), (6, _), (9, _), (10, _), (11, _), (12, _), (35, _), (41, _)] ?_ ⟨rfl, rfl, rfl, rfl, rfl, rfl, rfl, rfl, rfl, trivial⟩
   refine WP.next ?_
   refine WP.condT rfl ?_
   refine WP.region [0, 1, 2, 3, 4] rfl ?_
   iterate 2 refine WP.mv rfl rfl ?_
   refine WP.vl rfl (Yld.indexAddr (i := i) rfl ty_sl_23 (congrArg (fun a => some (Value.slice a ks.length ck)) ek) rfl hi2) ?_
   refine WP.vl rfl (Yld.loadC rfl ty_sc_3 rfl (There.i hbk) hck) ?_
   refine WP.mv rfl rfl ?_
   refine WP.nil ?_
   refine WP.sub [(0, _), (1, _), (6, _), (9, _), (10, _), (11, _), (12, _), (35, _), (41, _)] ?_ ⟨rfl, rfl, rfl, rfl, rfl, rfl, rfl, rfl, rfl, trivial⟩
   refine WP.next ?_
   refine WP.cut (X := APX) (fun t : APX => [(0, .slice (some ⟨bl, kl, none⟩) ls.length cl), (1, .slice Ak ks.length ck), (6, .pointer (some ⟨x, 0, none⟩)), (9, .int .i64 (xx.pl : Int)), (10, .int .i64 (xx.no : Int)), (11, .int .i64 (i : Int)), (13, .pointer (some ⟨t.b, 0, none⟩)), (14, .int .i64 t.e)]) (fun t => t.J) (fun t : APX => (x, row 43 [.pointer (some ⟨d, 0, none⟩), .pointer (some ⟨s, 0, none⟩), .pointer (some ⟨l, 0, none⟩), .pointer (some ⟨q, 0, none⟩), .pointer (some ⟨rt, 0, none⟩), .pointer (some ⟨rm, 0, none⟩), .slice none 0 0, .slice none 0 0, .slice none 0 0, .slice none 0 0]) :: (t.b, row 29 [.int .i64 (t.hn : Int), .int .i64 (t.hp : Int)]) :: (t.L ++ F)) (fun t : APX => J.le t.J ∧ ApOk xx ls[i].2 t.e t.hn t.hp t.x ∧ IsLog t.J l s d 1288 t.x (Dk.new 1288) t.L) ?_ ?_
   ·skip
    refine WD.start Trymixed 19 (fun c o => (c = x ∧ o = row 43 [.pointer (some ⟨d, 0, none⟩), .pointer (some ⟨s, 0, none⟩), .pointer (some ⟨l, 0, none⟩), .pointer (some ⟨q, 0, none⟩), .pointer (some ⟨rt, 0, none⟩), .pointer (some ⟨rm, 0, none⟩), .slice none 0 0, .slice none 0 0, .slice none 0 0, .slice none 0 0]) ∨ J.blk c = some o) (fun _ _ => False) (by rintro _ _ (⟨rfl, rfl⟩ | h); exact (by repeat (first | exact There.h | exact There.i (by assumption) | apply There.t | apply There.s)); exact There.i h) (fun _ _ h => h.elim) 21 [false, false, false, false, false, false, false, false, false, false, false, false, false, false, false, false, false, false, false, false, false] rfl rfl ?_
    refine WD.val (i := 0) rfl rfl rfl rfl (by kernel_rfl) rfl (Yld.move rfl rfl) ?_
    refine WD.val (i := 1) rfl rfl rfl rfl (by kernel_rfl) rfl (Yld.nilCheck rfl rfl) ?_
    refine WD.val (i := 2) rfl rfl rfl rfl (by kernel_rfl) rfl (Yld.fieldAddr rfl ty_fd_43_2 rfl) ?_
    refine WD.val1 (i := 3) rfl rfl rfl rfl (by kernel_rfl) rfl (by kernel_rfl) (Yld.load (v := .pointer (some ⟨l, 0, none⟩)) rfl ty_sc_34 rfl (.inl (.inl ⟨rfl, rfl⟩)) rfl) ?_
    refine WD.val (i := 4) rfl rfl rfl rfl (by kernel_rfl) rfl (Yld.move rfl rfl) ?_
    refine WD.val (i := 5) rfl rfl rfl rfl (by kernel_rfl) rfl (Yld.nilCheck rfl rfl) ?_
    refine WD.val (i := 6) rfl rfl rfl rfl (by kernel_rfl) rfl (Yld.fieldAddr rfl ty_fd_43_2 rfl) ?_
    refine WD.val1 (i := 7) rfl rfl rfl rfl (by kernel_rfl) rfl (by kernel_rfl) (Yld.load (v := .pointer (some ⟨l, 0, none⟩)) rfl ty_sc_34 rfl (.inl (.inl ⟨rfl, rfl⟩)) rfl) ?_
    refine WD.val (i := 9) rfl rfl rfl rfl (by kernel_rfl) rfl (Yld.move rfl rfl) ?_
    refine WD.val (i := 10) rfl rfl rfl rfl (by kernel_rfl) rfl (Yld.move rfl rfl) ?_
    refine WD.val (i := 11) rfl rfl rfl rfl (by kernel_rfl) rfl (Yld.move rfl rfl) ?_
    refine WD.val (i := 12) rfl rfl rfl rfl (by kernel_rfl) rfl (Yld.indexAddr (i := i) rfl ty_sl_22 rfl rfl hi) ?_
    refine WD.val1 (i := 13) rfl rfl rfl rfl (by kernel_rfl) rfl (by kernel_rfl) (Yld.loadC rfl ty_sc_46 rfl (.inl (.inr hbl)) hcl) ?_
    refine WD.both (i := 8) (j := 18) (by kernel_rfl) rfl rfl ?_ ?_
    ·refine WP.oper rfl rfl ?_
     refine Op.cl (log_Head hl) rfl Try.func11 rfl rfl rfl rfl ?_
     rintro v J L1 - ⟨rfl, rfl, rfl⟩
     try simp only [nf]
     refine WD.go (.inr (by rintro _ _ (⟨rfl, rfl⟩ | h); exact (by repeat (first | exact There.h | exact There.i (by assumption) | apply There.t | apply There.s)); first | exact There.i h | exact There.i (hJ2.2 _ _ h))) (fun _ _ h => h.elim) ?_
     refine WD.both (i := 14) (j := 18) (by kernel_rfl) rfl rfl ?_ ?_
     ·refine WP.oper rfl rfl ?_
      refine Op.cl (log_AppendX (hn := xx.no) (hp := xx.pl) hl hel) rfl Try.func10 rfl rfl rfl rfl ?_
      rintro v J2 La hJ2 ⟨e, hn, hp, x2, rfl, _, hap, hl⟩
      try simp only [nf]
      refine WD.go (.inr (by rintro _ _ (⟨rfl, rfl⟩ | h); exact (by repeat (first | exact There.h | exact There.i (by assumption) | apply There.t | apply There.s)); first | exact There.i h | exact There.i (hJ2.2 _ _ h))) (fun _ _ h => h.elim) ?_
      refine WD.val (i := 15) rfl rfl rfl rfl (by kernel_rfl) rfl (Yld.move rfl rfl) ?_
      refine WD.val (i := 16) rfl rfl rfl rfl (by kernel_rfl) rfl (Yld.extract rfl rfl rfl) ?_
      refine WD.val (i := 17) rfl rfl rfl rfl (by kernel_rfl) rfl (Yld.extract rfl rfl rfl) ?_
      refine WD.loud (i := 18) (by kernel_rfl) rfl rfl rfl ?_
      refine Op.alloc rfl rfl rfl ty_zr_29 (fun b13 => ?_)
      refine WD.go (.inr (by rintro _ _ (⟨rfl, rfl⟩ | h); exact (by repeat (first | exact There.h | exact There.i (by assumption) | apply There.t | apply There.s)); first | exact There.i h | exact There.i (hJ2.2 _ _ h))) (fun _ _ h => h.elim) ?_
      refine WD.loud (i := 19) (by kernel_rfl) rfl rfl rfl ?_
      refine Op.sA rfl rfl ty_sz_29 rfl rfl rfl rfl rfl ?_
      refine WD.go (.inl rfl) (fun _ _ h => h.elim) ?_
      refine WD.val (i := 20) rfl rfl rfl rfl (by kernel_rfl) rfl (Yld.assign rfl rfl) ?_
      refine WD.done (by kernel_rfl) ?_
      refine WP.sub [(0, _), (1, _), (6, _), (9, _), (10, _), (11, _), (12, _), (13, _), (14, _), (35, _), (41, _)] ?_ ⟨rfl, rfl, rfl, rfl, rfl, rfl, rfl, rfl, rfl, rfl, rfl, trivial⟩
      exact WP.mt (⟨e, hn, hp, x2, J2, La, b13⟩ : APX) ⟨hJ2, hap, hl⟩ ⟨rfl, rfl, rfl, rfl, rfl, rfl, rfl, rfl, trivial⟩ rfl
     ·refine WP.oper rfl rfl ?_
      refine Op.alloc rfl rfl rfl ty_zr_29 (fun b13 => ?_)
      refine WD.go (.inr (by rintro _ _ (⟨rfl, rfl⟩ | h); exact (by repeat (first | exact There.h | exact There.i (by assumption) | apply There.t | apply There.s)); first | exact There.i h | exact There.i (hJ2.2 _ _ h))) (fun _ _ h => h.elim) ?_
      refine WD.loud (i := 14) (by kernel_rfl) rfl rfl rfl ?_
      refine Op.cl (log_AppendX (hn := xx.no) (hp := xx.pl) hl hel) rfl Try.func10 rfl rfl rfl rfl ?_
      rintro v J2 La hJ2 ⟨e, hn, hp, x2, rfl, _, hap, hl⟩
      try simp only [nf]
      refine WD.go (.inr (by rintro _ _ (⟨rfl, rfl⟩ | h); exact (by repeat (first | exact There.h | exact There.i (by assumption) | apply There.t | apply There.s)); first | exact There.i h | exact There.i (hJ2.2 _ _ h))) (fun _ _ h => h.elim) ?_
      refine WD.val (i := 15) rfl rfl rfl rfl (by kernel_rfl) rfl (Yld.move rfl rfl) ?_
      refine WD.val (i := 16) rfl rfl rfl rfl (by kernel_rfl) rfl (Yld.extract rfl rfl rfl) ?_
      refine WD.val (i := 17) rfl rfl rfl rfl (by kernel_rfl) rfl (Yld.extract rfl rfl rfl) ?_
      refine WD.loud (i := 19) (by kernel_rfl) rfl rfl rfl ?_
      refine Op.sA rfl rfl ty_sz_29 rfl rfl rfl rfl rfl ?_
      refine WD.go (.inl rfl) (fun _ _ h => h.elim) ?_
      refine WD.val (i := 20) rfl rfl rfl rfl (by kernel_rfl) rfl (Yld.assign rfl rfl) ?_
      refine WD.done (by kernel_rfl) ?_
      refine WP.sub [(0, _), (1, _), (6, _), (9, _), (10, _), (11, _), (12, _), (13, _), (14, _), (35, _), (41, _)] ?_ ⟨rfl, rfl, rfl, rfl, rfl, rfl, rfl, rfl, rfl, rfl, rfl, trivial⟩
      exact WP.mt (⟨e, hn, hp, x2, J2, La, b13⟩ : APX) ⟨hJ2, hap, hl⟩ ⟨rfl, rfl, rfl, rfl, rfl, rfl, rfl, rfl, trivial⟩ rfl
    ·refine WP.oper rfl rfl ?_
     refine Op.alloc rfl rfl rfl ty_zr_29 (fun b13 => ?_)
     refine WD.go (.inr (by rintro _ _ (⟨rfl, rfl⟩ | h); exact (by repeat (first | exact There.h | exact There.i (by assumption) | apply There.t | apply There.s)); first | exact There.i h | exact There.i (hJ2.2 _ _ h))) (fun _ _ h => h.elim) ?_
     refine WD.loud (i := 8) (by kernel_rfl) rfl rfl rfl ?_
     refine Op.cl (log_Head hl) rfl Try.func11 rfl rfl rfl rfl ?_
     rintro v J L1 - ⟨rfl, rfl, rfl⟩
     try simp only [nf]
     refine WD.go (.inr (by rintro _ _ (⟨rfl, rfl⟩ | h); exact (by repeat (first | exact There.h | exact There.i (by assumption) | apply There.t | apply There.s)); first | exact There.i h | exact There.i (hJ2.2 _ _ h))) (fun _ _ h => h.elim) ?_
     refine WD.loud (i := 14) (by kernel_rfl) rfl rfl rfl ?_
     refine Op.cl (log_AppendX (hn := xx.no) (hp := xx.pl) hl hel) rfl Try.func10 rfl rfl rfl rfl ?_
     rintro v J2 La hJ2 ⟨e, hn, hp, x2, rfl, _, hap, hl⟩
     try simp only [nf]
     refine WD.go (.inr (by rintro _ _ (⟨rfl, rfl⟩ | h); exact (by repeat (first | exact There.h | exact There.i (by assumption) | apply There.t | apply There.s)); first | exact There.i h | exact There.i (hJ2.2 _ _ h))) (fun _ _ h => h.elim) ?_
     refine WD.val (i := 15) rfl rfl rfl rfl (by kernel_rfl) rfl (Yld.move rfl rfl) ?_
     refine WD.val (i := 16) rfl rfl rfl rfl (by kernel_rfl) rfl (Yld.extract rfl rfl rfl) ?_
     refine WD.val (i := 17) rfl rfl rfl rfl (by kernel_rfl) rfl (Yld.extract rfl rfl rfl) ?_
     refine WD.loud (i := 19) (by kernel_rfl) rfl rfl rfl ?_
     refine Op.sA rfl rfl ty_sz_29 rfl rfl rfl rfl rfl ?_
     refine WD.go (.inl rfl) (fun _ _ h => h.elim) ?_
     refine WD.val (i := 20) rfl rfl rfl rfl (by kernel_rfl) rfl (Yld.assign rfl rfl) ?_
     refine WD.done (by kernel_rfl) ?_
     refine WP.sub [(0, _), (1, _), (6, _), (9, _), (10, _), (11, _), (12, _), (13, _), (14, _), (35, _), (41, _)] ?_ ⟨rfl, rfl, rfl, rfl, rfl, rfl, rfl, rfl, rfl, rfl, rfl, trivial⟩
     exact WP.mt (⟨e, hn, hp, x2, J2, La, b13⟩ : APX) ⟨hJ2, hap, hl⟩ ⟨rfl, rfl, rfl, rfl, rfl, rfl, rfl, rfl, trivial⟩ rfl
   ·rintro ⟨e, hn, hp, x2, J2, La, b13⟩ ⟨hJ2, hap, hl2⟩; dsimp only at hJ2 hap hl2; have hls := hls.mono hJ2; have hbl := hJ2.2 _ _ hbl
    refine WP.seq ?_
    refine WP.seq ?_
    refine WP.region [0, 1] rfl ?_
    refine WP.mv rfl rfl ?_
    refine WP.split rfl rfl rfl rfl (Yld.neq rfl rfl rfl) (fun he => ?_) (fun he => ?_)
    ·obtain ⟨_, hxe, rfl, rfl⟩ := hap.resolve_right (fun h => he h.1)
     rw [hxe] at hl2
     refine WP.nil ?_
     refine WP.sub [(0, _), (1, _), (6, _), (9, _), (10, _), (11, _), (13, _), (14, _), (65, _)] ?_ ⟨rfl, rfl, rfl, rfl, rfl, rfl, rfl, rfl, rfl, trivial⟩
     refine WP.next ?_
     refine WP.condT rfl ?_
     refine WP.seq ?_
     refine WP.seq ?_
     refine WP.region [0, 1, 2, 3, 4, 5, 6, 7, 8, 9, 10, 11, 12, 13] rfl ?_
     refine WP.mv rfl rfl ?_
     refine WP.vl rfl (Yld.nilCheck rfl rfl) ?_
     refine WP.vl rfl (Yld.fieldAddr rfl ty_fd_43_2 rfl) ?_
     refine WP.vl rfl (Yld.ld (v := .pointer (some ⟨l, 0, none⟩)) rfl ty_sc_34 rfl rfl) ?_
     refine WP.loud rfl rfl ?_
     refine Op.cl (log_Head hl2) rfl Try.func11 rfl rfl rfl rfl ?_
     rintro v J L1 - ⟨rfl, rfl, rfl⟩
     try simp only [nf]
     iterate 2 refine WP.mv rfl rfl ?_
     refine WP.vl rfl (Yld.buildS (pl := [(0, 0, 1), (1, 1, 1)]) rfl ty_zr_29 ty_zd_29 (by kernel_rfl) rfl (vs := [_, _]) rfl (segs := [(0, [_]), (1, [_])]) rfl rfl (by repeat (first | exact SetSeg.nil | apply SetSeg.one | exact SetAt.zero | apply SetAt.succ))) ?_
     refine WP.vl rfl (Yld.neqInts (m := 2) (us := [(xx.no : Int), (xx.pl : Int)]) (vs := [(xx.no : Int), (xx.pl : Int)]) rfl (by kernel_rfl) rfl rfl rfl rfl false (by simp)) ?_
     refine WP.mv rfl rfl ?_
     refine WP.valG rfl rfl rfl rfl rfl rfl rfl (Yld.ldg (vs := [.int .i64 ((0 : Nat) : Int), .int .i64 ((0 : Nat) : Int)]) rfl ty_ag_29 rfl rfl rfl) ?_
     refine WP.valG rfl rfl rfl rfl rfl rfl rfl (Yld.buildS (pl := []) rfl ty_zr_29 ty_zd_29 (by kernel_rfl) rfl (vs := []) rfl (segs := []) rfl rfl (by repeat (first | exact SetSeg.nil | apply SetSeg.one | exact SetAt.zero | apply SetAt.succ))) ?_
     refine WP.valG rfl rfl rfl rfl rfl rfl rfl (Yld.neqInts (m := 2) (us := [0, 0]) (vs := [0, 0]) rfl (by kernel_rfl) rfl rfl rfl rfl false (by simp)) ?_
     refine WP.vl rfl (Yld.pickF rfl rfl rfl) ?_
     refine WP.nil ?_
     refine WP.sub [(0, _), (1, _), (6, _), (9, _), (10, _), (11, _), (13, _), (14, _), (65, _), (79, _)] ?_ ⟨rfl, rfl, rfl, rfl, rfl, rfl, rfl, rfl, rfl, rfl, trivial⟩
     refine WP.next ?_
     refine WP.condF rfl ?_
     refine WP.skip ?_
     refine WP.next ?_
     refine WP.exit ?_
     refine WP.thenE ?_
     refine WP.hit ?_
     refine WP.next ?_
     refine WP.region [0, 1, 2] rfl ?_
     refine WP.mv rfl rfl ?_
     refine WP.vl rfl (Yld.add64 rfl rfl rfl (by omega)) ?_
     refine WP.mv rfl rfl ?_
     refine WP.nil ?_
     refine WP.sub [(0, _), (1, _), (6, _), (9, _), (10, _), (11, _), (13, _), (14, _), (65, _), (79, _)] ?_ ⟨rfl, rfl, rfl, rfl, rfl, rfl, rfl, rfl, rfl, rfl, trivial⟩
     exact WP.ag ⟨i + 1, xx, J2, La⟩ ⟨(show i + 1 ≤ ls.length by omega), Imm.le_trans hJ hJ2, hl2, hb0, hm0, hw0, hgg⟩ (show ls.length - (i + 1) < ls.length - i by omega) ⟨rfl, rfl, rfl, rfl, rfl, rfl, trivial⟩ rfl
    ·obtain ⟨_, r, hrb, rfl, rfl, rfl⟩ := hap.resolve_left (fun h => he h.1)
     have hlo : (xx.push r).lo = 0 := lo_zero hm0
     have hok := hl2.ok
     have hpl := xx.pl_push r
     have hpb : (xx.push r).pl ≤ 328 := by have h := hok.pb; rw [show (xx.push r).g = ⟨40, 1, 1⟩ from hgg] at h; exact h
     have hno := xx.no_push r
     have hnb := hok.nb
     refine WP.nil ?_
     refine WP.sub [(0, _), (1, _), (6, _), (9, _), (10, _), (11, _), (13, _), (14, _), (65, _)] ?_ ⟨rfl, rfl, rfl, rfl, rfl, rfl, rfl, rfl, rfl, trivial⟩
     refine WP.next ?_
     refine WP.condF rfl ?_
     refine WP.skip ?_
     refine WP.next ?_
     refine WP.seq ?_
     refine WP.region [0, 1, 2, 3, 4, 5, 6, 7, 8, 9, 10, 11, 12, 13, 14, 15] rfl ?_
     refine WP.mv rfl rfl ?_
     refine WP.vl rfl (Yld.nilCheck rfl rfl) ?_
     refine WP.vl rfl (Yld.fieldAddr rfl ty_fd_43_2 rfl) ?_
     refine WP.vl rfl (Yld.ld (v := .pointer (some ⟨l, 0, none⟩)) rfl ty_sc_34 rfl rfl) ?_
     refine WP.mv rfl rfl ?_
     refine WP.vl rfl (Yld.add64 rfl rfl rfl (by omega)) ?_
     rw [show (xx.no : Int) + 1 = ((xx.no + 1 : Nat) : Int) from rfl]
     refine WP.loud rfl rfl ?_
     refine Op.cl (log_Record_last hl2 (by omega)) rfl Try.func18 rfl rfl rfl rfl ?_
     rintro v J L17 - ⟨rfl, vb, Lc, rfl, hvb, rfl⟩
     try simp only [nf]
     refine WP.mv rfl rfl ?_
     refine WP.vl rfl (Yld.extract rfl rfl rfl) ?_
     refine WP.vl rfl (Yld.extract rfl rfl rfl) ?_
     refine WP.vl rfl (Yld.extract rfl rfl rfl) ?_
     refine WP.vl rfl (Yld.extract rfl rfl rfl) ?_
     iterate 4 refine WP.mv rfl rfl ?_
     refine WP.nil ?_
     refine WP.sub [(0, _), (1, _), (6, _), (9, _), (10, _), (11, _), (13, _), (14, _), (16, _), (17, _), (18, _), (65, _)] ?_ ⟨rfl, rfl, rfl, rfl, rfl, rfl, rfl, rfl, rfl, rfl, rfl, rfl, trivial⟩
     refine WP.next ?_
     refine WP.seq ?_
     refine WP.seq ?_
     refine WQ.startAll Trymixed (by kernel_rfl) _ rfl ?_
     refine WQ.val rfl rfl rfl (Yld.move rfl rfl) ?_
     refine WQ.val rfl rfl rfl (Yld.not rfl rfl) ?_
     refine WQ.val rfl rfl rfl (Yld.move rfl rfl) ?_
     refine WQ.valG rfl rfl rfl rfl rfl rfl (Yld.move rfl rfl) ?_
     refine WQ.valG rfl rfl rfl rfl rfl rfl (Yld.move rfl rfl) ?_
     refine WQ.valG rfl rfl rfl rfl rfl rfl (Yld.neq rfl rfl rfl false (decide_eq_false (by simp))) ?_
     refine WQ.val rfl rfl rfl (Yld.pickF rfl rfl rfl) ?_
     refine WQ.val rfl rfl rfl (Yld.move rfl rfl) ?_
     refine WQ.valG rfl rfl rfl rfl rfl rfl (Yld.move rfl rfl) ?_
     refine WQ.valG rfl rfl rfl rfl rfl rfl (Yld.str (e := 5) rfl (by kernel_rfl) (by kernel_rfl) (by kernel_rfl) rfl (hvb.rd (by intro p hp; simp [hp]))) ?_
     refine WQ.valG rfl rfl rfl rfl rfl rfl (Yld.move rfl rfl) ?_
     refine WQ.valG rfl rfl rfl rfl rfl rfl (Yld.move rfl rfl) ?_
     refine WQ.valG rfl rfl rfl rfl rfl rfl (Yld.indexAddr (i := i) rfl ty_sl_22 rfl rfl hi) ?_
     refine WQ.valG rfl rfl rfl rfl rfl rfl (Yld.loadC rfl ty_sc_46 rfl (There.i hbl) hcl) ?_
     refine WQ.valG rfl rfl rfl rfl rfl rfl (Yld.str (e := 5) rfl (by kernel_rfl) (by kernel_rfl) (by kernel_rfl) rfl ((hls.el _ (List.getElem_mem hi)).mono (fun b o h => .inr h))) ?_
     refine WQ.valG rfl rfl rfl rfl rfl rfl (Yld.neqStr rfl rfl rfl false (by rw [hrb]; simp)) ?_
     refine WQ.val rfl rfl rfl (Yld.pickF rfl rfl rfl) ?_
     refine WQ.nil ?_
     refine WP.sub [(0, _), (1, _), (6, _), (9, _), (10, _), (11, _), (13, _), (14, _), (16, _), (17, _), (18, _), (65, _), (108, _)] ?_ ⟨rfl, rfl, rfl, rfl, rfl, rfl, rfl, rfl, rfl, rfl, rfl, rfl, rfl, trivial⟩
     refine WP.next ?_
     refine WP.condF rfl ?_
     refine WP.skip ?_
     refine WP.next ?_
     refine WP.seq ?_
     refine WP.region [0, 1, 2] rfl ?_
     refine WP.mv rfl rfl ?_
     refine WP.vl rfl (Yld.add64 rfl rfl rfl (by omega)) ?_
     rw [show (xx.no : Int) + 1 = (((xx.push r).no : Nat) : Int) by rw [hno]; rfl]
     refine WP.mv rfl rfl ?_
     refine WP.nil ?_
     refine WP.sub [(0, _), (1, _), (6, _), (9, _), (10, _), (11, _), (13, _), (14, _), (16, _), (17, _), (18, _), (65, _), (108, _)] ?_ ⟨rfl, rfl, rfl, rfl, rfl, rfl, rfl, rfl, rfl, rfl, rfl, rfl, rfl, trivial⟩
     refine WP.next ?_
     refine WP.seq ?_
     obtain ⟨Ae, ce, hve, _, _, _⟩ := id (hls.el _ (List.getElem_mem hi))
     have hcl2 := hcl
     rw [hve] at hcl2
     have h126 : ls[i].2.length ≤ 12671 := by obtain ⟨hk, er⟩ := push_last xx r; have hR := hl2.recs _ hk; rw [er] at hR; have := hR.ok.len; simp only [kbody, List.length_cons, hrb] at this; omega
     have hrn : r.n = (ls[i].2.length + 198) / 198 := by unfold Rc.n kmany; rw [hrb]
     refine WP.region [0, 1, 2, 3, 4, 5, 6, 7, 8, 9, 10] rfl ?_
     iterate 3 refine WP.mv rfl rfl ?_
     refine WP.vl rfl (Yld.indexAddr (i := i) rfl ty_sl_22 rfl rfl hi) ?_
     refine WP.vl rfl (Yld.loadC rfl ty_sc_46 rfl (There.i hbl) hcl2) ?_
     refine WP.vl rfl (Yld.len rfl ty_sl_46 rfl) ?_
     refine WP.vl rfl (Yld.add64 rfl rfl rfl (by omega)) ?_
     refine WP.vl rfl (Yld.add64 rfl rfl rfl (by omega)) ?_
     refine WP.vl rfl (Yld.quo64 rfl rfl rfl (by omega)) ?_
     refine WP.vl rfl (Yld.add64 rfl rfl rfl (by omega)) ?_
     rw [show (xx.pl : Int) + ((ls[i].2.length : Int) + 1 + 197) / 198 = (((xx.push r).pl : Nat) : Int) by omega]
     refine WP.mv rfl rfl ?_
     refine WP.nil ?_
     refine WP.sub [(0, _), (1, _), (6, _), (9, _), (10, _), (11, _), (13, _), (14, _), (16, _), (17, _), (18, _), (65, _), (108, _)] ?_ ⟨rfl, rfl, rfl, rfl, rfl, rfl, rfl, rfl, rfl, rfl, rfl, rfl, rfl, trivial⟩
     refine WP.next ?_
     refine WP.seq ?_
     refine WP.region [0, 1, 2, 3, 4, 5, 6, 7, 8] rfl ?_
     refine WP.vl rfl (Yld.ldg (vs := [.int .i64 ((xx.push r).no : Int), .int .i64 ((xx.push r).pl : Int)]) rfl ty_ag_29 rfl rfl rfl) ?_
     iterate 2 refine WP.mv rfl rfl ?_
     refine WP.vl rfl (Yld.buildS (pl := [(0, 0, 1), (1, 1, 1)]) rfl ty_zr_29 ty_zd_29 (by kernel_rfl) rfl (vs := [_, _]) rfl (segs := [(0, [_]), (1, [_])]) rfl rfl (by repeat (first | exact SetSeg.nil | apply SetSeg.one | exact SetAt.zero | apply SetAt.succ))) ?_
     refine WP.vl rfl (Yld.neqInts (m := 2) (us := [((xx.push r).no : Int), ((xx.push r).pl : Int)]) (vs := [((xx.push r).no : Int), ((xx.push r).pl : Int)]) rfl (by kernel_rfl) rfl rfl rfl rfl false (by simp)) ?_
     refine WP.mv rfl rfl ?_
     refine WP.valG rfl rfl rfl rfl rfl rfl rfl (Yld.move rfl rfl) ?_
     refine WP.valG rfl rfl rfl rfl rfl rfl rfl (Yld.gtr rfl rfl rfl false (decide_eq_false (by omega))) ?_
     refine WP.vl rfl (Yld.pickF rfl rfl rfl) ?_
     refine WP.nil ?_
     refine WP.sub [(0, _), (1, _), (6, _), (9, _), (10, _), (11, _), (13, _), (14, _), (16, _), (17, _), (18, _), (65, _), (108, _), (129, _)] ?_ ⟨rfl, rfl, rfl, rfl, rfl, rfl, rfl, rfl, rfl, rfl, rfl, rfl, rfl, rfl, trivial⟩
     refine WP.next ?_
     refine WP.condF rfl ?_
     refine WP.skip ?_
     refine WP.leave ?_
     refine WP.next ?_
     refine WP.region [0, 1, 2] rfl ?_
     refine WP.mv rfl rfl ?_
     refine WP.vl rfl (Yld.add64 rfl rfl rfl (by omega)) ?_
     refine WP.mv rfl rfl ?_
     refine WP.nil ?_
     refine WP.sub [(0, _), (1, _), (6, _), (9, _), (10, _), (11, _), (13, _), (14, _), (16, _), (17, _), (18, _), (65, _), (108, _), (129, _)] ?_ ⟨rfl, rfl, rfl, rfl, rfl, rfl, rfl, rfl, rfl, rfl, rfl, rfl, rfl, rfl, trivial⟩
     exact WP.ag ⟨i + 1, xx.push r, J2, La⟩ ⟨(show i + 1 ≤ ls.length by omega), Imm.le_trans hJ hJ2, hl2, hb0, hm0, hw0, hgg⟩ (show ls.length - (i + 1) < ls.length - i by omega) ⟨rfl, rfl, rfl, rfl, rfl, rfl, trivial⟩ rfl
  ·refine WP.nil ?_
   refine WP.sub [(0, _), (1, _), (6, _), (9, _), (10, _), (11, _), (12, _), (35, _), (41, _)] ?_ ⟨rfl, rfl, rfl, rfl, rfl, rfl, rfl, rfl, rfl, trivial⟩
   refine WP.next ?_
   refine WP.condF rfl ?_
   refine WP.skip ?_
   refine WP.next ?_
   refine WP.cut (X := APX) (fun t : APX => [(0, .slice (some ⟨bl, kl, none⟩) ls.length cl), (1, .slice Ak ks.length ck), (6, .pointer (some ⟨x, 0, none⟩)), (9, .int .i64 (xx.pl : Int)), (10, .int .i64 (xx.no : Int)), (11, .int .i64 (i : Int)), (13, .pointer (some ⟨t.b, 0, none⟩)), (14, .int .i64 t.e)]) (fun t => t.J) (fun t : APX => (x, row 43 [.pointer (some ⟨d, 0, none⟩), .pointer (some ⟨s, 0, none⟩), .pointer (some ⟨l, 0, none⟩), .pointer (some ⟨q, 0, none⟩), .pointer (some ⟨rt, 0, none⟩), .pointer (some ⟨rm, 0, none⟩), .slice none 0 0, .slice none 0 0, .slice none 0 0, .slice none 0 0]) :: (t.b, row 29 [.int .i64 (t.hn : Int), .int .i64 (t.hp : Int)]) :: (t.L ++ F)) (fun t : APX => J.le t.J ∧ ApOk xx ls[i].2 t.e t.hn t.hp t.x ∧ IsLog t.J l s d 1288 t.x (Dk.new 1288) t.L) ?_ ?_
   ·skip
    refine WD.start Trymixed 19 (fun c o => (c = x ∧ o = row 43 [.pointer (some ⟨d, 0, none⟩), .pointer (some ⟨s, 0, none⟩), .pointer (some ⟨l, 0, none⟩), .pointer (some ⟨q, 0, none⟩), .pointer (some ⟨rt, 0, none⟩), .pointer (some ⟨rm, 0, none⟩), .slice none 0 0, .slice none 0 0, .slice none 0 0, .slice none 0 0]) ∨ J.blk c = some o) (fun _ _ => False) (by rintro _ _ (⟨rfl, rfl⟩ | h); exact (by repeat (first | exact There.h | exact There.i (by assumption) | apply There.t | apply There.s)); exact There.i h) (fun _ _ h => h.elim) 21 [false, false, false, false, false, false, false, false, false, false, false, false, false, false, false, false, false, false, false, false, false] rfl rfl ?_
    refine WD.val (i := 0) rfl rfl rfl rfl (by kernel_rfl) rfl (Yld.move rfl rfl) ?_
    refine WD.val (i := 1) rfl rfl rfl rfl (by kernel_rfl) rfl (Yld.nilCheck rfl rfl) ?_
    refine WD.val (i := 2) rfl rfl rfl rfl (by kernel_rfl) rfl (Yld.fieldAddr rfl ty_fd_43_2 rfl) ?_
    refine WD.val1 (i := 3) rfl rfl rfl rfl (by kernel_rfl) rfl (by kernel_rfl) (Yld.load (v := .pointer (some ⟨l, 0, none⟩)) rfl ty_sc_34 rfl (.inl (.inl ⟨rfl, rfl⟩)) rfl) ?_
    refine WD.val (i := 4) rfl rfl rfl rfl (by kernel_rfl) rfl (Yld.move rfl rfl) ?_
    refine WD.val (i := 5) rfl rfl rfl rfl (by kernel_rfl) rfl (Yld.nilCheck rfl rfl) ?_
    refine WD.val (i := 6) rfl rfl rfl rfl (by kernel_rfl) rfl (Yld.fieldAddr rfl ty_fd_43_2 rfl) ?_
    refine WD.val1 (i := 7) rfl rfl rfl rfl (by kernel_rfl) rfl (by kernel_rfl) (Yld.load (v := .pointer (some ⟨l, 0, none⟩)) rfl ty_sc_34 rfl (.inl (.inl ⟨rfl, rfl⟩)) rfl) ?_
    refine WD.val (i := 9) rfl rfl rfl rfl (by kernel_rfl) rfl (Yld.move rfl rfl) ?_
    refine WD.val (i := 10) rfl rfl rfl rfl (by kernel_rfl) rfl (Yld.move rfl rfl) ?_
    refine WD.val (i := 11) rfl rfl rfl rfl (by kernel_rfl) rfl (Yld.move rfl rfl) ?_
    refine WD.val (i := 12) rfl rfl rfl rfl (by kernel_rfl) rfl (Yld.indexAddr (i := i) rfl ty_sl_22 rfl rfl hi) ?_
    refine WD.val1 (i := 13) rfl rfl rfl rfl (by kernel_rfl) rfl (by kernel_rfl) (Yld.loadC rfl ty_sc_46 rfl (.inl (.inr hbl)) hcl) ?_
    refine WD.both (i := 8) (j := 18) (by kernel_rfl) rfl rfl ?_ ?_
    ·refine WP.oper rfl rfl ?_
     refine Op.cl (log_Head hl) rfl Try.func11 rfl rfl rfl rfl ?_
     rintro v J L1 - ⟨rfl, rfl, rfl⟩
     try simp only [nf]
     refine WD.go (.inr (by rintro _ _ (⟨rfl, rfl⟩ | h); exact (by repeat (first | exact There.h | exact There.i (by assumption) | apply There.t | apply There.s)); first | exact There.i h | exact There.i (hJ2.2 _ _ h))) (fun _ _ h => h.elim) ?_
     refine WD.both (i := 14) (j := 18) (by kernel_rfl) rfl rfl ?_ ?_
     ·refine WP.oper rfl rfl ?_
      refine Op.cl (log_AppendX (hn := xx.no) (hp := xx.pl) hl hel) rfl Try.func10 rfl rfl rfl rfl ?_
      rintro v J2 La hJ2 ⟨e, hn, hp, x2, rfl, _, hap, hl⟩
      try simp only [nf]
      refine WD.go (.inr (by rintro _ _ (⟨rfl, rfl⟩ | h); exact (by repeat (first | exact There.h | exact There.i (by assumption) | apply There.t | apply There.s)); first | exact There.i h | exact There.i (hJ2.2 _ _ h))) (fun _ _ h => h.elim) ?_
      refine WD.val (i := 15) rfl rfl rfl rfl (by kernel_rfl) rfl (Yld.move rfl rfl) ?_
      refine WD.val (i := 16) rfl rfl rfl rfl (by kernel_rfl) rfl (Yld.extract rfl rfl rfl) ?_
      refine WD.val (i := 17) rfl rfl rfl rfl (by kernel_rfl) rfl (Yld.extract rfl rfl rfl) ?_
      refine WD.loud (i := 18) (by kernel_rfl) rfl rfl rfl ?_
      refine Op.alloc rfl rfl rfl ty_zr_29 (fun b13 => ?_)
      refine WD.go (.inr (by rintro _ _ (⟨rfl, rfl⟩ | h); exact (by repeat (first | exact There.h | exact There.i (by assumption) | apply There.t | apply There.s)); first | exact There.i h | exact There.i (hJ2.2 _ _ h))) (fun _ _ h => h.elim) ?_
      refine WD.loud (i := 19) (by kernel_rfl) rfl rfl rfl ?_
      refine Op.sA rfl rfl ty_sz_29 rfl rfl rfl rfl rfl ?_
      refine WD.go (.inl rfl) (fun _ _ h => h.elim) ?_
      refine WD.val (i := 20) rfl rfl rfl rfl (by kernel_rfl) rfl (Yld.assign rfl rfl) ?_
      refine WD.done (by kernel_rfl) ?_
      refine WP.sub [(0, _), (1, _), (6, _), (9, _), (10, _), (11, _), (12, _), (13, _), (14, _), (35, _), (41, _)] ?_ ⟨rfl, rfl, rfl, rfl, rfl, rfl, rfl, rfl, rfl, rfl, rfl, trivial⟩
      exact WP.mt (⟨e, hn, hp, x2, J2, La, b13⟩ : APX) ⟨hJ2, hap, hl⟩ ⟨rfl, rfl, rfl, rfl, rfl, rfl, rfl, rfl, trivial⟩ rfl
     ·refine WP.oper rfl rfl ?_
      refine Op.alloc rfl rfl rfl ty_zr_29 (fun b13 => ?_)
      refine WD.go (.inr (by rintro _ _ (⟨rfl, rfl⟩ | h); exact (by repeat (first | exact There.h | exact There.i (by assumption) | apply There.t | apply There.s)); first | exact There.i h | exact There.i (hJ2.2 _ _ h))) (fun _ _ h => h.elim) ?_
      refine WD.loud (i := 14) (by kernel_rfl) rfl rfl rfl ?_
      refine Op.cl (log_AppendX (hn := xx.no) (hp := xx.pl) hl hel) rfl Try.func10 rfl rfl rfl rfl ?_
      rintro v J2 La hJ2 ⟨e, hn, hp, x2, rfl, _, hap, hl⟩
      try simp only [nf]
      refine WD.go (.inr (by rintro _ _ (⟨rfl, rfl⟩ | h); exact (by repeat (first | exact There.h | exact There.i (by assumption) | apply There.t | apply There.s)); first | exact There.i h | exact There.i (hJ2.2 _ _ h))) (fun _ _ h => h.elim) ?_
      refine WD.val (i := 15) rfl rfl rfl rfl (by kernel_rfl) rfl (Yld.move rfl rfl) ?_
      refine WD.val (i := 16) rfl rfl rfl rfl (by kernel_rfl) rfl (Yld.extract rfl rfl rfl) ?_
      refine WD.val (i := 17) rfl rfl rfl rfl (by kernel_rfl) rfl (Yld.extract rfl rfl rfl) ?_
      refine WD.loud (i := 19) (by kernel_rfl) rfl rfl rfl ?_
      refine Op.sA rfl rfl ty_sz_29 rfl rfl rfl rfl rfl ?_
      refine WD.go (.inl rfl) (fun _ _ h => h.elim) ?_
      refine WD.val (i := 20) rfl rfl rfl rfl (by kernel_rfl) rfl (Yld.assign rfl rfl) ?_
      refine WD.done (by kernel_rfl) ?_
      refine WP.sub [(0, _), (1, _), (6, _), (9, _), (10, _), (11, _), (12, _), (13, _), (14, _), (35, _), (41, _)] ?_ ⟨rfl, rfl, rfl, rfl, rfl, rfl, rfl, rfl, rfl, rfl, rfl, trivial⟩
      exact WP.mt (⟨e, hn, hp, x2, J2, La, b13⟩ : APX) ⟨hJ2, hap, hl⟩ ⟨rfl, rfl, rfl, rfl, rfl, rfl, rfl, rfl, trivial⟩ rfl
    ·refine WP.oper rfl rfl ?_
     refine Op.alloc rfl rfl rfl ty_zr_29 (fun b13 => ?_)
     refine WD.go (.inr (by rintro _ _ (⟨rfl, rfl⟩ | h); exact (by repeat (first | exact There.h | exact There.i (by assumption) | apply There.t | apply There.s)); first | exact There.i h | exact There.i (hJ2.2 _ _ h))) (fun _ _ h => h.elim) ?_
     refine WD.loud (i := 8) (by kernel_rfl) rfl rfl rfl ?_
     refine Op.cl (log_Head hl) rfl Try.func11 rfl rfl rfl rfl ?_
     rintro v J L1 - ⟨rfl, rfl, rfl⟩
     try simp only [nf]
     refine WD.go (.inr (by rintro _ _ (⟨rfl, rfl⟩ | h); exact (by repeat (first | exact There.h | exact There.i (by assumption) | apply There.t | apply There.s)); first | exact There.i h | exact There.i (hJ2.2 _ _ h))) (fun _ _ h => h.elim) ?_
     refine WD.loud (i := 14) (by kernel_rfl) rfl rfl rfl ?_
     refine Op.cl (log_AppendX (hn := xx.no) (hp := xx.pl) hl hel) rfl Try.func10 rfl rfl rfl rfl ?_
     rintro v J2 La hJ2 ⟨e, hn, hp, x2, rfl, _, hap, hl⟩
     try simp only [nf]
     refine WD.go (.inr (by rintro _ _ (⟨rfl, rfl⟩ | h); exact (by repeat (first | exact There.h | exact There.i (by assumption) | apply There.t | apply There.s)); first | exact There.i h | exact There.i (hJ2.2 _ _ h))) (fun _ _ h => h.elim) ?_
     refine WD.val (i := 15) rfl rfl rfl rfl (by kernel_rfl) rfl (Yld.move rfl rfl) ?_
     refine WD.val (i := 16) rfl rfl rfl rfl (by kernel_rfl) rfl (Yld.extract rfl rfl rfl) ?_
     refine WD.val (i := 17) rfl rfl rfl rfl (by kernel_rfl) rfl (Yld.extract rfl rfl rfl) ?_
     refine WD.loud (i := 19) (by kernel_rfl) rfl rfl rfl ?_
     refine Op.sA rfl rfl ty_sz_29 rfl rfl rfl rfl rfl ?_
     refine WD.go (.inl rfl) (fun _ _ h => h.elim) ?_
     refine WD.val (i := 20) rfl rfl rfl rfl (by kernel_rfl) rfl (Yld.assign rfl rfl) ?_
     refine WD.done (by kernel_rfl) ?_
     refine WP.sub [(0, _), (1, _), (6, _), (9, _), (10, _), (11, _), (12, _), (13, _), (14, _), (35, _), (41, _)] ?_ ⟨rfl, rfl, rfl, rfl, rfl, rfl, rfl, rfl, rfl, rfl, rfl, trivial⟩
     exact WP.mt (⟨e, hn, hp, x2, J2, La, b13⟩ : APX) ⟨hJ2, hap, hl⟩ ⟨rfl, rfl, rfl, rfl, rfl, rfl, rfl, rfl, trivial⟩ rfl
   ·rintro ⟨e, hn, hp, x2, J2, La, b13⟩ ⟨hJ2, hap, hl2⟩; dsimp only at hJ2 hap hl2; have hls := hls.mono hJ2; have hbl := hJ2.2 _ _ hbl
    refine WP.seq ?_
    refine WP.seq ?_
    refine WP.region [0, 1] rfl ?_
    refine WP.mv rfl rfl ?_
    refine WP.split rfl rfl rfl rfl (Yld.neq rfl rfl rfl) (fun he => ?_) (fun he => ?_)
    ·obtain ⟨_, hxe, rfl, rfl⟩ := hap.resolve_right (fun h => he h.1)
     rw [hxe] at hl2
     refine WP.nil ?_
     refine WP.sub [(0, _), (1, _), (6, _), (9, _), (10, _), (11, _), (13, _), (14, _), (65, _)] ?_ ⟨rfl, rfl, rfl, rfl, rfl, rfl, rfl, rfl, rfl, trivial⟩
     refine WP.next ?_
     refine WP.condT rfl ?_
     refine WP.seq ?_
     refine WP.seq ?_
     refine WP.region [0, 1, 2, 3, 4, 5, 6, 7, 8, 9, 10, 11, 12, 13] rfl ?_
     refine WP.mv rfl rfl ?_
     refine WP.vl rfl (Yld.nilCheck rfl rfl) ?_
     refine WP.vl rfl (Yld.fieldAddr rfl ty_fd_43_2 rfl) ?_
     refine WP.vl rfl (Yld.ld (v := .pointer (some ⟨l, 0, none⟩)) rfl ty_sc_34 rfl rfl) ?_
     refine WP.loud rfl rfl ?_
     refine Op.cl (log_Head hl2) rfl Try.func11 rfl rfl rfl rfl ?_
     rintro v J L1 - ⟨rfl, rfl, rfl⟩
     try simp only [nf]
     iterate 2 refine WP.mv rfl rfl ?_
     refine WP.vl rfl (Yld.buildS (pl := [(0, 0, 1), (1, 1, 1)]) rfl ty_zr_29 ty_zd_29 (by kernel_rfl) rfl (vs := [_, _]) rfl (segs := [(0, [_]), (1, [_])]) rfl rfl (by repeat (first | exact SetSeg.nil | apply SetSeg.one | exact SetAt.zero | apply SetAt.succ))) ?_
     refine WP.vl rfl (Yld.neqInts (m := 2) (us := [(xx.no : Int), (xx.pl : Int)]) (vs := [(xx.no : Int), (xx.pl : Int)]) rfl (by kernel_rfl) rfl rfl rfl rfl false (by simp)) ?_
     refine WP.mv rfl rfl ?_
     refine WP.valG rfl rfl rfl rfl rfl rfl rfl (Yld.ldg (vs := [.int .i64 ((0 : Nat) : Int), .int .i64 ((0 : Nat) : Int)]) rfl ty_ag_29 rfl rfl rfl) ?_
     refine WP.valG rfl rfl rfl rfl rfl rfl rfl (Yld.buildS (pl := []) rfl ty_zr_29 ty_zd_29 (by kernel_rfl) rfl (vs := []) rfl (segs := []) rfl rfl (by repeat (first | exact SetSeg.nil | apply SetSeg.one | exact SetAt.zero | apply SetAt.succ))) ?_
     refine WP.valG rfl rfl rfl rfl rfl rfl rfl (Yld.neqInts (m := 2) (us := [0, 0]) (vs := [0, 0]) rfl (by kernel_rfl) rfl rfl rfl rfl false (by simp)) ?_
     refine WP.vl rfl (Yld.pickF rfl rfl rfl) ?_
     refine WP.nil ?_
     refine WP.sub [(0, _), (1, _), (6, _), (9, _), (10, _), (11, _), (13, _), (14, _), (65, _), (79, _)] ?_ ⟨rfl, rfl, rfl, rfl, rfl, rfl, rfl, rfl, rfl, rfl, trivial⟩
     refine WP.next ?_
     refine WP.condF rfl ?_
     refine WP.skip ?_
     refine WP.next ?_
     refine WP.exit ?_
     refine WP.thenE ?_
     refine WP.hit ?_
     refine WP.next ?_
     refine WP.region [0, 1, 2] rfl ?_
     refine WP.mv rfl rfl ?_
     refine WP.vl rfl (Yld.add64 rfl rfl rfl (by omega)) ?_
     refine WP.mv rfl rfl ?_
     refine WP.nil ?_
     refine WP.sub [(0, _), (1, _), (6, _), (9, _), (10, _), (11, _), (13, _), (14, _), (65, _), (79, _)] ?_ ⟨rfl, rfl, rfl, rfl, rfl, rfl, rfl, rfl, rfl, rfl, trivial⟩
     exact WP.ag ⟨i + 1, xx, J2, La⟩ ⟨(show i + 1 ≤ ls.length by omega), Imm.le_trans hJ hJ2, hl2, hb0, hm0, hw0, hgg⟩ (show ls.length - (i + 1) < ls.length - i by omega) ⟨rfl, rfl, rfl, rfl, rfl, rfl, trivial⟩ rfl
    ·obtain ⟨_, r, hrb, rfl, rfl, rfl⟩ := hap.resolve_left (fun h => he h.1)
     have hlo : (xx.push r).lo = 0 := lo_zero hm0
     have hok := hl2.ok
     have hpl := xx.pl_push r
     have hpb : (xx.push r).pl ≤ 328 := by have h := hok.pb; rw [show (xx.push r).g = ⟨40, 1, 1⟩ from hgg] at h; exact h
     have hno := xx.no_push r
     have hnb := hok.nb
     refine WP.nil ?_
     refine WP.sub [(0, _), (1, _), (6, _), (9, _), (10, _), (11, _), (13, _), (14, _), (65, _)] ?_ ⟨rfl, rfl, rfl, rfl, rfl, rfl, rfl, rfl, rfl, trivial⟩
     refine WP.next ?_
     refine WP.condF rfl ?_
     refine WP.skip ?_
     refine WP.next ?_
     refine WP.seq ?_
     refine WP.region [0, 1, 2, 3, 4, 5, 6, 7, 8, 9, 10, 11, 12, 13, 14, 15] rfl ?_
     refine WP.mv rfl rfl ?_
     refine WP.vl rfl (Yld.nilCheck rfl rfl) ?_
     refine WP.vl rfl (Yld.fieldAddr rfl ty_fd_43_2 rfl) ?_
     refine WP.vl rfl (Yld.ld (v := .pointer (some ⟨l, 0, none⟩)) rfl ty_sc_34 rfl rfl) ?_
     refine WP.mv rfl rfl ?_
     refine WP.vl rfl (Yld.add64 rfl rfl rfl (by omega)) ?_
     rw [show (xx.no : Int) + 1 = ((xx.no + 1 : Nat) : Int) from rfl]
     refine WP.loud rfl rfl ?_
     refine Op.cl (log_Record_last hl2 (by omega)) rfl Try.func18 rfl rfl rfl rfl ?_
     rintro v J L17 - ⟨rfl, vb, Lc, rfl, hvb, rfl⟩
     try simp only [nf]
     refine WP.mv rfl rfl ?_
     refine WP.vl rfl (Yld.extract rfl rfl rfl) ?_
     refine WP.vl rfl (Yld.extract rfl rfl rfl) ?_
     refine WP.vl rfl (Yld.extract rfl rfl rfl) ?_
     refine WP.vl rfl (Yld.extract rfl rfl rfl) ?_
     iterate 4 refine WP.mv rfl rfl ?_
     refine WP.nil ?_
     refine WP.sub [(0, _), (1, _), (6, _), (9, _), (10, _), (11, _), (13, _), (14, _), (16, _), (17, _), (18, _), (65, _)] ?_ ⟨rfl, rfl, rfl, rfl, rfl, rfl, rfl, rfl, rfl, rfl, rfl, rfl, trivial⟩
     refine WP.next ?_
     refine WP.seq ?_
     refine WP.seq ?_
     refine WQ.startAll Trymixed (by kernel_rfl) _ rfl ?_
     refine WQ.val rfl rfl rfl (Yld.move rfl rfl) ?_
     refine WQ.val rfl rfl rfl (Yld.not rfl rfl) ?_
     refine WQ.val rfl rfl rfl (Yld.move rfl rfl) ?_
     refine WQ.valG rfl rfl rfl rfl rfl rfl (Yld.move rfl rfl) ?_
     refine WQ.valG rfl rfl rfl rfl rfl rfl (Yld.move rfl rfl) ?_
     refine WQ.valG rfl rfl rfl rfl rfl rfl (Yld.neq rfl rfl rfl false (decide_eq_false (by simp))) ?_
     refine WQ.val rfl rfl rfl (Yld.pickF rfl rfl rfl) ?_
     refine WQ.val rfl rfl rfl (Yld.move rfl rfl) ?_
     refine WQ.valG rfl rfl rfl rfl rfl rfl (Yld.move rfl rfl) ?_
     refine WQ.valG rfl rfl rfl rfl rfl rfl (Yld.str (e := 5) rfl (by kernel_rfl) (by kernel_rfl) (by kernel_rfl) rfl (hvb.rd (by intro p hp; simp [hp]))) ?_
     refine WQ.valG rfl rfl rfl rfl rfl rfl (Yld.move rfl rfl) ?_
     refine WQ.valG rfl rfl rfl rfl rfl rfl (Yld.move rfl rfl) ?_
     refine WQ.valG rfl rfl rfl rfl rfl rfl (Yld.indexAddr (i := i) rfl ty_sl_22 rfl rfl hi) ?_
     refine WQ.valG rfl rfl rfl rfl rfl rfl (Yld.loadC rfl ty_sc_46 rfl (There.i hbl) hcl) ?_
     refine WQ.valG rfl rfl rfl rfl rfl rfl (Yld.str (e := 5) rfl (by kernel_rfl) (by kernel_rfl) (by kernel_rfl) rfl ((hls.el _ (List.getElem_mem hi)).mono (fun b o h => .inr h))) ?_
     refine WQ.valG rfl rfl rfl rfl rfl rfl (Yld.neqStr rfl rfl rfl false (by rw [hrb]; simp)) ?_
     refine WQ.val rfl rfl rfl (Yld.pickF rfl rfl rfl) ?_
     refine WQ.nil ?_
     refine WP.sub [(0, _), (1, _), (6, _), (9, _), (10, _), (11, _), (13, _), (14, _), (16, _), (17, _), (18, _), (65, _), (108, _)] ?_ ⟨rfl, rfl, rfl, rfl, rfl, rfl, rfl, rfl, rfl, rfl, rfl, rfl, rfl, trivial⟩
     refine WP.next ?_
     refine WP.condF rfl ?_
     refine WP.skip ?_
     refine WP.next ?_
     refine WP.seq ?_
     refine WP.region [0, 1, 2] rfl ?_
     refine WP.mv rfl rfl ?_
     refine WP.vl rfl (Yld.add64 rfl rfl rfl (by omega)) ?_
     rw [show (xx.no : Int) + 1 = (((xx.push r).no : Nat) : Int) by rw [hno]; rfl]
     refine WP.mv rfl rfl ?_
     refine WP.nil ?_
     refine WP.sub [(0, _), (1, _), (6, _), (9, _), (10, _), (11, _), (13, _), (14, _), (16, _), (17, _), (18, _), (65, _), (108, _)] ?_ ⟨rfl, rfl, rfl, rfl, rfl, rfl, rfl, rfl, rfl, rfl, rfl, rfl, rfl, trivial⟩
     refine WP.next ?_
     refine WP.seq ?_
     obtain ⟨Ae, ce, hve, _, _, _⟩ := id (hls.el _ (List.getElem_mem hi))
     have hcl2 := hcl
     rw [hve] at hcl2
     have h126 : ls[i].2.length ≤ 12671 := by obtain ⟨hk, er⟩ := push_last xx r; have hR := hl2.recs _ hk; rw [er] at hR; have := hR.ok.len; simp only [kbody, List.length_cons, hrb] at this; omega
     have hrn : r.n = (ls[i].2.length + 198) / 198 := by unfold Rc.n kmany; rw [hrb]
     refine WP.region [0, 1, 2, 3, 4, 5, 6, 7, 8, 9, 10] rfl ?_
     iterate 3 refine WP.mv rfl rfl ?_
     refine WP.vl rfl (Yld.indexAddr (i := i) rfl ty_sl_22 rfl rfl hi) ?_
     refine WP.vl rfl (Yld.loadC rfl ty_sc_46 rfl (There.i hbl) hcl2) ?_
     refine WP.vl rfl (Yld.len rfl ty_sl_46 rfl) ?_
     refine WP.vl rfl (Yld.add64 rfl rfl rfl (by omega)) ?_
     refine WP.vl rfl (Yld.add64 rfl rfl rfl (by omega)) ?_
     refine WP.vl rfl (Yld.quo64 rfl rfl rfl (by omega)) ?_
     refine WP.vl rfl (Yld.add64 rfl rfl rfl (by omega)) ?_
     rw [show (xx.pl : Int) + ((ls[i].2.length : Int) + 1 + 197) / 198 = (((xx.push r).pl : Nat) : Int) by omega]
     refine WP.mv rfl rfl ?_
     refine WP.nil ?_
     refine WP.sub [(0, _), (1, _), (6, _), (9, _), (10, _), (11, _), (13, _), (14, _), (16, _), (17, _), (18, _), (65, _), (108, _)] ?_ ⟨rfl, rfl, rfl, rfl, rfl, rfl, rfl, rfl, rfl, rfl, rfl, rfl, rfl, trivial⟩
     refine WP.next ?_
     refine WP.seq ?_
     refine WP.region [0, 1, 2, 3, 4, 5, 6, 7, 8] rfl ?_
     refine WP.vl rfl (Yld.ldg (vs := [.int .i64 ((xx.push r).no : Int), .int .i64 ((xx.push r).pl : Int)]) rfl ty_ag_29 rfl rfl rfl) ?_
     iterate 2 refine WP.mv rfl rfl ?_
     refine WP.vl rfl (Yld.buildS (pl := [(0, 0, 1), (1, 1, 1)]) rfl ty_zr_29 ty_zd_29 (by kernel_rfl) rfl (vs := [_, _]) rfl (segs := [(0, [_]), (1, [_])]) rfl rfl (by repeat (first | exact SetSeg.nil | apply SetSeg.one | exact SetAt.zero | apply SetAt.succ))) ?_
     refine WP.vl rfl (Yld.neqInts (m := 2) (us := [((xx.push r).no : Int), ((xx.push r).pl : Int)]) (vs := [((xx.push r).no : Int), ((xx.push r).pl : Int)]) rfl (by kernel_rfl) rfl rfl rfl rfl false (by simp)) ?_
     refine WP.mv rfl rfl ?_
     refine WP.valG rfl rfl rfl rfl rfl rfl rfl (Yld.move rfl rfl) ?_
     refine WP.valG rfl rfl rfl rfl rfl rfl rfl (Yld.gtr rfl rfl rfl false (decide_eq_false (by omega))) ?_
     refine WP.vl rfl (Yld.pickF rfl rfl rfl) ?_
     refine WP.nil ?_
     refine WP.sub [(0, _), (1, _), (6, _), (9, _), (10, _), (11, _), (13, _), (14, _), (16, _), (17, _), (18, _), (65, _), (108, _), (129, _)] ?_ ⟨rfl, rfl, rfl, rfl, rfl, rfl, rfl, rfl, rfl, rfl, rfl, rfl, rfl, rfl, trivial⟩
     refine WP.next ?_
     refine WP.condF rfl ?_
     refine WP.skip ?_
     refine WP.leave ?_
     refine WP.next ?_
     refine WP.region [0, 1, 2] rfl ?_
     refine WP.mv rfl rfl ?_
     refine WP.vl rfl (Yld.add64 rfl rfl rfl (by omega)) ?_
     refine WP.mv rfl rfl ?_
     refine WP.nil ?_
     refine WP.sub [(0, _), (1, _), (6, _), (9, _), (10, _), (11, _), (13, _), (14, _), (16, _), (17, _), (18, _), (65, _), (108, _), (129, _)] ?_ ⟨rfl, rfl, rfl, rfl, rfl, rfl, rfl, rfl, rfl, rfl, rfl, rfl, rfl, rfl, trivial⟩
     exact WP.ag ⟨i + 1, xx.push r, J2, La⟩ ⟨(show i + 1 ≤ ls.length by omega), Imm.le_trans hJ hJ2, hl2, hb0, hm0, hw0, hgg⟩ (show ls.length - (i + 1) < ls.length - i by omega) ⟨rfl, rfl, rfl, rfl, rfl, rfl, trivial⟩ rfl
 ·have hlo := lo_zero hm0
  refine WP.nil ?_
  refine WP.sub [(0, _), (1, _), (6, _), (9, _), (10, _), (11, _), (35, _)] ?_ ⟨rfl, rfl, rfl, rfl, rfl, rfl, rfl, trivial⟩
  refine WP.next ?_
  refine WP.condF rfl ?_
  refine WP.exit ?_
  refine WP.thenE ?_
  refine WP.thenE ?_
  refine WP.hit ?_
  refine WP.next ?_
  refine WP.seq ?_
  refine WP.region [0, 1, 2, 3, 4, 5, 6, 7] rfl ?_
  refine WP.mv rfl rfl ?_
  refine WP.vl rfl (Yld.nilCheck rfl rfl) ?_
  refine WP.vl rfl (Yld.fieldAddr rfl ty_fd_43_2 rfl) ?_
  refine WP.vl rfl (Yld.ld (v := .pointer (some ⟨l, 0, none⟩)) rfl ty_sc_34 rfl rfl) ?_
  refine WP.loud rfl rfl ?_
  refine Op.cl (log_Held hl) rfl Try.func19 rfl rfl rfl rfl ?_
  rintro v J L1 - ⟨rfl, rfl, rfl⟩
  try simp only [nf]
  refine WP.mv rfl rfl ?_
  refine WP.vl rfl (Yld.eql rfl rfl rfl true (decide_eq_true (by omega))) ?_
  refine WP.mv rfl rfl ?_
  refine WP.nil ?_
  refine WP.sub [(0, _), (1, _), (4, _), (6, _), (9, _), (10, _), (11, _), (35, _)] ?_ ⟨rfl, rfl, rfl, rfl, rfl, rfl, rfl, rfl, trivial⟩
  refine WP.next ?_
  refine WP.ret ?_
  refine WP.fn .ret (.inr rfl) (res1 rfl rfl) [] (Imm.le_trans hJa hJ) ?_
  exact ⟨rfl, rfl⟩


end Go.Hp
