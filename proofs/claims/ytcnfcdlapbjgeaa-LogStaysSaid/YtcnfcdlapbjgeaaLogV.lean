import Derived.Test.YtcnfcdlapbjgeaaLogT
set_option linter.unusedVariables false
set_option linter.unusedSimpArgs false
namespace Go.Hp
open Go Go.Proofs

/-- The first m records, up to a place that stays. -/
structure KpI (m : Nat) (f : Nat → List UInt8) (pls : List Nat) (hp P : Nat) (x : Lg) : Prop where
 pi : PlI x m f
 b0 : x.base = 0
 pp : (List.range m).map x.endP = pls
 pe : x.endP m = hp
 le : hp ≤ P
theorem KpI.push {m : Nat} {f : Nat → List UInt8} {pls : List Nat} {hp P : Nat} {x : Lg} (h : KpI m f pls hp P x) (r : Rc) : KpI m f pls hp P (x.push r) :=
 ⟨h.pi.old r, h.b0, by rw [places_push x r h.pi.n]; exact h.pp, by rw [x.endP_push r h.pi.n]; exact h.pe, h.le⟩
theorem KpI.ap {m : Nat} {f : Nat → List UInt8} {pls : List Nat} {hp P : Nat} {x x' : Lg} (h : KpI m f pls hp P x) {b : List UInt8} {e : Int} {hn hq : Nat} (ha : ApOk x b e hn hq x') : KpI m f pls hp P x' := by
 rcases ha with ⟨_, rfl, _⟩ | ⟨_, r, _, rfl, _⟩
 ·exact h
 ·exact h.push r
theorem KpI.nx {m : Nat} {f : Nat → List UInt8} {pls : List Nat} {hp P P' : Nat} {x x' : Lg} (h : KpI m f pls hp P x) (nx : Nx x x') (hP : P ≤ P') : KpI m f pls hp P' x' :=
 ⟨h.pi.nx nx.rs, nx.base.trans h.b0, by rw [← h.pp]; exact List.map_congr_left fun k _ => nx.endP k, (nx.endP m).trans h.pe, Nat.le_trans h.le hP⟩
structure SSX where
 i : Nat
 x : Lg
 J : Imm
 L : Chunks
 vp : Value
 Lp : Chunks
 vq : Value
 Lq : Chunks
 kv : List (Value × List UInt8)
structure SSX.ok (Ja : Imm) (l s d : Nat) (t : SSX) : Prop where
 hI : EraI 8 t.x (Dk.new 552) fl0
 hJ : Ja.le t.J
 hl : IsLog t.J l s d 552 t.x (Dk.new 552) t.L
 ln : t.x.rs.length = t.kv.length
 pi : PlI t.x t.kv.length (kf t.kv)
 b0 : t.x.base = 0
 op : Own 3 1 t.vp (natV ((List.range t.kv.length).map t.x.endP)) t.kv.length t.Lp
 oq : Own 46 1 t.vq (t.kv.map (·.1)) t.kv.length t.Lq
 el : ∀ e ∈ t.kv, SlRd (Im t.J) e.1 e.2.length 1 (bytesV e.2)
theorem vals_app {l : List (Value × List UInt8)} {k : Nat} (h : k < l.length) (sp : List Value) : (l.map (·.1) ++ sp)[0 + k * 1]? = some l[k].1 := by rw [Nat.zero_add, Nat.mul_one, List.getElem?_append_left (by rw [List.length_map]; exact h)]; simp [h]
set_option maxHeartbeats 2000000 in
theorem log_LogStays {I : Imm} {ls ms : List (Value × List UInt8)} {vl vm vk : Value} {steps : Int} {ks : List Int} (hls : RBs I vl ls) (hms : RBs I vm ms) (hks : SlRd (Im I) vk ks.length 1 (ks.map (Value.int .i64))) (hln : ls.length ≤ 140737488351232) (hlm : ms.length ≤ 140737488351232) : Spec Try.prog 6 [vl, vm, .int .i64 steps, vk] I [] (fun v J L => v = .bool true ∧ L = []) := by
 obtain ⟨Al, cl, rfl, _, _, _⟩ := id hls.rd
 obtain ⟨Am, cm, rfl, _, _, _⟩ := id hms.rd
 refine Spec.of Try.func6 rfl Try.ntmps6 (Nat.le_of_ble_eq_true rfl) (fun F => ?_)
 try simp only [nf]
 dsimp only [argsEnv]
 refine WP.seq ?_
 refine WP.region [0] rfl ?_
 refine WP.mv rfl rfl ?_
 refine WP.nil ?_
 refine WP.next ?_
 refine WP.seq ?_
 refine WP.region [0, 1] rfl ?_
 refine WP.loud rfl rfl ?_
 refine Op.cl log_awake rfl Try.func8 rfl rfl rfl rfl ?_
 rintro v Ja L1 hJa ⟨rfl, rfl⟩
 try simp only [nf]
 have hls := hls.mono hJa
 have hms := hms.mono hJa
 have hks := hks.mono (fun b o h => hJa.2 b o h)
 refine WP.mv rfl rfl ?_
 refine WP.nil ?_
 refine WP.sub [(0, _), (1, _), (2, _), (3, _), (8, _), (9, _)] ?_ ⟨rfl, rfl, rfl, rfl, rfl, rfl, trivial⟩
 refine WP.next ?_
 refine WP.seq ?_
 refine WP.region [0, 1, 2, 3, 4, 5, 6, 7, 8] rfl ?_
 refine WP.vl rfl (Yld.buildS (pl := [(1, 1, 1)]) rfl ty_zr_29 ty_zd_29 (by kernel_rfl) rfl (vs := [_]) rfl (segs := [(1, [_])]) rfl rfl (by repeat (first | exact SetSeg.nil | apply SetSeg.one | exact SetAt.zero | apply SetAt.succ))) ?_
 refine WP.loud rfl rfl ?_
 refine Op.cl (log_begun (n := 552) (f := 1) (hn := 0) (hp := 8) (era := 1) (by decide) (by decide) (by decide) (by decide) (by decide) (by decide) (by decide)) rfl Try.func9 rfl rfl rfl rfl ?_
 rintro v J L1 - ⟨rfl, x, d, s, l, q, rt, rm, Ll, rfl, rfl, hl⟩
 try simp only [nf]
 have hl : IsLog _ l s d 552 (⟨1, ⟨17, 1, 1⟩, 0, 8, [], 0, 0, 8⟩ : Lg) (Dk.new 552) Ll := hl
 refine WP.mv rfl rfl ?_
 refine WP.vl rfl (Yld.extract rfl rfl rfl) ?_
 refine WP.vl rfl (Yld.extract rfl rfl rfl) ?_
 refine WP.vl rfl (Yld.extract rfl rfl rfl) ?_
 iterate 3 refine WP.mv rfl rfl ?_
 refine WP.nil ?_
 refine WP.sub [(0, _), (1, _), (2, _), (3, _), (8, _), (9, _), (10, _), (11, _)] ?_ ⟨rfl, rfl, rfl, rfl, rfl, rfl, rfl, rfl, trivial⟩
 refine WP.next ?_
 refine WP.seq ?_
 refine WP.seq ?_
 refine WP.region [0, 1, 2, 3, 4, 5] rfl ?_
 refine WP.mv rfl rfl ?_
 refine WP.vl rfl (Yld.not rfl rfl) ?_
 refine WP.mv rfl rfl ?_
 refine WP.valG rfl rfl rfl rfl rfl rfl rfl (Yld.move rfl rfl) ?_
 refine WP.valG rfl rfl rfl rfl rfl rfl rfl (Yld.not rfl rfl) ?_
 refine WP.vl rfl (Yld.pickF rfl rfl rfl) ?_
 refine WP.nil ?_
 refine WP.sub [(0, _), (1, _), (2, _), (3, _), (8, _), (9, _), (10, _), (11, _), (48, _)] ?_ ⟨rfl, rfl, rfl, rfl, rfl, rfl, rfl, rfl, rfl, trivial⟩
 refine WP.next ?_
 refine WP.condF rfl ?_
 refine WP.skip ?_
 refine WP.next ?_
 refine WP.seq ?_
 refine WP.region [0] rfl ?_
 refine WP.mv rfl rfl ?_
 refine WP.nil ?_
 refine WP.next ?_
 refine WP.seq ?_
 refine WP.region [0] rfl ?_
 refine WP.mv rfl rfl ?_
 refine WP.nil ?_
 refine WP.next ?_
 refine WP.seq ?_
 refine WP.region [0, 1, 2, 3, 4, 5, 6] rfl ?_
 refine WP.mv rfl rfl ?_
 refine WP.vl rfl (Yld.nilCheck rfl rfl) ?_
 refine WP.vl rfl (Yld.fieldAddr rfl ty_fd_43_2 rfl) ?_
 refine WP.vl rfl (Yld.ld (v := .pointer (some ⟨l, 0, none⟩)) rfl ty_sc_34 rfl rfl) ?_
 refine WP.loud rfl rfl ?_
 refine Op.cl (log_Head hl) rfl Try.func11 rfl rfl rfl rfl ?_
 rintro v J L1 - ⟨rfl, rfl, rfl⟩
 try simp only [nf]
 refine WP.loud rfl rfl ?_
 refine Op.alloc rfl rfl rfl ty_zr_29 (fun b15 => ?_)
 refine WP.loud rfl rfl ?_
 refine Op.sA rfl rfl ty_sz_29 rfl rfl rfl rfl rfl ?_
 refine WP.nil ?_
 refine WP.sub [(0, _), (1, _), (2, _), (3, _), (8, _), (9, _), (10, _), (11, _), (13, _), (14, _), (15, _), (48, _)] ?_ ⟨rfl, rfl, rfl, rfl, rfl, rfl, rfl, rfl, rfl, rfl, rfl, rfl, trivial⟩
 refine WP.next ?_
 refine WP.seq ?_
 refine WP.seq ?_
 refine WP.region [0] rfl ?_
 refine WP.mv rfl rfl ?_
 refine WP.nil ?_
 refine WP.next ?_
 refine WP.block ?_
 refine WP.loop (X := SSX) (fun t : SSX => [(0, .slice Al ls.length cl), (1, .slice Am ms.length cm), (2, .int .i64 steps), (3, vk), (10, .pointer (some ⟨x, 0, none⟩)), (13, t.vp), (14, t.vq), (15, .pointer (some ⟨b15, 0, none⟩)), (16, .int .i64 (t.i : Int))]) (fun t => t.J) (fun t : SSX => (x, row 43 [.pointer (some ⟨d, 0, none⟩), .pointer (some ⟨s, 0, none⟩), .pointer (some ⟨l, 0, none⟩), .pointer (some ⟨q, 0, none⟩), .pointer (some ⟨rt, 0, none⟩), .pointer (some ⟨rm, 0, none⟩), .slice none 0 0, .slice none 0 0, .slice none 0 0, .slice none 0 0]) :: (b15, row 29 [.int .i64 (t.x.no : Int), .int .i64 (t.x.pl : Int)]) :: (t.Lp ++ (t.Lq ++ (t.L ++ F)))) (fun t : SSX => t.i ≤ ls.length ∧ t.ok Ja l s d) (fun t => ls.length - t.i) ⟨0, tw0, Ja, Ll, .slice none 0 0, [], .slice none 0 0, [], []⟩ ⟨Nat.zero_le _, EraI.first, Imm.le_refl _, hl, rfl, ⟨Nat.zero_le _, fun k hk => absurd hk (Nat.not_lt_zero _)⟩, rfl, .none0, .none0, fun e he => by cases he⟩ ⟨rfl, rfl, rfl, rfl, rfl, rfl, rfl, rfl, rfl, trivial⟩ rfl (by (try dsimp only); repeat (first | exact Rm.chunk | exact Rm.here | exact Rm.nil0 | apply Rm.skip | apply Rm.skipS | apply PX.cons | (apply PX.done; (repeat (first | exact Leave.done | apply Leave.drop | apply Leave.dropS)); done) | apply PX.app)) ?_
 rintro ⟨i, xx, J, Lx, vp, Lp, vq, Lq, kv⟩ ⟨hle, hI, hJ, hl, hln, hpi, hb0, hop, hoq, hkl⟩; dsimp only at hle hI hJ hl hln hpi hb0 hop hoq hkl; obtain ⟨Ap, cp, rfl, _⟩ := hop.slice; obtain ⟨Aq, cq, rfl, _⟩ := hoq.slice
 try dsimp only
 try simp only [nf]
 refine WP.seq ?_
 refine WP.seq ?_
 refine WP.region [0, 1, 2, 3] rfl ?_
 iterate 2 refine WP.mv rfl rfl ?_
 refine WP.vl rfl (Yld.len rfl ty_sl_22 rfl) ?_
 refine WP.split rfl rfl rfl rfl (Yld.lss rfl rfl rfl) (fun hlt => ?_) (fun hlt => ?_)
 ·have hi : i < ls.length := by omega
  have hlse := hls.mono hJ
  obtain ⟨bl, kl, Tl, fl, arl, ea, hbl, hcl⟩ := hlse.at_ hi
  have hel := hlse.el _ (List.getElem_mem hi)
  refine WP.nil ?_
  refine WP.sub [(0, _), (1, _), (2, _), (3, _), (10, _), (13, _), (14, _), (15, _), (16, _), (57, _)] ?_ ⟨rfl, rfl, rfl, rfl, rfl, rfl, rfl, rfl, rfl, rfl, trivial⟩
  refine WP.next ?_
  refine WP.condT rfl ?_
  refine WP.skip ?_
  refine WP.next ?_
  refine WP.cut (X := SSX) (fun t : SSX => [(0, .slice Al ls.length cl), (1, .slice Am ms.length cm), (2, .int .i64 steps), (3, vk), (10, .pointer (some ⟨x, 0, none⟩)), (13, t.vp), (14, t.vq), (15, .pointer (some ⟨b15, 0, none⟩)), (16, .int .i64 (i : Int))]) (fun t => t.J) (fun t : SSX => (x, row 43 [.pointer (some ⟨d, 0, none⟩), .pointer (some ⟨s, 0, none⟩), .pointer (some ⟨l, 0, none⟩), .pointer (some ⟨q, 0, none⟩), .pointer (some ⟨rt, 0, none⟩), .pointer (some ⟨rm, 0, none⟩), .slice none 0 0, .slice none 0 0, .slice none 0 0, .slice none 0 0]) :: (b15, row 29 [.int .i64 (t.x.no : Int), .int .i64 (t.x.pl : Int)]) :: (t.Lp ++ (t.Lq ++ (t.L ++ F)))) (fun t : SSX => t.i ≤ ls.length ∧ t.ok Ja l s d) ?_ ?_
  ·skip
   refine WP.block ?_
   refine WP.cut (X := APX) (fun t : APX => [(0, .slice Al ls.length cl), (1, .slice Am ms.length cm), (2, .int .i64 steps), (3, vk), (10, .pointer (some ⟨x, 0, none⟩)), (13, .slice Ap kv.length cp), (14, .slice Aq kv.length cq), (15, .pointer (some ⟨b15, 0, none⟩)), (16, .int .i64 (i : Int)), (17, .pointer (some ⟨t.b, 0, none⟩)), (18, .int .i64 t.e)]) (fun t => t.J) (fun t : APX => (x, row 43 [.pointer (some ⟨d, 0, none⟩), .pointer (some ⟨s, 0, none⟩), .pointer (some ⟨l, 0, none⟩), .pointer (some ⟨q, 0, none⟩), .pointer (some ⟨rt, 0, none⟩), .pointer (some ⟨rm, 0, none⟩), .slice none 0 0, .slice none 0 0, .slice none 0 0, .slice none 0 0]) :: (b15, row 29 [.int .i64 (xx.no : Int), .int .i64 (xx.pl : Int)]) :: (t.b, row 29 [.int .i64 (t.hn : Int), .int .i64 (t.hp : Int)]) :: (Lp ++ (Lq ++ (t.L ++ F)))) (fun t : APX => J.le t.J ∧ ApOk xx ls[i].2 t.e t.hn t.hp t.x ∧ IsLog t.J l s d 552 t.x (Dk.new 552) t.L) ?_ ?_
   ·skip
    refine WD.start Trymixed 17 (fun c o => (c = x ∧ o = row 43 [.pointer (some ⟨d, 0, none⟩), .pointer (some ⟨s, 0, none⟩), .pointer (some ⟨l, 0, none⟩), .pointer (some ⟨q, 0, none⟩), .pointer (some ⟨rt, 0, none⟩), .pointer (some ⟨rm, 0, none⟩), .slice none 0 0, .slice none 0 0, .slice none 0 0, .slice none 0 0]) ∨ ((c = b15 ∧ o = row 29 [.int .i64 (xx.no : Int), .int .i64 (xx.pl : Int)]) ∨ J.blk c = some o)) (fun _ _ => False) (by rintro _ _ (⟨rfl, rfl⟩ | (⟨rfl, rfl⟩ | h)); exact (by repeat (first | exact There.h | exact There.i (by assumption) | apply There.t | apply There.s)); exact (by repeat (first | exact There.h | exact There.i (by assumption) | apply There.t | apply There.s)); exact There.i h) (fun _ _ h => h.elim) 19 [false, false, false, false, false, false, false, false, false, false, false, false, false, false, false, false, false, false, false] rfl rfl ?_
    refine WD.val (i := 0) rfl rfl rfl rfl (by kernel_rfl) rfl (Yld.move rfl rfl) ?_
    refine WD.val (i := 1) rfl rfl rfl rfl (by kernel_rfl) rfl (Yld.nilCheck rfl rfl) ?_
    refine WD.val (i := 2) rfl rfl rfl rfl (by kernel_rfl) rfl (Yld.fieldAddr rfl ty_fd_43_2 rfl) ?_
    refine WD.val1 (i := 3) rfl rfl rfl rfl (by kernel_rfl) rfl (by kernel_rfl) (Yld.load (v := .pointer (some ⟨l, 0, none⟩)) rfl ty_sc_34 rfl (.inl (.inl ⟨rfl, rfl⟩)) rfl) ?_
    refine WD.val1 (i := 4) rfl rfl rfl rfl (by kernel_rfl) rfl (by kernel_rfl) (Yld.loadAgg (vs := [.int .i64 (xx.no : Int), .int .i64 (xx.pl : Int)]) rfl ty_ag_29 rfl (.inl (.inr (.inl ⟨rfl, rfl⟩))) rfl rfl) ?_
    refine WD.val (i := 5) rfl rfl rfl rfl (by kernel_rfl) rfl (Yld.move rfl rfl) ?_
    refine WD.val (i := 6) rfl rfl rfl rfl (by kernel_rfl) rfl (Yld.rem64 rfl rfl rfl (by omega)) ?_
    refine WD.val (i := 7) rfl rfl rfl rfl (by kernel_rfl) rfl (Yld.add64 rfl rfl rfl (by omega)) ?_
    refine WD.val (i := 8) rfl rfl rfl rfl (by kernel_rfl) rfl (Yld.move rfl rfl) ?_
    refine WD.val (i := 9) rfl rfl rfl rfl (by kernel_rfl) rfl (Yld.move rfl rfl) ?_
    refine WD.val (i := 10) rfl rfl rfl rfl (by kernel_rfl) rfl (Yld.indexAddr (i := i) rfl ty_sl_22 (congrArg (fun a => some (Value.slice a ls.length cl)) ea) rfl hi) ?_
    refine WD.val1 (i := 11) rfl rfl rfl rfl (by kernel_rfl) rfl (by kernel_rfl) (Yld.loadC rfl ty_sc_46 rfl (.inl (.inr (.inr hbl))) hcl) ?_
    refine WD.both (i := 12) (j := 16) (by kernel_rfl) rfl rfl ?_ ?_
    ·refine WP.oper rfl rfl ?_
     refine Op.cl (log_AppendX (hn := xx.no) (hp := xx.pl) hl hel) rfl Try.func10 rfl rfl rfl rfl ?_
     rintro v J2 La hJ2 ⟨e, hn, hp, x2, rfl, _, hap, hl⟩
     try simp only [nf]
     refine WD.go (.inr (by rintro _ _ (⟨rfl, rfl⟩ | (⟨rfl, rfl⟩ | h)); exact (by repeat (first | exact There.h | exact There.i (by assumption) | apply There.t | apply There.s)); exact (by repeat (first | exact There.h | exact There.i (by assumption) | apply There.t | apply There.s)); first | exact There.i h | exact There.i (hJ2.2 _ _ h))) (fun _ _ h => h.elim) ?_
     refine WD.val (i := 13) rfl rfl rfl rfl (by kernel_rfl) rfl (Yld.move rfl rfl) ?_
     refine WD.val (i := 14) rfl rfl rfl rfl (by kernel_rfl) rfl (Yld.extract rfl rfl rfl) ?_
     refine WD.val (i := 15) rfl rfl rfl rfl (by kernel_rfl) rfl (Yld.extract rfl rfl rfl) ?_
     refine WD.loud (i := 16) (by kernel_rfl) rfl rfl rfl ?_
     refine Op.alloc rfl rfl rfl ty_zr_29 (fun b17 => ?_)
     refine WD.go (.inr (by rintro _ _ (⟨rfl, rfl⟩ | (⟨rfl, rfl⟩ | h)); exact (by repeat (first | exact There.h | exact There.i (by assumption) | apply There.t | apply There.s)); exact (by repeat (first | exact There.h | exact There.i (by assumption) | apply There.t | apply There.s)); first | exact There.i h | exact There.i (hJ2.2 _ _ h))) (fun _ _ h => h.elim) ?_
     refine WD.loud (i := 17) (by kernel_rfl) rfl rfl rfl ?_
     refine Op.sA rfl rfl ty_sz_29 rfl rfl rfl rfl rfl ?_
     refine WD.go (.inl rfl) (fun _ _ h => h.elim) ?_
     refine WD.val (i := 18) rfl rfl rfl rfl (by kernel_rfl) rfl (Yld.assign rfl rfl) ?_
     refine WD.done (by kernel_rfl) ?_
     refine WP.sub [(0, _), (1, _), (2, _), (3, _), (10, _), (13, _), (14, _), (15, _), (16, _), (17, _), (18, _), (57, _)] ?_ ⟨rfl, rfl, rfl, rfl, rfl, rfl, rfl, rfl, rfl, rfl, rfl, rfl, trivial⟩
     exact WP.mt (⟨e, hn, hp, x2, J2, La, b17⟩ : APX) ⟨hJ2, hap, hl⟩ ⟨rfl, rfl, rfl, rfl, rfl, rfl, rfl, rfl, rfl, rfl, rfl, trivial⟩ rfl
    ·refine WP.oper rfl rfl ?_
     refine Op.alloc rfl rfl rfl ty_zr_29 (fun b17 => ?_)
     refine WD.go (.inr (by rintro _ _ (⟨rfl, rfl⟩ | (⟨rfl, rfl⟩ | h)); exact (by repeat (first | exact There.h | exact There.i (by assumption) | apply There.t | apply There.s)); exact (by repeat (first | exact There.h | exact There.i (by assumption) | apply There.t | apply There.s)); first | exact There.i h | exact There.i (hJ2.2 _ _ h))) (fun _ _ h => h.elim) ?_
     refine WD.loud (i := 12) (by kernel_rfl) rfl rfl rfl ?_
     refine Op.cl (log_AppendX (hn := xx.no) (hp := xx.pl) hl hel) rfl Try.func10 rfl rfl rfl rfl ?_
     rintro v J2 La hJ2 ⟨e, hn, hp, x2, rfl, _, hap, hl⟩
     try simp only [nf]
     refine WD.go (.inr (by rintro _ _ (⟨rfl, rfl⟩ | (⟨rfl, rfl⟩ | h)); exact (by repeat (first | exact There.h | exact There.i (by assumption) | apply There.t | apply There.s)); exact (by repeat (first | exact There.h | exact There.i (by assumption) | apply There.t | apply There.s)); first | exact There.i h | exact There.i (hJ2.2 _ _ h))) (fun _ _ h => h.elim) ?_
     refine WD.val (i := 13) rfl rfl rfl rfl (by kernel_rfl) rfl (Yld.move rfl rfl) ?_
     refine WD.val (i := 14) rfl rfl rfl rfl (by kernel_rfl) rfl (Yld.extract rfl rfl rfl) ?_
     refine WD.val (i := 15) rfl rfl rfl rfl (by kernel_rfl) rfl (Yld.extract rfl rfl rfl) ?_
     refine WD.loud (i := 17) (by kernel_rfl) rfl rfl rfl ?_
     refine Op.sA rfl rfl ty_sz_29 rfl rfl rfl rfl rfl ?_
     refine WD.go (.inl rfl) (fun _ _ h => h.elim) ?_
     refine WD.val (i := 18) rfl rfl rfl rfl (by kernel_rfl) rfl (Yld.assign rfl rfl) ?_
     refine WD.done (by kernel_rfl) ?_
     refine WP.sub [(0, _), (1, _), (2, _), (3, _), (10, _), (13, _), (14, _), (15, _), (16, _), (17, _), (18, _), (57, _)] ?_ ⟨rfl, rfl, rfl, rfl, rfl, rfl, rfl, rfl, rfl, rfl, rfl, rfl, trivial⟩
     exact WP.mt (⟨e, hn, hp, x2, J2, La, b17⟩ : APX) ⟨hJ2, hap, hl⟩ ⟨rfl, rfl, rfl, rfl, rfl, rfl, rfl, rfl, rfl, rfl, rfl, trivial⟩ rfl
   ·rintro ⟨e, hn, hp, x2, J2, La, b17⟩ ⟨hJ2, hap, hl2⟩; dsimp only at hJ2 hap hl2; have hbl2 := hJ2.2 _ _ hbl
    refine WP.seq ?_
    refine WP.region [0, 1] rfl ?_
    refine WP.mv rfl rfl ?_
    refine WP.split rfl rfl rfl rfl (Yld.eql rfl rfl rfl) (fun he => ?_) (fun he => ?_)
    ·obtain ⟨Ae, ce, hve, _, _, _⟩ := id hel
     have hcl2 := hcl
     rw [hve] at hcl2
     obtain ⟨_, r, hrb, rfl, rfl, rfl⟩ := hap.resolve_left (fun h => h.1 he)
     have hlb : xx.rs.length ≤ 1099511627776 := by have := hl.ok.nb; unfold Lg.no at this; omega
     refine WP.nil ?_
     refine WP.sub [(0, _), (1, _), (2, _), (3, _), (10, _), (13, _), (14, _), (15, _), (16, _), (17, _), (18, _), (77, _)] ?_ ⟨rfl, rfl, rfl, rfl, rfl, rfl, rfl, rfl, rfl, rfl, rfl, rfl, trivial⟩
     refine WP.next ?_
     refine WP.condT rfl ?_
     refine WP.seq ?_
     refine WP.region [0, 1, 2, 3, 4, 5] rfl ?_
     refine WP.mv rfl rfl ?_
     refine WP.vl rfl (Yld.fieldAddr rfl ty_fd_29_1 rfl) ?_
     refine WP.vl rfl (Yld.ld (v := .int .i64 (xx.pl : Int)) rfl ty_sc_3 rfl rfl) ?_
     refine WP.loud rfl rfl ?_
     refine Op.buildSlice rfl ty_sl_23 ty_el2_23 rfl rfl rfl rfl (vs := [_]) rfl (segs := [(0, [_])]) (cs := natV [xx.pl]) rfl rfl (by repeat (first | exact SetSeg.nil | apply SetSeg.one | exact SetAt.zero | apply SetAt.succ)) (fun bq => ?_)
     refine WP.loud rfl rfl ?_
     refine Op.append (m := 1) rfl ty_sl_23 ty_el_23 rfl rfl rfl rfl rfl hop (SlRd.lit (m := 1) (by repeat (first | exact There.h | exact There.i (by assumption) | apply There.t | apply There.s)) rfl (Nat.le_refl _)) (by repeat (first | exact Take.nil | with_reducible apply Take.cons | apply Take.app | exact Rm.chunk | exact Rm.here | exact Rm.nil0 | apply Rm.skip | apply Rm.skipS | (focus (apply Take.all; (repeat (first | exact Rm.chunk | exact Rm.here | exact Rm.nil0 | apply Rm.skip | apply Rm.skipS)); done)) | apply Take.cons)) rfl (by omega) (by omega) (fun vn Ln hn2 => ?_)
     try simp only [nf]
     refine WP.mv rfl rfl ?_
     refine WP.nil ?_
     refine WP.sub [(0, _), (1, _), (2, _), (3, _), (10, _), (13, _), (14, _), (15, _), (16, _), (17, _), (18, _), (77, _)] ?_ ⟨rfl, rfl, rfl, rfl, rfl, rfl, rfl, rfl, rfl, rfl, rfl, rfl, trivial⟩
     refine WP.next ?_
     refine WP.seq ?_
     refine WP.region [0, 1, 2, 3, 4, 5, 6, 7] rfl ?_
     iterate 3 refine WP.mv rfl rfl ?_
     refine WP.vl rfl (Yld.indexAddr (i := i) rfl ty_sl_22 (congrArg (fun a => some (Value.slice a ls.length cl)) ea) rfl hi) ?_
     refine WP.vl rfl (Yld.loadC rfl ty_sc_46 rfl (There.i hbl2) hcl2) ?_
     refine WP.loud rfl rfl ?_
     refine Op.buildSlice rfl ty_sl_22 ty_el2_22 rfl rfl rfl rfl (vs := [_]) rfl (segs := [(0, [_])]) (cs := [.slice Ae ls[i].2.length ce]) rfl rfl (by repeat (first | exact SetSeg.nil | apply SetSeg.one | exact SetAt.zero | apply SetAt.succ)) (fun br => ?_)
     refine WP.loud rfl rfl ?_
     refine Op.append (m := 1) rfl ty_sl_22 ty_el_22 rfl rfl rfl rfl rfl hoq (SlRd.lit (m := 1) (by repeat (first | exact There.h | exact There.i (by assumption) | apply There.t | apply There.s)) rfl (Nat.le_refl _)) (by repeat (first | exact Take.nil | with_reducible apply Take.cons | apply Take.app | exact Rm.chunk | exact Rm.here | exact Rm.nil0 | apply Rm.skip | apply Rm.skipS | (focus (apply Take.all; (repeat (first | exact Rm.chunk | exact Rm.here | exact Rm.nil0 | apply Rm.skip | apply Rm.skipS)); done)) | apply Take.cons)) rfl (by omega) (by omega) (fun vm2 Lm2 hn3 => ?_)
     try simp only [nf]
     have hnew : Own 3 1 vn (natV ((List.range (kv ++ [ls[i]]).length).map (xx.push r).endP)) (kv ++ [ls[i]]).length Ln := by rw [List.length_append]; show Own _ _ _ (natV ((List.range (kv.length + 1)).map _)) _ _; rw [natV_new xx r hln]; exact hn2
     have hnew2 : Own 46 1 vm2 ((kv ++ [ls[i]]).map (·.1)) (kv ++ [ls[i]]).length Lm2 := by rw [List.length_append, List.map_append]; show Own _ _ _ (_ ++ [ls[i].1]) _ _; rw [hve]; exact hn3
     refine WP.mv rfl rfl ?_
     refine WP.nil ?_
     refine WP.sub [(0, _), (1, _), (2, _), (3, _), (10, _), (13, _), (14, _), (15, _), (16, _), (17, _), (18, _), (77, _)] ?_ ⟨rfl, rfl, rfl, rfl, rfl, rfl, rfl, rfl, rfl, rfl, rfl, rfl, trivial⟩
     refine WP.next ?_
     refine WP.region [0, 1] rfl ?_
     refine WP.vl rfl (Yld.ldg (vs := [.int .i64 ((xx.push r).no : Int), .int .i64 ((xx.push r).pl : Int)]) rfl ty_ag_29 rfl rfl rfl) ?_
     refine WP.loud rfl rfl ?_
     refine Op.storeN rfl rfl ty_sz_29 rfl rfl rfl rfl (Nat.le_of_ble_eq_true rfl) (show [.int .i64 ((xx.push r).no : Int), .int .i64 ((xx.push r).pl : Int)] = _ from rfl) (by repeat (first | exact Upd.head | apply Upd.tail | apply Upd.tailS)) ?_
     refine WP.nil ?_
     refine WP.sub [(0, _), (1, _), (2, _), (3, _), (10, _), (13, _), (14, _), (15, _), (16, _), (17, _), (18, _), (77, _)] ?_ ⟨rfl, rfl, rfl, rfl, rfl, rfl, rfl, rfl, rfl, rfl, rfl, rfl, trivial⟩
     refine WP.leave ?_
     exact WP.mt (⟨i, xx.push r, J2, La, vn, Ln, vm2, Lm2, kv ++ [ls[i]]⟩ : SSX) ⟨hle, hI.push hl2.recs hl2.ok, Imm.le_trans hJ hJ2, hl2, (by show (xx.push r).rs.length = (kv ++ [ls[i]]).length; rw [push_len, List.length_append]; simp; omega), (by show PlI _ (kv ++ [ls[i]]).length _; rw [List.length_append]; exact hpi.new hln (hrb.trans (kf_last kv ls[i]).symm) (fun k hk => kf_app hk _)), hb0, hnew, hnew2, (fun a ha => by
    rcases List.mem_append.1 ha with ha | ha
    ·exact (hkl a ha).mono fun b o h => hJ2.2 b o h
    ·rw [List.mem_singleton.1 ha]; exact hel.mono fun b o h => hJ2.2 b o h)⟩ ⟨rfl, rfl, rfl, rfl, rfl, rfl, rfl, rfl, rfl, trivial⟩ rfl
    ·obtain ⟨_, hxe, rfl, rfl⟩ := hap.resolve_right (fun h => he h.1)
     rw [hxe] at hl2
     refine WP.nil ?_
     refine WP.sub [(0, _), (1, _), (2, _), (3, _), (10, _), (13, _), (14, _), (15, _), (16, _), (17, _), (18, _), (77, _)] ?_ ⟨rfl, rfl, rfl, rfl, rfl, rfl, rfl, rfl, rfl, rfl, rfl, rfl, trivial⟩
     refine WP.next ?_
     refine WP.condF rfl ?_
     refine WP.skip ?_
     refine WP.leave ?_
     exact WP.mt (⟨i, xx, J2, La, .slice Ap kv.length cp, Lp, .slice Aq kv.length cq, Lq, kv⟩ : SSX) ⟨hle, hI, Imm.le_trans hJ hJ2, hl2, hln, hpi, hb0, hop, hoq, fun a ha => (hkl a ha).mono fun b o h => hJ2.2 b o h⟩ ⟨rfl, rfl, rfl, rfl, rfl, rfl, rfl, rfl, rfl, trivial⟩ rfl
  ·rintro ⟨_, xx, J, Lx, vp, Lp, vq, Lq, kv⟩ ⟨_, hI, hJ, hl, hln, hpi, hb0, hop, hoq, hkl⟩; dsimp only at hI hJ hl hln hpi hb0 hop hoq hkl; obtain ⟨Ap, cp, rfl, _⟩ := hop.slice; obtain ⟨Aq, cq, rfl, _⟩ := hoq.slice
   refine WP.region [0, 1, 2] rfl ?_
   refine WP.mv rfl rfl ?_
   refine WP.vl rfl (Yld.add64 rfl rfl rfl (by omega)) ?_
   refine WP.mv rfl rfl ?_
   refine WP.nil ?_
   refine WP.sub [(0, _), (1, _), (2, _), (3, _), (10, _), (13, _), (14, _), (15, _), (16, _)] ?_ ⟨rfl, rfl, rfl, rfl, rfl, rfl, rfl, rfl, rfl, trivial⟩
   exact WP.ag ⟨i + 1, xx, J, Lx, .slice Ap kv.length cp, Lp, .slice Aq kv.length cq, Lq, kv⟩ ⟨(show i + 1 ≤ ls.length by omega), hI, hJ, hl, hln, hpi, hb0, hop, hoq, hkl⟩ (show ls.length - (i + 1) < ls.length - i by omega) ⟨rfl, rfl, rfl, rfl, rfl, rfl, rfl, rfl, rfl, trivial⟩ rfl
 ·refine WP.nil ?_
  refine WP.sub [(0, _), (1, _), (2, _), (3, _), (10, _), (13, _), (14, _), (15, _), (16, _), (57, _)] ?_ ⟨rfl, rfl, rfl, rfl, rfl, rfl, rfl, rfl, rfl, rfl, trivial⟩
  refine WP.next ?_
  refine WP.condF rfl ?_
  refine WP.exit ?_
  refine WP.thenE ?_
  refine WP.thenE ?_
  refine WP.hit ?_
  refine WP.next ?_
  refine WP.seq ?_
  refine WP.region [0, 1, 2, 3, 4, 5, 6] rfl ?_
  refine WP.mv rfl rfl ?_
  refine WP.vl rfl (Yld.nilCheck rfl rfl) ?_
  refine WP.vl rfl (Yld.fieldAddr rfl ty_fd_43_2 rfl) ?_
  refine WP.vl rfl (Yld.ld (v := .pointer (some ⟨l, 0, none⟩)) rfl ty_sc_34 rfl rfl) ?_
  refine WP.loud rfl rfl ?_
  refine Op.cl (log_Head hl) rfl Try.func11 rfl rfl rfl rfl ?_
  rintro v J L1 - ⟨rfl, rfl, rfl⟩
  try simp only [nf]
  refine WP.vl rfl (Yld.field (v := .int .i64 (xx.no : Int)) rfl ty_fl_29_0 ty_sc_3 rfl rfl) ?_
  refine WP.mv rfl rfl ?_
  refine WP.nil ?_
  refine WP.sub [(0, _), (1, _), (2, _), (3, _), (10, _), (13, _), (14, _), (15, _), (16, _), (19, _), (57, _)] ?_ ⟨rfl, rfl, rfl, rfl, rfl, rfl, rfl, rfl, rfl, rfl, rfl, trivial⟩
  refine WP.next ?_
  refine WP.seq ?_
  refine WP.region [0, 1, 2, 3, 4, 5] rfl ?_
  refine WP.mv rfl rfl ?_
  refine WP.vl rfl (Yld.nilCheck rfl rfl) ?_
  refine WP.vl rfl (Yld.fieldAddr rfl ty_fd_43_2 rfl) ?_
  refine WP.vl rfl (Yld.ld (v := .pointer (some ⟨l, 0, none⟩)) rfl ty_sc_34 rfl rfl) ?_
  refine WP.loud rfl rfl ?_
  refine Op.cl (log_NewFlush (l := l)) rfl Try.func12 rfl rfl rfl rfl ?_
  rintro v J L1 - ⟨rfl, f, rfl, rfl⟩
  try simp only [nf]
  obtain ⟨hz0, hs0⟩ := Fl.st.new (N := xx.no) (P := 8) hl.ok (Nat.le_refl _)
  refine WP.mv rfl rfl ?_
  refine WP.nil ?_
  refine WP.sub [(0, _), (1, _), (2, _), (3, _), (10, _), (13, _), (14, _), (15, _), (16, _), (19, _), (20, _), (57, _)] ?_ ⟨rfl, rfl, rfl, rfl, rfl, rfl, rfl, rfl, rfl, rfl, rfl, rfl, trivial⟩
  refine WP.next ?_
  refine WP.seq ?_
  refine WP.seq ?_
  refine WP.region [0, 1] rfl ?_
  refine WP.mv rfl rfl ?_
  refine WP.vl rfl (Yld.eqlNil rfl ty_pt_47 rfl rfl) ?_
  refine WP.nil ?_
  refine WP.sub [(0, _), (1, _), (2, _), (3, _), (10, _), (13, _), (14, _), (15, _), (16, _), (19, _), (20, _), (57, _), (103, _)] ?_ ⟨rfl, rfl, rfl, rfl, rfl, rfl, rfl, rfl, rfl, rfl, rfl, rfl, rfl, trivial⟩
  refine WP.next ?_
  refine WP.condF rfl ?_
  refine WP.skip ?_
  refine WP.next ?_
  refine WP.seq ?_
  refine WP.region [0, 1] rfl ?_
  refine WP.mv rfl rfl ?_
  refine WP.loud rfl rfl ?_
  refine Op.cl (log_runFlush (f := f) hl hI.td hz0 hs0 (by have := hI.td.mu ⟨0, 0, 0, 0, 1⟩; have := hI.sd.2; omega)) rfl Try.func20 rfl rfl rfl rfl ?_
  rintro v Jr L1 hJr ⟨P2, x2, y2, z2, L2, rfl, hl, hT2, hz2, hs2, h3, nx, hP2⟩
  try simp only [nf]
  obtain ⟨hzn, hwr, hse, hPP⟩ := hT2.all hs2 h3 nx.no.symm
  have hI2 := hI.run hT2 nx
  have hno2 := nx.no
  have hpl2 := hI.pl
  have hJar := Imm.le_trans hJ hJr
  have hms := hms.mono hJar
  have hks := hks.mono (fun b o h => hJar.2 b o h)
  have hkl := fun a (ha : a ∈ kv) => (hkl a ha).mono fun b o h => hJr.2 b o h
  obtain ⟨xn, hxn⟩ : ∃ k, k = xx.no := ⟨_, rfl⟩
  obtain ⟨hp, hhp⟩ : ∃ k, k = xx.pl := ⟨_, rfl⟩
  obtain ⟨pls, hpls⟩ : ∃ k, k = (List.range kv.length).map xx.endP := ⟨_, rfl⟩
  have hK : KpI kv.length (kf kv) pls hp P2 x2 := (⟨hpi, hb0, hpls.symm, by rw [xx.endP_ge (by omega), hhp], Nat.le_refl _⟩ : KpI kv.length (kf kv) pls hp hp xx).nx nx (by rw [hPP, nx.pl]; omega)
  rw [← hxn, ← hhp]
  rw [← hpls] at hop
  refine WP.nil ?_
  refine WP.sub [(0, _), (1, _), (2, _), (3, _), (10, _), (13, _), (14, _), (15, _), (16, _), (19, _), (20, _), (57, _), (103, _)] ?_ ⟨rfl, rfl, rfl, rfl, rfl, rfl, rfl, rfl, rfl, rfl, rfl, rfl, rfl, trivial⟩
  refine WP.next ?_
  refine WP.seq ?_
  refine WP.region [0, 1, 2, 3, 4, 5, 6] rfl ?_
  refine WP.mv rfl rfl ?_
  refine WP.loud rfl rfl ?_
  refine Op.cl (flush_Upto (l := l) (z := z2)) rfl Try.func14 rfl rfl rfl rfl ?_
  rintro v J L1 - ⟨rfl, rfl, rfl⟩
  try simp only [nf]
  refine WP.mv rfl rfl ?_
  refine WP.vl rfl (Yld.extract rfl rfl rfl) ?_
  refine WP.vl rfl (Yld.extract rfl rfl rfl) ?_
  iterate 2 refine WP.mv rfl rfl ?_
  refine WP.nil ?_
  refine WP.sub [(0, _), (1, _), (2, _), (3, _), (10, _), (13, _), (14, _), (15, _), (16, _), (19, _), (20, _), (21, _), (22, _), (57, _), (103, _)] ?_ ⟨rfl, rfl, rfl, rfl, rfl, rfl, rfl, rfl, rfl, rfl, rfl, rfl, rfl, rfl, rfl, trivial⟩
  refine WP.next ?_
  refine WP.seq ?_
  refine WP.seq ?_
  refine WP.region [0, 1, 2, 3, 4, 5, 6] rfl ?_
  refine WP.mv rfl rfl ?_
  refine WP.vl rfl (Yld.neq rfl rfl rfl false (decide_eq_false (by exact fun h => h (hs2.s3 h3).1))) ?_
  refine WP.mv rfl rfl ?_
  refine WP.valG rfl rfl rfl rfl rfl rfl rfl (Yld.move rfl rfl) ?_
  refine WP.valG rfl rfl rfl rfl rfl rfl rfl (Yld.move rfl rfl) ?_
  refine WP.valG rfl rfl rfl rfl rfl rfl rfl (Yld.neq rfl rfl rfl false (decide_eq_false (by omega))) ?_
  refine WP.vl rfl (Yld.pickF rfl rfl rfl) ?_
  refine WP.nil ?_
  refine WP.sub [(0, _), (1, _), (2, _), (3, _), (10, _), (13, _), (14, _), (15, _), (16, _), (19, _), (20, _), (21, _), (22, _), (57, _), (103, _), (117, _)] ?_ ⟨rfl, rfl, rfl, rfl, rfl, rfl, rfl, rfl, rfl, rfl, rfl, rfl, rfl, rfl, rfl, rfl, trivial⟩
  refine WP.next ?_
  refine WP.condF rfl ?_
  refine WP.skip ?_
  refine WP.next ?_
  refine WP.seq ?_
  refine WP.seq ?_
  refine WP.region [0] rfl ?_
  refine WP.mv rfl rfl ?_
  refine WP.nil ?_
  refine WP.next ?_
  refine WP.block ?_
  refine WP.loop (X := ERX) (fun t : ERX => [(1, .slice Am ms.length cm), (2, .int .i64 steps), (3, vk), (10, .pointer (some ⟨x, 0, none⟩)), (13, .slice Ap kv.length cp), (14, .slice Aq kv.length cq), (15, .pointer (some ⟨b15, 0, none⟩)), (23, .int .i64 (t.i : Int))]) (fun t => t.J) (fun t : ERX => (x, row 43 [.pointer (some ⟨d, 0, none⟩), .pointer (some ⟨s, 0, none⟩), .pointer (some ⟨l, 0, none⟩), .pointer (some ⟨q, 0, none⟩), .pointer (some ⟨rt, 0, none⟩), .pointer (some ⟨rm, 0, none⟩), .slice none 0 0, .slice none 0 0, .slice none 0 0, .slice none 0 0]) :: (b15, row 29 [.int .i64 (xn : Int), .int .i64 (hp : Int)]) :: (Lp ++ (Lq ++ (t.L ++ F)))) (fun t : ERX => t.i ≤ ms.length ∧ t.z = fl0 ∧ EraI t.P t.x t.y t.z ∧ Jr.le t.J ∧ IsLog t.J l s d 552 t.x t.y t.L ∧ KpI kv.length (kf kv) pls hp t.P t.x) (fun t => ms.length - t.i) ⟨0, P2, x2, y2, fl0, Jr, L2⟩ ⟨Nat.zero_le _, rfl, hI2, Imm.le_refl _, hl, hK⟩ ⟨rfl, rfl, rfl, rfl, rfl, rfl, rfl, rfl, trivial⟩ rfl (by (try dsimp only); repeat (first | exact Rm.chunk | exact Rm.here | exact Rm.nil0 | apply Rm.skip | apply Rm.skipS | apply PX.cons | (apply PX.done; (repeat (first | exact Leave.done | apply Leave.drop | apply Leave.dropS)); done) | apply PX.app)) ?_
  rintro ⟨i, P, xx, yy, zz, J, Lx⟩ ⟨hle, hz0, hI, hJ, hl, hK⟩; dsimp only at hle hz0 hI hJ hl hK; subst hz0
  try dsimp only
  try simp only [nf]
  refine WP.seq ?_
  refine WP.seq ?_
  refine WP.region [0, 1, 2, 3] rfl ?_
  iterate 2 refine WP.mv rfl rfl ?_
  refine WP.vl rfl (Yld.len rfl ty_sl_22 rfl) ?_
  refine WP.split rfl rfl rfl rfl (Yld.lss rfl rfl rfl) (fun hlt => ?_) (fun hlt => ?_)
  ·have hi : i < ms.length := by omega
   have hmse := hms.mono hJ
   obtain ⟨bl, kl, Tl, fl, arl, ea, hbl, hcl⟩ := hmse.at_ hi
   have hel := hmse.el _ (List.getElem_mem hi)
   refine WP.nil ?_
   refine WP.sub [(1, _), (2, _), (3, _), (10, _), (13, _), (14, _), (15, _), (23, _), (121, _)] ?_ ⟨rfl, rfl, rfl, rfl, rfl, rfl, rfl, rfl, rfl, trivial⟩
   refine WP.next ?_
   refine WP.condT rfl ?_
   refine WP.skip ?_
   refine WP.next ?_
   refine WP.cut (X := ERX) (fun t : ERX => [(1, .slice Am ms.length cm), (2, .int .i64 steps), (3, vk), (10, .pointer (some ⟨x, 0, none⟩)), (13, .slice Ap kv.length cp), (14, .slice Aq kv.length cq), (15, .pointer (some ⟨b15, 0, none⟩)), (23, .int .i64 (i : Int))]) (fun t => t.J) (fun t : ERX => (x, row 43 [.pointer (some ⟨d, 0, none⟩), .pointer (some ⟨s, 0, none⟩), .pointer (some ⟨l, 0, none⟩), .pointer (some ⟨q, 0, none⟩), .pointer (some ⟨rt, 0, none⟩), .pointer (some ⟨rm, 0, none⟩), .slice none 0 0, .slice none 0 0, .slice none 0 0, .slice none 0 0]) :: (b15, row 29 [.int .i64 (xn : Int), .int .i64 (hp : Int)]) :: (Lp ++ (Lq ++ (t.L ++ F)))) (fun t : ERX => t.z = fl0 ∧ EraI t.P t.x t.y t.z ∧ Jr.le t.J ∧ IsLog t.J l s d 552 t.x t.y t.L ∧ KpI kv.length (kf kv) pls hp t.P t.x) ?_ ?_
   ·skip
    refine WP.block ?_
    refine WD.start Trymixed 13 (fun c o => (c = x ∧ o = row 43 [.pointer (some ⟨d, 0, none⟩), .pointer (some ⟨s, 0, none⟩), .pointer (some ⟨l, 0, none⟩), .pointer (some ⟨q, 0, none⟩), .pointer (some ⟨rt, 0, none⟩), .pointer (some ⟨rm, 0, none⟩), .slice none 0 0, .slice none 0 0, .slice none 0 0, .slice none 0 0]) ∨ J.blk c = some o) (fun _ _ => False) (by rintro _ _ (⟨rfl, rfl⟩ | h); exact (by repeat (first | exact There.h | exact There.i (by assumption) | apply There.t | apply There.s)); exact There.i h) (fun _ _ h => h.elim) 14 [false, false, false, false, false, false, false, false, false, false, false, false, false, false] rfl rfl ?_
    refine WD.val (i := 0) rfl rfl rfl rfl (by kernel_rfl) rfl (Yld.move rfl rfl) ?_
    refine WD.val (i := 1) rfl rfl rfl rfl (by kernel_rfl) rfl (Yld.nilCheck rfl rfl) ?_
    refine WD.val (i := 2) rfl rfl rfl rfl (by kernel_rfl) rfl (Yld.fieldAddr rfl ty_fd_43_2 rfl) ?_
    refine WD.val1 (i := 3) rfl rfl rfl rfl (by kernel_rfl) rfl (by kernel_rfl) (Yld.load (v := .pointer (some ⟨l, 0, none⟩)) rfl ty_sc_34 rfl (.inl (.inl ⟨rfl, rfl⟩)) rfl) ?_
    refine WD.val (i := 4) rfl rfl rfl rfl (by kernel_rfl) rfl (Yld.move rfl rfl) ?_
    refine WD.val (i := 5) rfl rfl rfl rfl (by kernel_rfl) rfl (Yld.nilCheck rfl rfl) ?_
    refine WD.val (i := 6) rfl rfl rfl rfl (by kernel_rfl) rfl (Yld.fieldAddr rfl ty_fd_43_2 rfl) ?_
    refine WD.val1 (i := 7) rfl rfl rfl rfl (by kernel_rfl) rfl (by kernel_rfl) (Yld.load (v := .pointer (some ⟨l, 0, none⟩)) rfl ty_sc_34 rfl (.inl (.inl ⟨rfl, rfl⟩)) rfl) ?_
    refine WD.val (i := 9) rfl rfl rfl rfl (by kernel_rfl) rfl (Yld.move rfl rfl) ?_
    refine WD.val (i := 10) rfl rfl rfl rfl (by kernel_rfl) rfl (Yld.move rfl rfl) ?_
    refine WD.val (i := 11) rfl rfl rfl rfl (by kernel_rfl) rfl (Yld.indexAddr (i := i) rfl ty_sl_22 (congrArg (fun a => some (Value.slice a ms.length cm)) ea) rfl hi) ?_
    refine WD.val1 (i := 12) rfl rfl rfl rfl (by kernel_rfl) rfl (by kernel_rfl) (Yld.loadC rfl ty_sc_46 rfl (.inl (.inr hbl)) hcl) ?_
    refine WD.loud (i := 8) (by kernel_rfl) rfl rfl rfl ?_
    refine Op.cl (log_Head hl) rfl Try.func11 rfl rfl rfl rfl ?_
    rintro v J L1 - ⟨rfl, rfl, rfl⟩
    try simp only [nf]
    refine WD.go (.inr (by rintro _ _ (⟨rfl, rfl⟩ | h); exact (by repeat (first | exact There.h | exact There.i (by assumption) | apply There.t | apply There.s)); first | exact There.i h | exact There.i (hJ2.2 _ _ h))) (fun _ _ h => h.elim) ?_
    refine WD.loud (i := 13) (by kernel_rfl) rfl rfl rfl ?_
    refine Op.cl (log_AppendX (hn := xx.no) (hp := xx.pl) (kind := 1) hl hel) rfl Try.func10 rfl rfl rfl rfl ?_
    rintro v J2 La hJ2 ⟨e, hn, hq, x3, rfl, _, hap, hl⟩
    try simp only [nf]
    refine WD.go (.inl rfl) (fun _ _ h => h.elim) ?_
    refine WD.done (by kernel_rfl) ?_
    refine WP.sub [(1, _), (2, _), (3, _), (10, _), (13, _), (14, _), (15, _), (23, _), (121, _)] ?_ ⟨rfl, rfl, rfl, rfl, rfl, rfl, rfl, rfl, rfl, trivial⟩
    refine WP.leave ?_
    exact WP.mt (⟨i, P, x3, yy, fl0, J2, La⟩ : ERX) ⟨rfl, hI.ap hap hl.recs hl.ok, Imm.le_trans hJ hJ2, hl, hK.ap hap⟩ ⟨rfl, rfl, rfl, rfl, rfl, rfl, rfl, rfl, trivial⟩ rfl
   ·rintro ⟨_, P, xx, yy, zz, J, Lx⟩ ⟨hz0, hI, hJ, hl, hK⟩; dsimp only at hz0 hI hJ hl hK; subst hz0
    refine WP.region [0, 1, 2] rfl ?_
    refine WP.mv rfl rfl ?_
    refine WP.vl rfl (Yld.add64 rfl rfl rfl (by omega)) ?_
    refine WP.mv rfl rfl ?_
    refine WP.nil ?_
    refine WP.sub [(1, _), (2, _), (3, _), (10, _), (13, _), (14, _), (15, _), (23, _)] ?_ ⟨rfl, rfl, rfl, rfl, rfl, rfl, rfl, rfl, trivial⟩
    exact WP.ag ⟨i + 1, P, xx, yy, fl0, J, Lx⟩ ⟨(show i + 1 ≤ ms.length by omega), rfl, hI, hJ, hl, hK⟩ (show ms.length - (i + 1) < ms.length - i by omega) ⟨rfl, rfl, rfl, rfl, rfl, rfl, rfl, rfl, trivial⟩ rfl
  ·refine WP.nil ?_
   refine WP.sub [(1, _), (2, _), (3, _), (10, _), (13, _), (14, _), (15, _), (23, _), (121, _)] ?_ ⟨rfl, rfl, rfl, rfl, rfl, rfl, rfl, rfl, rfl, trivial⟩
   refine WP.next ?_
   refine WP.condF rfl ?_
   refine WP.exit ?_
   refine WP.thenE ?_
   refine WP.thenE ?_
   refine WP.hit ?_
   refine WP.next ?_
   refine WP.seq ?_
   refine WP.region [0, 1, 2, 3, 4, 5] rfl ?_
   refine WP.mv rfl rfl ?_
   refine WP.vl rfl (Yld.nilCheck rfl rfl) ?_
   refine WP.vl rfl (Yld.fieldAddr rfl ty_fd_43_2 rfl) ?_
   refine WP.vl rfl (Yld.ld (v := .pointer (some ⟨l, 0, none⟩)) rfl ty_sc_34 rfl rfl) ?_
   refine WP.loud rfl rfl ?_
   refine Op.cl (log_NewFlush (l := l)) rfl Try.func12 rfl rfl rfl rfl ?_
   rintro v J L1 - ⟨rfl, g, rfl, rfl⟩
   try simp only [nf]
   refine WP.mv rfl rfl ?_
   refine WP.nil ?_
   refine WP.sub [(1, _), (2, _), (3, _), (10, _), (13, _), (14, _), (15, _), (23, _), (24, _), (121, _)] ?_ ⟨rfl, rfl, rfl, rfl, rfl, rfl, rfl, rfl, rfl, rfl, trivial⟩
   refine WP.next ?_
   refine WP.seq ?_
   refine WP.seq ?_
   refine WP.region [0, 1] rfl ?_
   refine WP.mv rfl rfl ?_
   refine WP.vl rfl (Yld.eqlNil rfl ty_pt_47 rfl rfl) ?_
   refine WP.nil ?_
   refine WP.sub [(1, _), (2, _), (3, _), (10, _), (13, _), (14, _), (15, _), (23, _), (24, _), (121, _), (144, _)] ?_ ⟨rfl, rfl, rfl, rfl, rfl, rfl, rfl, rfl, rfl, rfl, rfl, trivial⟩
   refine WP.next ?_
   refine WP.condF rfl ?_
   refine WP.skip ?_
   refine WP.next ?_
   refine WP.cut (X := ERX) (fun t : ERX => [(3, vk), (10, .pointer (some ⟨x, 0, none⟩)), (13, .slice Ap kv.length cp), (14, .slice Aq kv.length cq), (15, .pointer (some ⟨b15, 0, none⟩))]) (fun t => t.J) (fun t : ERX => (x, row 43 [.pointer (some ⟨d, 0, none⟩), .pointer (some ⟨s, 0, none⟩), .pointer (some ⟨l, 0, none⟩), .pointer (some ⟨q, 0, none⟩), .pointer (some ⟨rt, 0, none⟩), .pointer (some ⟨rm, 0, none⟩), .slice none 0 0, .slice none 0 0, .slice none 0 0, .slice none 0 0]) :: (b15, row 29 [.int .i64 (xn : Int), .int .i64 (hp : Int)]) :: (Lp ++ (Lq ++ (t.L ++ F)))) (fun t : ERX => EraI t.P t.x t.y t.z ∧ Jr.le t.J ∧ IsLog t.J l s d 552 t.x t.y t.L ∧ KpI kv.length (kf kv) pls hp t.P t.x) ?_ ?_
   ·skip
    refine WP.seq ?_
    refine WP.region [0] rfl ?_
    refine WP.mv rfl rfl ?_
    refine WP.nil ?_
    refine WP.next ?_
    refine WP.block ?_
    refine WP.loop (X := ERX) (fun t : ERX => [(2, .int .i64 steps), (3, vk), (10, .pointer (some ⟨x, 0, none⟩)), (13, .slice Ap kv.length cp), (14, .slice Aq kv.length cq), (15, .pointer (some ⟨b15, 0, none⟩)), (24, .pointer (some ⟨g, 0, none⟩)), (25, .int .i64 (t.i : Int))]) (fun t => t.J) (fun t : ERX => (x, row 43 [.pointer (some ⟨d, 0, none⟩), .pointer (some ⟨s, 0, none⟩), .pointer (some ⟨l, 0, none⟩), .pointer (some ⟨q, 0, none⟩), .pointer (some ⟨rt, 0, none⟩), .pointer (some ⟨rm, 0, none⟩), .slice none 0 0, .slice none 0 0, .slice none 0 0, .slice none 0 0]) :: (b15, row 29 [.int .i64 (xn : Int), .int .i64 (hp : Int)]) :: (g, row 97 (flV l g t.z)) :: (Lp ++ (Lq ++ (t.L ++ F)))) (fun t : ERX => t.i ≤ 60 ∧ EraI t.P t.x t.y t.z ∧ Jr.le t.J ∧ IsLog t.J l s d 552 t.x t.y t.L ∧ KpI kv.length (kf kv) pls hp t.P t.x) (fun t => 60 - t.i) ⟨0, P, xx, yy, fl0, J, Lx⟩ ⟨Nat.zero_le _, hI, hJ, hl, hK⟩ ⟨rfl, rfl, rfl, rfl, rfl, rfl, rfl, rfl, trivial⟩ rfl (by (try dsimp only); repeat (first | exact Rm.chunk | exact Rm.here | exact Rm.nil0 | apply Rm.skip | apply Rm.skipS | apply PX.cons | (apply PX.done; (repeat (first | exact Leave.done | apply Leave.drop | apply Leave.dropS)); done) | apply PX.app)) ?_
    rintro ⟨i, P, xx, yy, zz, J, Lx⟩ ⟨hle, hI, hJ, hl, hK⟩; dsimp only at hle hI hJ hl hK
    try dsimp only
    try simp only [nf]
    refine WP.seq ?_
    refine WP.seq ?_
    refine WP.region [0, 1, 2, 3, 4, 5, 6] rfl ?_
    iterate 2 refine WP.mv rfl rfl ?_
    refine WP.split rfl rfl rfl rfl (Yld.lss rfl rfl rfl) (fun h1 => ?_) (fun h1 => ?_)
    ·refine WP.mv rfl rfl ?_
     refine WP.valG rfl rfl rfl rfl rfl rfl rfl (Yld.move rfl rfl) ?_
     refine WP.splitG rfl rfl rfl rfl rfl rfl rfl (Yld.lss rfl rfl rfl) (fun h2 => ?_) (fun h2 => ?_)
     ·refine WP.vl rfl (Yld.pickT rfl rfl rfl) ?_
      refine WP.nil ?_
      refine WP.sub [(2, _), (3, _), (10, _), (13, _), (14, _), (15, _), (24, _), (25, _), (151, _)] ?_ ⟨rfl, rfl, rfl, rfl, rfl, rfl, rfl, rfl, rfl, trivial⟩
      refine WP.next ?_
      refine WP.condT rfl ?_
      refine WP.skip ?_
      refine WP.next ?_
      refine WP.seq ?_
      refine WP.block ?_
      obtain ⟨P3, x3, y3, z3, e3, hI3, nx3, hP3⟩ := hI.step
      refine WP.region [0, 1] rfl ?_
      refine WP.mv rfl rfl ?_
      refine WP.loud rfl rfl ?_
      refine Op.cl (flush_Step (f := g) hl hI.z1 hI.td.wait) rfl Try.func13 rfl rfl rfl rfl ?_
      rintro v J5 L1 hJ5 ⟨rfl, L3, rfl, hl⟩
      try simp only [nf]
      rw [e3] at hl
      rw [e3]
      dsimp only at hl
      dsimp only
      refine WP.nil ?_
      refine WP.sub [(2, _), (3, _), (10, _), (13, _), (14, _), (15, _), (24, _), (25, _), (151, _)] ?_ ⟨rfl, rfl, rfl, rfl, rfl, rfl, rfl, rfl, rfl, trivial⟩
      refine WP.leave ?_
      refine WP.next ?_
      refine WP.region [0, 1, 2] rfl ?_
      refine WP.mv rfl rfl ?_
      refine WP.vl rfl (Yld.add64 rfl rfl rfl (by omega)) ?_
      refine WP.mv rfl rfl ?_
      refine WP.nil ?_
      refine WP.sub [(2, _), (3, _), (10, _), (13, _), (14, _), (15, _), (24, _), (25, _), (151, _)] ?_ ⟨rfl, rfl, rfl, rfl, rfl, rfl, rfl, rfl, rfl, trivial⟩
      exact WP.ag ⟨i + 1, P3, x3, y3, z3, J5, L3⟩ ⟨(show i + 1 ≤ 60 by omega), hI3, Imm.le_trans hJ hJ5, hl, hK.nx nx3 hP3⟩ (show 60 - (i + 1) < 60 - i by omega) ⟨rfl, rfl, rfl, rfl, rfl, rfl, rfl, rfl, trivial⟩ rfl
     ·refine WP.vl rfl (Yld.pickT rfl rfl rfl) ?_
      refine WP.nil ?_
      refine WP.sub [(2, _), (3, _), (10, _), (13, _), (14, _), (15, _), (24, _), (25, _), (151, _)] ?_ ⟨rfl, rfl, rfl, rfl, rfl, rfl, rfl, rfl, rfl, trivial⟩
      refine WP.next ?_
      refine WP.condF rfl ?_
      refine WP.exit ?_
      refine WP.thenE ?_
      refine WP.thenE ?_
      refine WP.hit ?_
      exact WP.mt (⟨0, P, xx, yy, zz, J, Lx⟩ : ERX) ⟨hI, hJ, hl, hK⟩ ⟨rfl, rfl, rfl, rfl, rfl, trivial⟩ rfl
    ·refine WP.mv rfl rfl ?_
     refine WP.passG rfl rfl rfl rfl rfl rfl rfl rfl ?_
     refine WP.passG rfl rfl rfl rfl rfl rfl rfl rfl ?_
     refine WP.vl rfl (Yld.pickF rfl rfl rfl) ?_
     refine WP.nil ?_
     refine WP.sub [(2, _), (3, _), (10, _), (13, _), (14, _), (15, _), (24, _), (25, _), (151, _)] ?_ ⟨rfl, rfl, rfl, rfl, rfl, rfl, rfl, rfl, rfl, trivial⟩
     refine WP.next ?_
     refine WP.condF rfl ?_
     refine WP.exit ?_
     refine WP.thenE ?_
     refine WP.thenE ?_
     refine WP.hit ?_
     exact WP.mt (⟨0, P, xx, yy, zz, J, Lx⟩ : ERX) ⟨hI, hJ, hl, hK⟩ ⟨rfl, rfl, rfl, rfl, rfl, trivial⟩ rfl
   ·rintro ⟨_, P, xx, yy, zz, J, Lx⟩ ⟨hI, hJ, hl, hK⟩; dsimp only at hI hJ hl hK
    refine WP.seq ?_
    obtain ⟨Lr, Ld, rfl, hd, hback⟩ := id hl.disk
    try simp only [nf]
    have hksJ := hks.mono (fun b o h => hJ.2 b o h)
    have onU := hI.td.g.on.up ks
    have hg0 := hI.td.g.ok.g; have hg1 := hI.sd; have hg2 := hI.td.g.ok.st; have hg3 := hI.td.g.ok.nb
    have hg4 := hg0.fs
    refine WP.region [0, 1, 2, 3, 4, 5] rfl ?_
    refine WP.mv rfl rfl ?_
    refine WP.vl rfl (Yld.nilCheck rfl rfl) ?_
    refine WP.vl rfl (Yld.fieldAddr rfl ty_fd_43_0 rfl) ?_
    refine WP.vl rfl (Yld.ld (v := .pointer (some ⟨d, 0, none⟩)) rfl ty_sc_32 rfl rfl) ?_
    refine WP.mv rfl rfl ?_
    refine WP.loud rfl rfl ?_
    refine Op.cl (disk_Up hd hksJ (by have := hI.td.wait; omega)) rfl Try.func21 rfl rfl rfl rfl ?_
    rintro v J Ld2 - ⟨rfl, rfl, hd2⟩
    try simp only [nf]
    refine WP.nil ?_
    refine WP.sub [(3, _), (10, _), (13, _), (14, _), (15, _)] ?_ ⟨rfl, rfl, rfl, rfl, rfl, trivial⟩
    refine WP.next ?_
    refine WP.seq ?_
    refine WD.start Trymixed 9 (fun c o => c = x ∧ o = row 43 [.pointer (some ⟨d, 0, none⟩), .pointer (some ⟨s, 0, none⟩), .pointer (some ⟨l, 0, none⟩), .pointer (some ⟨q, 0, none⟩), .pointer (some ⟨rt, 0, none⟩), .pointer (some ⟨rm, 0, none⟩), .slice none 0 0, .slice none 0 0, .slice none 0 0, .slice none 0 0]) (fun _ _ => False) (by rintro _ _ ⟨rfl, rfl⟩; exact (by repeat (first | exact There.h | exact There.i (by assumption) | apply There.t | apply There.s))) (fun _ _ h => h.elim) 15 [false, false, false, false, false, false, false, false, false, false, false, false, false, false, false] rfl rfl ?_
    refine WD.val (i := 0) rfl rfl rfl rfl (by kernel_rfl) rfl (Yld.move rfl rfl) ?_
    refine WD.val (i := 1) rfl rfl rfl rfl (by kernel_rfl) rfl (Yld.nilCheck rfl rfl) ?_
    refine WD.val (i := 2) rfl rfl rfl rfl (by kernel_rfl) rfl (Yld.fieldAddr rfl ty_fd_43_0 rfl) ?_
    refine WD.val1 (i := 3) rfl rfl rfl rfl (by kernel_rfl) rfl (by kernel_rfl) (Yld.load (v := .pointer (some ⟨d, 0, none⟩)) rfl ty_sc_32 rfl (.inl ⟨rfl, rfl⟩) rfl) ?_
    refine WD.val (i := 4) rfl rfl rfl rfl (by kernel_rfl) rfl (Yld.move rfl rfl) ?_
    refine WD.val (i := 5) rfl rfl rfl rfl (by kernel_rfl) rfl (Yld.nilCheck rfl rfl) ?_
    refine WD.val (i := 6) rfl rfl rfl rfl (by kernel_rfl) rfl (Yld.fieldAddr rfl ty_fd_43_1 rfl) ?_
    refine WD.val1 (i := 7) rfl rfl rfl rfl (by kernel_rfl) rfl (by kernel_rfl) (Yld.load (v := .pointer (some ⟨s, 0, none⟩)) rfl ty_sc_33 rfl (.inl ⟨rfl, rfl⟩) rfl) ?_
    refine WD.loud (i := 8) (by kernel_rfl) rfl rfl rfl ?_
    refine Op.cl (seg_End (d := d) (n := 552) (g := xx.g)) rfl Try.func23 rfl rfl rfl rfl ?_
    rintro v J L1 - ⟨rfl, rfl, rfl⟩
    try simp only [nf]
    refine WD.gR ?_
    refine WD.loud (i := 9) (by kernel_rfl) rfl rfl rfl ?_
    refine Op.cl (seg_New_ok (f := 1) (e := xx.g.stop) hd2 (by decide) (by omega) (by omega) (by omega)) rfl Try.func22 rfl rfl rfl rfl ?_
    rintro v J L1 - ⟨rfl, s2, rfl, rfl⟩
    try simp only [nf]
    refine WD.go (.inl rfl) (fun _ _ h => h.elim) ?_
    refine WD.val (i := 10) rfl rfl rfl rfl (by kernel_rfl) rfl (Yld.move rfl rfl) ?_
    refine WD.val (i := 11) rfl rfl rfl rfl (by kernel_rfl) rfl (Yld.extract rfl rfl rfl) ?_
    refine WD.val (i := 12) rfl rfl rfl rfl (by kernel_rfl) rfl (Yld.extract rfl rfl rfl) ?_
    refine WD.val (i := 13) rfl rfl rfl rfl (by kernel_rfl) rfl (Yld.assign rfl rfl) ?_
    refine WD.val (i := 14) rfl rfl rfl rfl (by kernel_rfl) rfl (Yld.assign rfl rfl) ?_
    refine WD.done (by kernel_rfl) ?_
    refine WP.sub [(3, _), (10, _), (13, _), (14, _), (15, _), (26, _), (27, _)] ?_ ⟨rfl, rfl, rfl, rfl, rfl, rfl, rfl, trivial⟩
    refine WP.next ?_
    refine WP.seq ?_
    refine WP.seq ?_
    refine WP.region [0, 1, 2, 3, 4, 5] rfl ?_
    refine WP.mv rfl rfl ?_
    refine WP.vl rfl (Yld.neq rfl rfl rfl false (decide_eq_false (by simp))) ?_
    refine WP.mv rfl rfl ?_
    refine WP.valG rfl rfl rfl rfl rfl rfl rfl (Yld.move rfl rfl) ?_
    refine WP.valG rfl rfl rfl rfl rfl rfl rfl (Yld.eqlNil rfl ty_pt_33 rfl rfl) ?_
    refine WP.vl rfl (Yld.pickF rfl rfl rfl) ?_
    refine WP.nil ?_
    refine WP.sub [(3, _), (10, _), (13, _), (14, _), (15, _), (26, _), (27, _), (180, _)] ?_ ⟨rfl, rfl, rfl, rfl, rfl, rfl, rfl, rfl, trivial⟩
    refine WP.next ?_
    refine WP.condF rfl ?_
    refine WP.skip ?_
    refine WP.next ?_
    refine WP.seq ?_
    refine WD.start Trymixed 6 (fun c o => (c = x ∧ o = row 43 [.pointer (some ⟨d, 0, none⟩), .pointer (some ⟨s, 0, none⟩), .pointer (some ⟨l, 0, none⟩), .pointer (some ⟨q, 0, none⟩), .pointer (some ⟨rt, 0, none⟩), .pointer (some ⟨rm, 0, none⟩), .slice none 0 0, .slice none 0 0, .slice none 0 0, .slice none 0 0]) ∨ (c = b15 ∧ o = row 29 [.int .i64 (xn : Int), .int .i64 (hp : Int)])) (fun _ _ => False) (by rintro _ _ (⟨rfl, rfl⟩ | ⟨rfl, rfl⟩) <;> exact (by repeat (first | exact There.h | exact There.i (by assumption) | apply There.t | apply There.s))) (fun _ _ h => h.elim) 12 [false, false, false, false, false, false, false, false, false, false, false, false] rfl rfl ?_
    refine WD.val (i := 0) rfl rfl rfl rfl (by kernel_rfl) rfl (Yld.move rfl rfl) ?_
    refine WD.val (i := 1) rfl rfl rfl rfl (by kernel_rfl) rfl (Yld.nilCheck rfl rfl) ?_
    refine WD.val (i := 2) rfl rfl rfl rfl (by kernel_rfl) rfl (Yld.fieldAddr rfl ty_fd_43_0 rfl) ?_
    refine WD.val1 (i := 3) rfl rfl rfl rfl (by kernel_rfl) rfl (by kernel_rfl) (Yld.load (v := .pointer (some ⟨d, 0, none⟩)) rfl ty_sc_32 rfl (.inl (.inl ⟨rfl, rfl⟩)) rfl) ?_
    refine WD.val (i := 4) rfl rfl rfl rfl (by kernel_rfl) rfl (Yld.move rfl rfl) ?_
    refine WD.val1 (i := 5) rfl rfl rfl rfl (by kernel_rfl) rfl (by kernel_rfl) (Yld.loadAgg (vs := [.int .i64 (xn : Int), .int .i64 (hp : Int)]) rfl ty_ag_29 rfl (.inl (.inr ⟨rfl, rfl⟩)) rfl rfl) ?_
    refine WD.loud (i := 6) (by kernel_rfl) rfl rfl rfl ?_
    refine Op.cl (log_Open (s := s2) (g := ⟨(552 - 8) / 32, 1, xx.g.stop⟩) (hn := xn) (hp := hp) (era := 2) hd2 ⟨(by decide : 4 ≤ (552 - 8) / 32), (by decide : (552 - 8) / 32 * 32 + 8 ≤ 552), (by omega : 1 ≤ xx.g.stop), (by omega : xx.g.stop ≤ 1099511627776)⟩ (by omega) (by omega : 1 * 8 ≤ hp) (by omega : hp ≤ (1 + (552 - 8) / 32) * 8) (by decide) (by show 1 ≤ 68719476736; decide) (by omega : xx.g.stop ≤ 1 + (552 - 8) / 32)) rfl Try.func24 rfl rfl rfl rfl ?_
    rintro v J Ln - ⟨rfl, l2, rfl, hl2⟩
    try simp only [nf]
    have hrec := hl.recs
    have hgn : ((⟨2, ⟨(552 - 8) / 32, 1, xx.g.stop⟩, xn, hp, [], xn, xn, hp⟩ : Lg)).g.ok 552 := hl2.ok.g
    have hklJ := fun a (ha : a ∈ kv) => (hkl a ha).mono fun b o h => hJ.2 b o h
    refine WD.go (.inl rfl) (fun _ _ h => h.elim) ?_
    refine WD.val (i := 7) rfl rfl rfl rfl (by kernel_rfl) rfl (Yld.move rfl rfl) ?_
    refine WD.val (i := 8) rfl rfl rfl rfl (by kernel_rfl) rfl (Yld.extract rfl rfl rfl) ?_
    refine WD.val (i := 9) rfl rfl rfl rfl (by kernel_rfl) rfl (Yld.extract rfl rfl rfl) ?_
    refine WD.val (i := 10) rfl rfl rfl rfl (by kernel_rfl) rfl (Yld.assign rfl rfl) ?_
    refine WD.val (i := 11) rfl rfl rfl rfl (by kernel_rfl) rfl (Yld.assign rfl rfl) ?_
    refine WD.done (by kernel_rfl) ?_
    refine WP.sub [(3, _), (10, _), (13, _), (14, _), (15, _), (26, _), (27, _), (28, _), (29, _), (180, _)] ?_ ⟨rfl, rfl, rfl, rfl, rfl, rfl, rfl, rfl, rfl, rfl, trivial⟩
    refine WP.next ?_
    refine WP.seq ?_
    refine WP.seq ?_
    refine WP.region [0, 1, 2, 3, 4, 5] rfl ?_
    refine WP.mv rfl rfl ?_
    refine WP.vl rfl (Yld.neq rfl rfl rfl false (decide_eq_false (by simp))) ?_
    refine WP.mv rfl rfl ?_
    refine WP.valG rfl rfl rfl rfl rfl rfl rfl (Yld.move rfl rfl) ?_
    refine WP.valG rfl rfl rfl rfl rfl rfl rfl (Yld.eqlNil rfl ty_pt_34 rfl rfl) ?_
    refine WP.vl rfl (Yld.pickF rfl rfl rfl) ?_
    refine WP.nil ?_
    refine WP.sub [(3, _), (10, _), (13, _), (14, _), (15, _), (26, _), (27, _), (28, _), (29, _), (180, _), (196, _)] ?_ ⟨rfl, rfl, rfl, rfl, rfl, rfl, rfl, rfl, rfl, rfl, rfl, trivial⟩
    refine WP.next ?_
    refine WP.condF rfl ?_
    refine WP.skip ?_
    refine WP.next ?_
    refine WP.seq ?_
    refine WP.seq ?_
    refine WP.region [0] rfl ?_
    refine WP.mv rfl rfl ?_
    refine WP.nil ?_
    refine WP.next ?_
    refine WP.block ?_
    refine WP.loop (X := ERX) (fun t : ERX => [(13, .slice Ap kv.length cp), (14, .slice Aq kv.length cq), (28, .pointer (some ⟨l2, 0, none⟩)), (30, .int .i64 (t.i : Int))]) (fun t => t.J) (fun t : ERX => (Lp ++ (Lq ++ (t.L ++ F)))) (fun t : ERX => t.i ≤ kv.length ∧ J.le t.J ∧ IsLog t.J l2 s2 d 552 (⟨2, ⟨(552 - 8) / 32, 1, xx.g.stop⟩, xn, hp, [], xn, xn, hp⟩ : Lg) (yy.up ks) t.L) (fun t => kv.length - t.i) ⟨0, P, xx, yy, zz, J, Ln⟩ ⟨Nat.zero_le _, Imm.le_refl _, hl2⟩ ⟨rfl, rfl, rfl, rfl, trivial⟩ rfl (by (try dsimp only); repeat (first | exact Rm.chunk | exact Rm.here | exact Rm.nil0 | apply Rm.skip | apply Rm.skipS | apply PX.cons | (apply PX.done; (repeat (first | exact Leave.done | apply Leave.drop | apply Leave.dropS)); done) | apply PX.app)) ?_
    have hJb := hJ; rintro ⟨i, _, _, _, _, J3, Lx⟩ ⟨him, hJ, hl3⟩; dsimp only at him hJ hl3
    try dsimp only
    try simp only [nf]
    refine WP.seq ?_
    refine WP.seq ?_
    refine WP.region [0, 1, 2, 3] rfl ?_
    iterate 2 refine WP.mv rfl rfl ?_
    refine WP.vl rfl (Yld.len rfl ty_sl_23 rfl) ?_
    refine WP.split rfl rfl rfl rfl (Yld.lss rfl rfl rfl) (fun hlt => ?_) (fun hlt => ?_)
    ·have hi : i < kv.length := by omega
     have hpn := hK.pi.n
     have hrl : xx.rs.length ≤ 1099511627776 := by have := hI.td.g.ok.nb; unfold Lg.no at this; omega
     have him2 : i < xx.rs.length := by omega
     obtain ⟨bo, cpo, spo, ev, rfl, _, _⟩ := hop.get (by omega)
     obtain ⟨rfl, rfl⟩ : Ap = some ⟨bo, 0, none⟩ ∧ cp = cpo := by injection ev with e1 _ e2; exact ⟨e1, e2⟩
     obtain ⟨bu, cpu, spu, ev2, rfl, _, _⟩ := hoq.get (by omega)
     obtain ⟨rfl, rfl⟩ : Aq = some ⟨bu, 0, none⟩ ∧ cq = cpu := by injection ev2 with e1 _ e2; exact ⟨e1, e2⟩
     try simp only [nf]
     have hri := hrec i him2
     have hrb : xx.rs[i].b = kv[i].2 := by rw [hK.pi.b i him2 hi]; exact kf_at hi
     have hn1 := xx.endP_lt (show i < i + 1 by omega) him2
     have hn2 : xx.endP (i + 1) ≤ hp := by rw [← hK.pe]; exact xx.endP_mono (by omega)
     have hn3 := xx.rs[i].pos
     have hP := hK.le; have hw2 := hI.td.w2; have hse := hI.td.g.se
     have hfd := hI.td.fdUp ks hgn hg1.2.symm (by show 1 * 8 ≤ xx.p0; have := hI.pl; omega) (by show P ≤ xx.g.stop * 8; omega) him2 (by omega)
     have hcut := hri.ok
     have hlenb : xx.rs[i].b.length ≤ 12671 := by have := hcut.len; simp only [kbody, List.length_cons] at this; omega
     have hpi2 : pls[i]'(by rw [← hK.pp]; simp; omega) = xx.endP i := by simp [← hK.pp]
     have hxe : ((⟨2, ⟨(552 - 8) / 32, 1, xx.g.stop⟩, xn, hp, [], xn, xn, hp⟩ : Lg)).endP (((⟨2, ⟨(552 - 8) / 32, 1, xx.g.stop⟩, xn, hp, [], xn, xn, hp⟩ : Lg)).lo - ((⟨2, ⟨(552 - 8) / 32, 1, xx.g.stop⟩, xn, hp, [], xn, xn, hp⟩ : Lg)).base) = hp := by show hp + blocksN (List.take _ []) = hp; simp [blocksN]
     refine WP.nil ?_
     refine WP.sub [(13, _), (14, _), (28, _), (30, _), (200, _)] ?_ ⟨rfl, rfl, rfl, rfl, rfl, trivial⟩
     refine WP.next ?_
     refine WP.condT rfl ?_
     refine WP.skip ?_
     refine WP.next ?_
     refine WP.seq ?_
     refine WP.block ?_
     refine WP.seq ?_
     refine WP.region [0, 1, 2, 3, 4, 5, 6] rfl ?_
     iterate 3 refine WP.mv rfl rfl ?_
     refine WP.vl rfl (Yld.indexAddr (i := i) rfl ty_sl_23 rfl rfl (by omega)) ?_
     refine WP.vl rfl (Yld.ld (v := .int .i64 (xx.endP i : Int)) rfl ty_sc_3 rfl (by have h := natV_app (l := pls) (k := i) (by rw [← hK.pp]; simp; omega) spo; rw [hpi2] at h; exact h)) ?_
     refine WP.loud rfl rfl ?_
     refine Op.cl (log_NewRead (l := l2) (p := xx.endP i)) rfl Try.func25 rfl rfl rfl rfl ?_
     rintro v J Lr4 - ⟨rfl, rd, rfl, hrd⟩
     try simp only [nf]
     refine WP.mv rfl rfl ?_
     refine WP.nil ?_
     refine WP.sub [(13, _), (14, _), (28, _), (30, _), (31, _), (200, _)] ?_ ⟨rfl, rfl, rfl, rfl, rfl, rfl, trivial⟩
     refine WP.next ?_
     refine WP.seq ?_
     refine WP.seq ?_
     refine WP.region [0, 1] rfl ?_
     refine WP.mv rfl rfl ?_
     refine WP.vl rfl (Yld.eqlNil rfl ty_pt_69 rfl rfl) ?_
     refine WP.nil ?_
     refine WP.sub [(13, _), (14, _), (28, _), (30, _), (31, _), (200, _), (210, _)] ?_ ⟨rfl, rfl, rfl, rfl, rfl, rfl, rfl, trivial⟩
     refine WP.next ?_
     refine WP.condF rfl ?_
     refine WP.skip ?_
     refine WP.next ?_
     refine WP.seq ?_
     refine WP.region [0, 1] rfl ?_
     refine WP.mv rfl rfl ?_
     refine WP.loud rfl rfl ?_
     refine Op.cl (log_runRead hl3 hrd hcut hri.kd hfd (by omega) (.inl (by omega))) rfl Try.func26 rfl rfl rfl rfl ?_
     rintro v J7 Lq7 hJ7 ⟨qs, Lr6, L7, rfl, hrd, hl3⟩
     try simp only [nf]
     refine WP.nil ?_
     refine WP.sub [(13, _), (14, _), (28, _), (30, _), (31, _), (200, _), (210, _)] ?_ ⟨rfl, rfl, rfl, rfl, rfl, rfl, rfl, trivial⟩
     refine WP.next ?_
     refine WP.seq ?_
     refine WP.region [0, 1, 2, 3, 4, 5, 6, 7, 8, 9, 10] rfl ?_
     refine WP.mv rfl rfl ?_
     refine WP.loud rfl rfl ?_
     refine Op.cl (read_GotF hrd (by omega)) rfl Try.func27 rfl rfl rfl rfl ?_
     rintro v J L9 - ⟨rfl, vc, Lc, rfl, hvc, rfl⟩
     try simp only [nf]
     rw [hrb] at hvc
     have hel7 := (hklJ _ (List.getElem_mem hi)).mono fun b o h => (Imm.le_trans hJ hJ7).2 b o h
     have hb0 := hK.b0
     refine WP.mv rfl rfl ?_
     refine WP.vl rfl (Yld.extract rfl rfl rfl) ?_
     refine WP.vl rfl (Yld.extract rfl rfl rfl) ?_
     refine WP.vl rfl (Yld.extract rfl rfl rfl) ?_
     refine WP.vl rfl (Yld.extract rfl rfl rfl) ?_
     iterate 4 refine WP.mv rfl rfl ?_
     refine WP.nil ?_
     refine WP.sub [(13, _), (14, _), (28, _), (30, _), (31, _), (32, _), (34, _), (35, _), (200, _), (210, _)] ?_ ⟨rfl, rfl, rfl, rfl, rfl, rfl, rfl, rfl, rfl, rfl, trivial⟩
     refine WP.next ?_
     refine WP.seq ?_
     refine WQ.startAll Trymixed (by kernel_rfl) _ rfl ?_
     refine WQ.val rfl rfl rfl (Yld.move rfl rfl) ?_
     refine WQ.val rfl rfl rfl (Yld.neq rfl rfl rfl false (decide_eq_false (by simp))) ?_
     refine WQ.val rfl rfl rfl (Yld.move rfl rfl) ?_
     refine WQ.valG rfl rfl rfl rfl rfl rfl (Yld.move rfl rfl) ?_
     refine WQ.valG rfl rfl rfl rfl rfl rfl (Yld.move rfl rfl) ?_
     refine WQ.valG rfl rfl rfl rfl rfl rfl (Yld.add64 rfl rfl rfl (by omega)) ?_
     refine WQ.valG rfl rfl rfl rfl rfl rfl (Yld.neq rfl rfl rfl false (decide_eq_false (by omega))) ?_
     refine WQ.val rfl rfl rfl (Yld.pickF rfl rfl rfl) ?_
     refine WQ.val rfl rfl rfl (Yld.move rfl rfl) ?_
     refine WQ.valG rfl rfl rfl rfl rfl rfl (Yld.move rfl rfl) ?_
     refine WQ.valG rfl rfl rfl rfl rfl rfl (Yld.str (e := 5) rfl (by kernel_rfl) (by kernel_rfl) (by kernel_rfl) rfl (hvc.rd (by intro p hp; simp [hp]))) ?_
     refine WQ.valG rfl rfl rfl rfl rfl rfl (Yld.move rfl rfl) ?_
     refine WQ.valG rfl rfl rfl rfl rfl rfl (Yld.move rfl rfl) ?_
     refine WQ.valG rfl rfl rfl rfl rfl rfl (Yld.indexAddr (i := i) rfl ty_sl_22 rfl rfl (by omega)) ?_
     refine WQ.valG rfl rfl rfl rfl rfl rfl (Yld.ld (v := kv[i].1) rfl ty_sc_46 rfl (vals_app hi spu)) ?_
     refine WQ.valG rfl rfl rfl rfl rfl rfl (Yld.str (e := 5) rfl (by kernel_rfl) (by kernel_rfl) (by kernel_rfl) rfl (hel7.mono (fun b o h => .inr h))) ?_
     refine WQ.valG rfl rfl rfl rfl rfl rfl (Yld.neqStr rfl rfl rfl false (by simp)) ?_
     refine WQ.val rfl rfl rfl (Yld.pickF rfl rfl rfl) ?_
     refine WQ.nil ?_
     refine WP.sub [(13, _), (14, _), (28, _), (30, _), (31, _), (32, _), (34, _), (35, _), (200, _), (210, _), (237, _)] ?_ ⟨rfl, rfl, rfl, rfl, rfl, rfl, rfl, rfl, rfl, rfl, rfl, trivial⟩
     refine WP.next ?_
     refine WP.condF rfl ?_
     refine WP.skip ?_
     refine WP.leave ?_
     refine WP.next ?_
     refine WP.region [0, 1, 2] rfl ?_
     refine WP.mv rfl rfl ?_
     refine WP.vl rfl (Yld.add64 rfl rfl rfl (by omega)) ?_
     refine WP.mv rfl rfl ?_
     refine WP.nil ?_
     refine WP.sub [(13, _), (14, _), (28, _), (30, _), (31, _), (32, _), (34, _), (35, _), (200, _), (210, _), (237, _)] ?_ ⟨rfl, rfl, rfl, rfl, rfl, rfl, rfl, rfl, rfl, rfl, rfl, trivial⟩
     exact WP.ag ⟨i + 1, P, xx, yy, zz, J7, L7⟩ ⟨(show i + 1 ≤ kv.length by omega), Imm.le_trans hJ hJ7, hl3⟩ (show kv.length - (i + 1) < kv.length - i by omega) ⟨rfl, rfl, rfl, rfl, trivial⟩ rfl
    ·refine WP.nil ?_
     refine WP.sub [(13, _), (14, _), (28, _), (30, _), (200, _)] ?_ ⟨rfl, rfl, rfl, rfl, rfl, trivial⟩
     refine WP.next ?_
     refine WP.condF rfl ?_
     refine WP.exit ?_
     refine WP.thenE ?_
     refine WP.thenE ?_
     refine WP.hit ?_
     refine WP.next ?_
     refine WP.seq ?_
     refine WP.region [0] rfl ?_
     refine WP.mv rfl rfl ?_
     refine WP.nil ?_
     refine WP.next ?_
     refine WP.ret ?_
     refine WP.fn .ret (.inr rfl) (res1 rfl rfl) [] (Imm.le_trans hJa (Imm.le_trans hJar (Imm.le_trans hJb hJ))) ?_
     exact ⟨rfl, rfl⟩


end Go.Hp
