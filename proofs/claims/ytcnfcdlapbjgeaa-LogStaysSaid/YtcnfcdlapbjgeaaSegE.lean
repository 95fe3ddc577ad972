import Derived.Test.YtcnfcdlapbjgeaaSegD
set_option linter.unusedVariables false
set_option linter.unusedSimpArgs false
namespace Go.Hp
open Go Go.Proofs

theorem num_rd {I : Imm} {v : Value} {c : List UInt8} (hc : SlRd (Im I) v c.length 1 (bytesV c)) {l h : Nat} (h1 : l ≤ h) (h2 : h ≤ c.length) (h3 : h - l ≤ 6) : Spec Try.prog 63 [subSl 1 l h v] I [] (fun v' J L => v' = .int .i64 (leN (cut c l h) : Int) ∧ I = J ∧ L = []) := by
 have hl : (cut c l h).length = h - l := cut_len h2
 have := leN_lt (cut c l h)
 have h4 : 2 ^ (8 * (cut c l h).length) ≤ 2 ^ 48 := Nat.pow_le_pow_right (by decide) (by omega)
 exact (super_number (bs := cut c l h) (by rw [hl]; exact sub_rd hc h1 h2) (by omega)).mono (by
  rintro v' J L _ ⟨rfl, rfl, rfl⟩
  exact ⟨by rw [bv_small (by omega)], rfl, rfl⟩)
def RPt (J : Imm) (p : Pt) (cs : List Value) : Prop := ∃ va, cs = ptV p va ∧ SlRd (Im J) va p.data.length 1 (bytesV p.data)
theorem RPt.mono {I J : Imm} {p : Pt} {cs : List Value} (h : RPt I p cs) (hJ : I.le J) : RPt J p cs := by
 obtain ⟨va, h1, h2⟩ := h; exact ⟨va, h1, h2.mono fun b o h => hJ.2 b o h⟩
theorem RPt.zero (J : Imm) : RPt J ptZ (ptV ptZ (.slice none 0 0)) := ⟨_, rfl, none, 0, rfl, Nat.le_refl _, rfl, .inl rfl⟩
def perr (o : Option Pt) : Int := if o.isSome = true then 0 else 70
theorem byteN_at {c : List UInt8} {i : Nat} (h : i < c.length) : ((c[i]).toNat : Int) = (byteN c i : Int) := by
 unfold byteN; rw [List.getD_eq_getElem?_getD, List.getElem?_eq_getElem h]; rfl
set_option maxHeartbeats 2000000 in
theorem seg_Decode_ok {I : Imm} {bs : List UInt8} {vb : Value} (hb : SlRd (fun b o => I.blk b = some o) vb bs.length 1 (bytesV bs)) (hbl : bs.length ≤ 140737488351232) (hm : (decP (strip bs 4)).may) : Spec Try.prog 55 [vb] I [] (fun v J L => ∃ cs, v = .tuple #[.agg cs.toArray, .int .i64 (perr (pdec bs))] ∧ RPt J ((pdec bs).getD ptZ) cs ∧ L = []) := by
 obtain ⟨Ab, cb, rfl, hcb0, _, _⟩ := id hb
 refine Spec.of Try.func55 rfl Try.ntmps55 (Nat.le_of_ble_eq_true rfl) (fun F => ?_)
 try simp only [nf]
 dsimp only [argsEnv]
 refine WP.seq ?_
 refine WP.region [0, 1] rfl ?_
 refine WP.loud rfl rfl ?_
 refine Op.alloc rfl rfl rfl ty_zr_52 (fun b2 => ?_)
 refine WP.mv rfl rfl ?_
 refine WP.nil ?_
 refine WP.next ?_
 refine WP.seq ?_
 refine WP.seq ?_
 refine WP.region [0, 1, 2] rfl ?_
 refine WP.mv rfl rfl ?_
 refine WP.vl rfl (Yld.lenR hb rfl ty_sl_46 rfl) ?_
 refine WP.split rfl rfl rfl rfl (Yld.neq rfl rfl rfl) (fun hl => ?_) (fun hl => ?_)
 ·refine WP.nil ?_
  refine WP.sub [(0, _), (2, _), (3, _), (13, _)] ?_ ⟨rfl, rfl, rfl, rfl, trivial⟩
  refine WP.next ?_
  refine WP.condT rfl ?_
  refine WP.seq ?_
  refine WP.region [0, 1, 2] rfl ?_
  refine WP.vl rfl (Yld.buildS (pl := []) rfl ty_zr_52 ty_zd_52 (by kernel_rfl) rfl (vs := []) rfl (segs := []) rfl rfl (by repeat (first | exact SetSeg.nil | apply SetSeg.one | exact SetAt.zero | apply SetAt.succ))) ?_
  refine WP.loud rfl rfl ?_
  refine Op.sA rfl rfl ty_sz_52 rfl rfl rfl rfl rfl ?_
  refine WP.mv rfl rfl ?_
  refine WP.nil ?_
  refine WP.sub [(0, _), (2, _), (3, _), (13, _)] ?_ ⟨rfl, rfl, rfl, rfl, trivial⟩
  refine WP.next ?_
  refine WP.ret ?_
  refine WP.fn .ret (.inr rfl) (resT (rs := [.cell 2 52, .tmp 3]) (vs := [_, _]) rfl ⟨⟨_, _, _, _, rfl, (by repeat (first | exact There.h | exact There.i (by assumption) | apply There.t | apply There.s)), .inl ⟨ty_ag_52, by rfl, rfl⟩⟩, rfl, trivial⟩ rfl) [] (Imm.le_refl _) ?_
  have hn : pdec bs = none := pdec_none (fun h => (by have := h.1; omega))
  rw [hn]; exact ⟨_, rfl, RPt.zero _, rfl⟩
 ·have hl : bs.length = 256 := by omega
  refine WP.nil ?_
  refine WP.sub [(0, _), (2, _), (3, _), (13, _)] ?_ ⟨rfl, rfl, rfl, rfl, trivial⟩
  refine WP.next ?_
  refine WP.condF rfl ?_
  refine WP.skip ?_
  refine WP.next ?_
  refine WP.seq ?_
  refine WP.region [0] rfl ?_
  refine WP.mv rfl rfl ?_
  refine WP.nil ?_
  refine WP.next ?_
  refine WP.seq ?_
  refine WP.seq ?_
  refine WP.region [0] rfl ?_
  refine WP.mv rfl rfl ?_
  refine WP.nil ?_
  refine WP.next ?_
  refine WP.block ?_
  refine WP.loop (X := Nat × Value × Chunks) (fun u : Nat × Value × Chunks => [(0, .slice Ab bs.length cb), (2, .pointer (some ⟨b2, 0, none⟩)), (4, u.2.1), (15, .int .i64 (u.1 : Int))]) (fun _ => I) (fun u : Nat × Value × Chunks => (b2, row 52 (ptV ptZ (.slice none 0 0))) :: (u.2.2 ++ F)) (fun u : Nat × Value × Chunks => u.1 ≤ 4 ∧ Own 5 1 u.2.1 (bytesV (strip bs u.1)) (strip bs u.1).length u.2.2) (fun u : Nat × Value × Chunks => 4 - u.1) (0, .slice none 0 0, []) ⟨Nat.zero_le _, .none0⟩ ⟨rfl, rfl, rfl, rfl, trivial⟩ rfl (by (try dsimp only); repeat (first | exact Rm.chunk | exact Rm.here | exact Rm.nil0 | apply Rm.skip | apply Rm.skipS | apply PX.cons | (apply PX.done; (repeat (first | exact Leave.done | apply Leave.drop | apply Leave.dropS)); done) | apply PX.app)) ?_
  rintro ⟨i, vo, Lo⟩ ⟨hi4, hout⟩; dsimp only at hi4 hout
  try dsimp only
  try simp only [nf]
  refine WP.seq ?_
  refine WP.region [0] rfl ?_
  refine WP.split rfl rfl rfl rfl (Yld.lss rfl rfl rfl) (fun hlt => ?_) (fun hlt => ?_)
  ·have hi : i < 4 := by omega
   have hsl := strip_len hl i (by omega)
   have hsub := sub_rd hb (l := i * 64) (k := (i + 1) * 64) (by omega) (by omega)
   have hsub3 := SlRd.sub3 hsub (h := 56) (by omega)
   have hc64 : (cut bs (i * 64) ((i + 1) * 64)).length = 64 := by rw [cut_len (by omega)]; omega
   rw [bytesV_take, show 56 * 1 = 56 from rfl] at hsub3
   refine WP.nil ?_
   refine WP.next ?_
   refine WP.seq ?_
   refine WP.condT rfl ?_
   refine WP.skip ?_
   refine WP.next ?_
   refine WP.seq ?_
   refine WP.block ?_
   refine WP.seq ?_
   refine WP.region [0, 1] rfl ?_
   iterate 2 refine WP.mv rfl rfl ?_
   refine WP.nil ?_
   refine WP.sub [(0, _), (2, _), (4, _), (5, _), (15, _), (16, _)] ?_ ⟨rfl, rfl, rfl, rfl, rfl, rfl, trivial⟩
   refine WP.next ?_
   refine WP.seq ?_
   refine WP.region [0, 1, 2, 3, 4, 5, 6, 7] rfl ?_
   iterate 2 refine WP.mv rfl rfl ?_
   refine WP.vl rfl (Yld.mul64 rfl rfl rfl (by omega)) ?_
   refine WP.mv rfl rfl ?_
   refine WP.vl rfl (Yld.add64 rfl rfl rfl (by omega)) ?_
   refine WP.vl rfl (Yld.mul64 rfl rfl rfl (by omega)) ?_
   refine WP.vl rfl (Yld.sliceR (l := i * 64) (h := (i + 1) * 64) hb rfl ty_sl_46 rfl (Env.limS (n := i * 64) (congrArg (fun z : Int => some (Value.int .i64 z)) (by omega))) (Env.limS (n := (i + 1) * 64) (congrArg (fun z : Int => some (Value.int .i64 z)) (by omega))) (by omega) (by omega)) ?_
   refine WP.mv rfl rfl ?_
   refine WP.nil ?_
   refine WP.sub [(0, _), (2, _), (4, _), (5, _), (6, _), (15, _), (16, _)] ?_ ⟨rfl, rfl, rfl, rfl, rfl, rfl, rfl, trivial⟩
   refine WP.next ?_
   refine WP.region [0, 1, 2, 3, 4] rfl ?_
   iterate 2 refine WP.mv rfl rfl ?_
   refine WP.vl rfl (Yld.slice3 (h := 56) rfl ty_sl_46 rfl rfl rfl (by omega)) ?_
   refine WP.loud rfl rfl ?_
   refine Op.append (m := 56) rfl ty_sl_46 ty_el_46 rfl rfl rfl rfl rfl hout (hsub3.mono (fun b o h => There.i h)) (by repeat (first | exact Take.nil | with_reducible apply Take.cons | apply Take.app | exact Rm.chunk | exact Rm.here | exact Rm.nil0 | apply Rm.skip | apply Rm.skipS | (focus (apply Take.all; (repeat (first | exact Rm.chunk | exact Rm.here | exact Rm.nil0 | apply Rm.skip | apply Rm.skipS)); done)) | apply Take.cons)) (bytesV_one _) (by omega) (by omega) (fun vn Ln hn => ?_)
   try simp only [nf]
   have hnew : Own 5 1 vn (bytesV (strip bs (i + 1))) (strip bs (i + 1)).length Ln := by have e : (strip bs (i + 1)).length = (strip bs i).length + 56 := (by rw [strip, List.length_append, List.length_take, hc64]; rfl); rw [e, strip, bytesV_app]; exact hn
   refine WP.mv rfl rfl ?_
   refine WP.nil ?_
   refine WP.sub [(0, _), (2, _), (4, _), (5, _), (6, _), (15, _), (16, _)] ?_ ⟨rfl, rfl, rfl, rfl, rfl, rfl, rfl, trivial⟩
   refine WP.leave ?_
   refine WP.next ?_
   refine WP.region [0, 1] rfl ?_
   refine WP.vl rfl (Yld.add64 rfl rfl rfl (by omega)) ?_
   refine WP.mv rfl rfl ?_
   refine WP.nil ?_
   refine WP.sub [(0, _), (2, _), (4, _), (5, _), (6, _), (15, _), (16, _)] ?_ ⟨rfl, rfl, rfl, rfl, rfl, rfl, rfl, trivial⟩
   exact WP.ag (i + 1, vn, Ln) ⟨(show i + 1 ≤ 4 by omega), hnew⟩ (show 4 - (i + 1) < 4 - i by omega) ⟨rfl, rfl, rfl, rfl, trivial⟩ rfl
  ·obtain rfl : i = 4 := by omega
   refine WP.nil ?_
   refine WP.next ?_
   refine WP.seq ?_
   refine WP.condF rfl ?_
   refine WP.exit ?_
   refine WP.thenE ?_
   refine WP.thenE ?_
   refine WP.hit ?_
   refine WP.next ?_
   refine WP.seq ?_
   have hcl := strip_len hl 4 (by omega)
   refine WP.shO hout (fun J1 hJ1 hc => ?_)
   have hb := hb.mono (fun b o h => hJ1.2 b o h)
   refine WP.region [0, 1, 2, 3] rfl ?_
   refine WP.mv rfl rfl ?_
   refine WP.vl rfl (Yld.sliceR (l := 4) (h := 6) hc rfl ty_sl_46 rfl (Env.limS (n := 4) rfl) (Env.limS (n := 6) rfl) (by omega) (by omega)) ?_
   refine WP.loud rfl rfl ?_
   refine Op.cl (num_rd hc (by omega) (by omega) (by omega)) rfl Try.func63 rfl rfl rfl rfl ?_
   rintro v J L1 - ⟨rfl, rfl, rfl⟩
   try simp only [nf]
   refine WP.mv rfl rfl ?_
   refine WP.nil ?_
   refine WP.sub [(0, _), (2, _), (4, _), (7, _), (15, _), (16, _)] ?_ ⟨rfl, rfl, rfl, rfl, rfl, rfl, trivial⟩
   refine WP.next ?_
   refine WP.seq ?_
   refine WP.seq ?_
   refine WP.region [0, 1] rfl ?_
   refine WP.mv rfl rfl ?_
   refine WP.split rfl rfl rfl rfl (Yld.gtr rfl rfl rfl) (fun hmany => ?_) (fun hmany => ?_)
   ·refine WP.nil ?_
    refine WP.sub [(0, _), (2, _), (4, _), (7, _), (15, _), (16, _), (34, _)] ?_ ⟨rfl, rfl, rfl, rfl, rfl, rfl, rfl, trivial⟩
    refine WP.next ?_
    refine WP.condT rfl ?_
    refine WP.seq ?_
    refine WP.region [0, 1, 2] rfl ?_
    refine WP.vl rfl (Yld.buildS (pl := []) rfl ty_zr_52 ty_zd_52 (by kernel_rfl) rfl (vs := []) rfl (segs := []) rfl rfl (by repeat (first | exact SetSeg.nil | apply SetSeg.one | exact SetAt.zero | apply SetAt.succ))) ?_
    refine WP.loud rfl rfl ?_
    refine Op.sA rfl rfl ty_sz_52 rfl rfl rfl rfl rfl ?_
    refine WP.mv rfl rfl ?_
    refine WP.nil ?_
    refine WP.sub [(0, _), (2, _), (3, _), (4, _), (7, _), (15, _), (16, _), (34, _)] ?_ ⟨rfl, rfl, rfl, rfl, rfl, rfl, rfl, rfl, trivial⟩
    refine WP.next ?_
    refine WP.ret ?_
    refine WP.fn .ret (.inr rfl) (resT (rs := [.cell 2 52, .tmp 3]) (vs := [_, _]) rfl ⟨⟨_, _, _, _, rfl, (by repeat (first | exact There.h | exact There.i (by assumption) | apply There.t | apply There.s)), .inl ⟨ty_ag_52, by rfl, rfl⟩⟩, rfl, trivial⟩ rfl) [] hJ1 ?_
    have hn : pdec bs = none := pdec_none (fun h => (by have := h.2.1; unfold pmany at this; omega))
    rw [hn]; exact ⟨_, rfl, RPt.zero _, rfl⟩
   ·have hmany : pmany (strip bs 4) ≤ 198 := by unfold pmany; omega
    obtain ⟨bc, kc, cc, Tc, frc, arrc, rfl, hcc, hcb, hcd⟩ := hc.get (by omega)
    have e2 := take_cells hcd 2 (byteV (strip bs 4)[2]) (by simp [bytesV, hcl]) (by rw [bytesV_len]; omega)
    have e3 := take_cells hcd 3 (byteV (strip bs 4)[3]) (by simp [bytesV, hcl]) (by rw [bytesV_len]; omega)
    rw [Array.getElem?_toList] at e2 e3
    refine WP.nil ?_
    refine WP.sub [(0, _), (2, _), (4, _), (7, _), (15, _), (16, _), (34, _)] ?_ ⟨rfl, rfl, rfl, rfl, rfl, rfl, rfl, trivial⟩
    refine WP.next ?_
    refine WP.condF rfl ?_
    refine WP.skip ?_
    refine WP.next ?_
    refine WP.seq ?_
    refine WD.start Trymixed 24 (fun b o => J1.blk b = some o) (fun _ _ => False) (fun b o h => There.i h) (fun _ _ h => h.elim) 25 [false, false, false, false, false, false, false, false, false, false, false, false, false, false, false, false, false, false, false, false, false, false, false, false, false] rfl rfl ?_
    refine WD.val (i := 0) rfl rfl rfl rfl (by kernel_rfl) rfl (Yld.move rfl rfl) ?_
    refine WD.val (i := 1) rfl rfl rfl rfl (by kernel_rfl) rfl (Yld.indexAddr (i := 2) rfl ty_sl_46 rfl rfl (by omega)) ?_
    refine WD.val1 (i := 2) rfl rfl rfl rfl (by kernel_rfl) rfl (by kernel_rfl) (Yld.loadC rfl ty_sc_5 rfl (.inl hcb) e2) ?_
    refine WD.val (i := 3) rfl rfl rfl rfl (by kernel_rfl) rfl (Yld.conv64 rfl ty_un_5 ty_ik_3 rfl (by have := ((strip bs 4)[2]).toNat_lt; omega)) ?_
    rw [byteN_at (c := (strip bs 4)) (i := 2) (by omega)]
    refine WD.val (i := 4) rfl rfl rfl rfl (by kernel_rfl) rfl (Yld.move rfl rfl) ?_
    refine WD.val (i := 5) rfl rfl rfl rfl (by kernel_rfl) rfl (Yld.indexAddr (i := 3) rfl ty_sl_46 rfl rfl (by omega)) ?_
    refine WD.val1 (i := 6) rfl rfl rfl rfl (by kernel_rfl) rfl (by kernel_rfl) (Yld.loadC rfl ty_sc_5 rfl (.inl hcb) e3) ?_
    refine WD.val (i := 7) rfl rfl rfl rfl (by kernel_rfl) rfl (Yld.conv64 rfl ty_un_5 ty_ik_3 rfl (by have := ((strip bs 4)[3]).toNat_lt; omega)) ?_
    rw [byteN_at (c := (strip bs 4)) (i := 3) (by omega)]
    refine WD.val (i := 8) rfl rfl rfl rfl (by kernel_rfl) rfl (Yld.move rfl rfl) ?_
    refine WD.val (i := 9) rfl rfl rfl rfl (by kernel_rfl) rfl (Yld.sliceR (l := 6) (h := 12) hc rfl ty_sl_46 rfl (Env.limS (n := 6) rfl) (Env.limS (n := 12) rfl) (by omega) (by omega)) ?_
    refine WD.val (i := 11) rfl rfl rfl rfl (by kernel_rfl) rfl (Yld.move rfl rfl) ?_
    refine WD.val (i := 12) rfl rfl rfl rfl (by kernel_rfl) rfl (Yld.sliceR (l := 12) (h := 18) hc rfl ty_sl_46 rfl (Env.limS (n := 12) rfl) (Env.limS (n := 18) rfl) (by omega) (by omega)) ?_
    refine WD.val (i := 14) rfl rfl rfl rfl (by kernel_rfl) rfl (Yld.move rfl rfl) ?_
    refine WD.val (i := 15) rfl rfl rfl rfl (by kernel_rfl) rfl (Yld.sliceR (l := 18) (h := 22) hc rfl ty_sl_46 rfl (Env.limS (n := 18) rfl) (Env.limS (n := 22) rfl) (by omega) (by omega)) ?_
    refine WD.val (i := 17) rfl rfl rfl rfl (by kernel_rfl) rfl (Yld.move rfl rfl) ?_
    refine WD.val (i := 18) rfl rfl rfl rfl (by kernel_rfl) rfl (Yld.move rfl rfl) ?_
    refine WD.val (i := 19) rfl rfl rfl rfl (by kernel_rfl) rfl (Yld.add64 rfl rfl rfl (by unfold pmany at hmany; omega)) ?_
    refine WD.val (i := 20) rfl rfl rfl rfl (by kernel_rfl) rfl (Yld.sliceR (l := 22) (h := 22 + pmany (strip bs 4)) hc rfl ty_sl_46 rfl (Env.limS (n := 22) rfl) (Env.limS (n := 22 + pmany (strip bs 4)) (congrArg (fun z : Int => some (Value.int .i64 z)) (by unfold pmany; omega))) (by omega) (by omega)) ?_
    refine WD.both (i := 10) (j := 23) (by kernel_rfl) rfl rfl ?_ ?_
    ·refine WP.oper rfl rfl ?_
     refine Op.cl (num_rd hc (by omega) (by omega) (by omega)) rfl Try.func63 rfl rfl rfl rfl ?_
     rintro v J L1 - ⟨rfl, rfl, rfl⟩
     try simp only [nf]
     refine WD.go (.inr (fun b o h => There.i h)) (fun _ _ h => h.elim) ?_
     refine WD.both (i := 13) (j := 23) (by kernel_rfl) rfl rfl ?_ ?_
     ·refine WP.oper rfl rfl ?_
      refine Op.cl (num_rd hc (by omega) (by omega) (by omega)) rfl Try.func63 rfl rfl rfl rfl ?_
      rintro v J L1 - ⟨rfl, rfl, rfl⟩
      try simp only [nf]
      refine WD.go (.inr (fun b o h => There.i h)) (fun _ _ h => h.elim) ?_
      refine WD.both (i := 16) (j := 23) (by kernel_rfl) rfl rfl ?_ ?_
      ·refine WP.oper rfl rfl ?_
       refine Op.cl (num_rd hc (by omega) (by omega) (by omega)) rfl Try.func63 rfl rfl rfl rfl ?_
       rintro v J L1 - ⟨rfl, rfl, rfl⟩
       try simp only [nf]
       refine WD.go (.inr (fun b o h => There.i h)) (fun _ _ h => h.elim) ?_
       refine WD.both (i := 21) (j := 23) (by kernel_rfl) rfl rfl ?_ ?_
       ·refine WP.oper rfl rfl ?_
        refine Op.cl (slices_Clone (bs := cut (strip bs 4) 22 (22 + pmany (strip bs 4))) (by rw [cut_len (by omega)]; exact sub_rd hc (by omega) (by omega)) (by rw [cut_len (by omega)]; omega)) rfl Try.func36 rfl rfl rfl rfl ?_
        rintro v J Lc - ⟨rfl, hcn⟩
        try simp only [nf]
        obtain ⟨Ad, cd, rfl, _⟩ := hcn.slice
        refine WD.go (.inr (fun b o h => There.i h)) (fun _ _ h => h.elim) ?_
        refine WD.val (i := 22) rfl rfl rfl rfl (by kernel_rfl) rfl (Yld.buildS (pl := [(4, 4, 1), (2, 2, 1), (1, 1, 1), (0, 0, 1), (3, 3, 1), (5, 5, 1)]) rfl ty_zr_52 ty_zd_52 (by kernel_rfl) rfl (vs := [_, _, _, _, _, _]) rfl (segs := [(4, [_]), (2, [_]), (1, [_]), (0, [_]), (3, [_]), (5, [_])]) rfl rfl (by repeat (first | exact SetSeg.nil | apply SetSeg.one | exact SetAt.zero | apply SetAt.succ))) ?_
        refine WD.loud (i := 23) (by kernel_rfl) rfl rfl rfl ?_
        refine Op.alloc rfl rfl rfl ty_zr_52 (fun b8 => ?_)
        refine WD.go (.inr (fun b o h => There.i h)) (fun _ _ h => h.elim) ?_
        refine WD.loud (i := 24) (by kernel_rfl) rfl rfl rfl ?_
        refine Op.sA rfl rfl ty_sz_52 rfl rfl rfl rfl rfl ?_
        refine WD.go (.inl rfl) (fun _ _ h => h.elim) ?_
        refine WD.done (by kernel_rfl) ?_
        refine WP.sub [(0, _), (2, _), (4, _), (7, _), (8, _), (15, _), (16, _), (34, _)] ?_ ⟨rfl, rfl, rfl, rfl, rfl, rfl, rfl, rfl, trivial⟩
        refine WP.shO hcn (fun J2 hJ2 hd => ?_)
        have hb := hb.mono (fun b o h => hJ2.2 b o h)
        refine WP.next ?_
        refine WP.seq ?_
        refine WP.seq ?_
        refine WP.region [0, 1, 2, 3, 4, 5, 6] rfl ?_
        refine WP.vl rfl (Yld.lda rfl ty_ag_52 rfl rfl) ?_
        refine WP.loud rfl rfl ?_
        refine Op.cl (seg_Encode_ok (p := (decP (strip bs 4))) hd hm) rfl Try.func64 rfl rfl rfl rfl ?_
        rintro v J3 Lo2 hJ3 ⟨va, rfl, ho⟩
        try simp only [nf]
        refine WP.mv rfl rfl ?_
        refine WP.vl rfl (Yld.extract rfl rfl rfl) ?_
        refine WP.vl rfl (Yld.extract rfl rfl rfl) ?_
        iterate 2 refine WP.mv rfl rfl ?_
        refine WP.nil ?_
        refine WP.sub [(0, _), (2, _), (4, _), (7, _), (8, _), (9, _), (10, _), (15, _), (16, _), (34, _)] ?_ ⟨rfl, rfl, rfl, rfl, rfl, rfl, rfl, rfl, rfl, rfl, trivial⟩
        refine WP.next ?_
        refine WP.seq ?_
        refine WP.shO ho (fun J4 hJ4 hagain => ?_)
        have hb := (hb.mono (fun b o h => hJ3.2 b o h)).mono (fun b o h => hJ4.2 b o h)
        have hd := (hd.mono (fun b o h => hJ3.2 b o h)).mono (fun b o h => hJ4.2 b o h)
        refine WP.region [0, 1, 2, 3, 4, 5, 6, 7] rfl ?_
        refine WP.mv rfl rfl ?_
        refine WP.vl rfl (Yld.neq rfl rfl rfl false (decide_eq_false (by omega))) ?_
        refine WP.mv rfl rfl ?_
        refine WP.valG rfl rfl rfl rfl rfl rfl rfl (Yld.move rfl rfl) ?_
        refine WP.valG rfl rfl rfl rfl rfl rfl rfl (Yld.move rfl rfl) ?_
        refine WP.loudG rfl rfl rfl rfl rfl ?_
        refine Op.cl (bytes_Equal (a := penc (decP (strip bs 4))) (b := bs) hagain hb) rfl Try.func65 rfl rfl rfl rfl ?_
        rintro v J L1 - ⟨rfl, rfl, rfl⟩
        try simp only [nf]
        by_cases hq : (decide (penc (decP (strip bs 4)) = bs)) = true
        ·rw [hq]
         refine WP.valG rfl rfl rfl rfl rfl rfl rfl (Yld.not rfl rfl) ?_
         refine WP.vl rfl (Yld.pickF rfl rfl rfl) ?_
         refine WP.nil ?_
         refine WP.sub [(0, _), (2, _), (4, _), (7, _), (8, _), (9, _), (10, _), (15, _), (16, _), (34, _), (71, _)] ?_ ⟨rfl, rfl, rfl, rfl, rfl, rfl, rfl, rfl, rfl, rfl, rfl, trivial⟩
         refine WP.next ?_
         refine WP.condF rfl ?_
         refine WP.skip ?_
         refine WP.next ?_
         refine WP.seq ?_
         refine WP.region [0, 1, 2] rfl ?_
         refine WP.vl rfl (Yld.lda rfl ty_ag_52 rfl rfl) ?_
         refine WP.loud rfl rfl ?_
         refine Op.sA rfl rfl ty_sz_52 rfl rfl rfl rfl rfl ?_
         refine WP.mv rfl rfl ?_
         refine WP.nil ?_
         refine WP.sub [(0, _), (2, _), (3, _), (4, _), (7, _), (8, _), (9, _), (10, _), (15, _), (16, _), (34, _), (71, _)] ?_ ⟨rfl, rfl, rfl, rfl, rfl, rfl, rfl, rfl, rfl, rfl, rfl, rfl, trivial⟩
         refine WP.next ?_
         refine WP.ret ?_
         refine WP.fn .ret (.inr rfl) (resT (rs := [.cell 2 52, .tmp 3]) (vs := [_, _]) rfl ⟨⟨_, _, _, _, rfl, (by repeat (first | exact There.h | exact There.i (by assumption) | apply There.t | apply There.s)), .inl ⟨ty_ag_52, by rfl, rfl⟩⟩, rfl, trivial⟩ rfl) [] (Imm.le_trans hJ1 (Imm.le_trans hJ2 (Imm.le_trans hJ3 hJ4))) ?_
         have hs : pdec bs = some (decP (strip bs 4)) := pdec_some ⟨hl, hmany, hm, of_decide_eq_true hq⟩
         rw [hs]; exact ⟨_, rfl, ⟨_, rfl, hd⟩, rfl⟩
        ·have hq : (decide (penc (decP (strip bs 4)) = bs)) = false := eq_false_of_ne_true hq
         rw [hq]
         refine WP.valG rfl rfl rfl rfl rfl rfl rfl (Yld.not rfl rfl) ?_
         refine WP.vl rfl (Yld.pickF rfl rfl rfl) ?_
         refine WP.nil ?_
         refine WP.sub [(0, _), (2, _), (4, _), (7, _), (8, _), (9, _), (10, _), (15, _), (16, _), (34, _), (71, _)] ?_ ⟨rfl, rfl, rfl, rfl, rfl, rfl, rfl, rfl, rfl, rfl, rfl, trivial⟩
         refine WP.next ?_
         refine WP.condT rfl ?_
         refine WP.seq ?_
         refine WP.region [0, 1, 2] rfl ?_
         refine WP.vl rfl (Yld.buildS (pl := []) rfl ty_zr_52 ty_zd_52 (by kernel_rfl) rfl (vs := []) rfl (segs := []) rfl rfl (by repeat (first | exact SetSeg.nil | apply SetSeg.one | exact SetAt.zero | apply SetAt.succ))) ?_
         refine WP.loud rfl rfl ?_
         refine Op.sA rfl rfl ty_sz_52 rfl rfl rfl rfl rfl ?_
         refine WP.mv rfl rfl ?_
         refine WP.nil ?_
         refine WP.sub [(0, _), (2, _), (3, _), (4, _), (7, _), (8, _), (9, _), (10, _), (15, _), (16, _), (34, _), (71, _)] ?_ ⟨rfl, rfl, rfl, rfl, rfl, rfl, rfl, rfl, rfl, rfl, rfl, rfl, trivial⟩
         refine WP.next ?_
         refine WP.ret ?_
         refine WP.fn .ret (.inr rfl) (resT (rs := [.cell 2 52, .tmp 3]) (vs := [_, _]) rfl ⟨⟨_, _, _, _, rfl, (by repeat (first | exact There.h | exact There.i (by assumption) | apply There.t | apply There.s)), .inl ⟨ty_ag_52, by rfl, rfl⟩⟩, rfl, trivial⟩ rfl) [] (Imm.le_trans hJ1 (Imm.le_trans hJ2 (Imm.le_trans hJ3 hJ4))) ?_
         have hn : pdec bs = none := pdec_none (fun h => (of_decide_eq_false hq) h.2.2.2)
         rw [hn]; exact ⟨_, rfl, RPt.zero _, rfl⟩
       ·refine WP.oper rfl rfl ?_
        refine Op.alloc rfl rfl rfl ty_zr_52 (fun b8 => ?_)
        refine WD.go (.inr (fun b o h => There.i h)) (fun _ _ h => h.elim) ?_
        refine WD.loud (i := 21) (by kernel_rfl) rfl rfl rfl ?_
        refine Op.cl (slices_Clone (bs := cut (strip bs 4) 22 (22 + pmany (strip bs 4))) (by rw [cut_len (by omega)]; exact sub_rd hc (by omega) (by omega)) (by rw [cut_len (by omega)]; omega)) rfl Try.func36 rfl rfl rfl rfl ?_
        rintro v J Lc - ⟨rfl, hcn⟩
        try simp only [nf]
        obtain ⟨Ad, cd, rfl, _⟩ := hcn.slice
        refine WD.go (.inr (fun b o h => There.i h)) (fun _ _ h => h.elim) ?_
        refine WD.val (i := 22) rfl rfl rfl rfl (by kernel_rfl) rfl (Yld.buildS (pl := [(4, 4, 1), (2, 2, 1), (1, 1, 1), (0, 0, 1), (3, 3, 1), (5, 5, 1)]) rfl ty_zr_52 ty_zd_52 (by kernel_rfl) rfl (vs := [_, _, _, _, _, _]) rfl (segs := [(4, [_]), (2, [_]), (1, [_]), (0, [_]), (3, [_]), (5, [_])]) rfl rfl (by repeat (first | exact SetSeg.nil | apply SetSeg.one | exact SetAt.zero | apply SetAt.succ))) ?_
        refine WD.loud (i := 24) (by kernel_rfl) rfl rfl rfl ?_
        refine Op.sA rfl rfl ty_sz_52 rfl rfl rfl rfl rfl ?_
        refine WD.go (.inl rfl) (fun _ _ h => h.elim) ?_
        refine WD.done (by kernel_rfl) ?_
        refine WP.sub [(0, _), (2, _), (4, _), (7, _), (8, _), (15, _), (16, _), (34, _)] ?_ ⟨rfl, rfl, rfl, rfl, rfl, rfl, rfl, rfl, trivial⟩
        refine WP.shO hcn (fun J2 hJ2 hd => ?_)
        have hb := hb.mono (fun b o h => hJ2.2 b o h)
        refine WP.next ?_
        refine WP.seq ?_
        refine WP.seq ?_
        refine WP.region [0, 1, 2, 3, 4, 5, 6] rfl ?_
        refine WP.vl rfl (Yld.lda rfl ty_ag_52 rfl rfl) ?_
        refine WP.loud rfl rfl ?_
        refine Op.cl (seg_Encode_ok (p := (decP (strip bs 4))) hd hm) rfl Try.func64 rfl rfl rfl rfl ?_
        rintro v J3 Lo2 hJ3 ⟨va, rfl, ho⟩
        try simp only [nf]
        refine WP.mv rfl rfl ?_
        refine WP.vl rfl (Yld.extract rfl rfl rfl) ?_
        refine WP.vl rfl (Yld.extract rfl rfl rfl) ?_
        iterate 2 refine WP.mv rfl rfl ?_
        refine WP.nil ?_
        refine WP.sub [(0, _), (2, _), (4, _), (7, _), (8, _), (9, _), (10, _), (15, _), (16, _), (34, _)] ?_ ⟨rfl, rfl, rfl, rfl, rfl, rfl, rfl, rfl, rfl, rfl, trivial⟩
        refine WP.next ?_
        refine WP.seq ?_
        refine WP.shO ho (fun J4 hJ4 hagain => ?_)
        have hb := (hb.mono (fun b o h => hJ3.2 b o h)).mono (fun b o h => hJ4.2 b o h)
        have hd := (hd.mono (fun b o h => hJ3.2 b o h)).mono (fun b o h => hJ4.2 b o h)
        refine WP.region [0, 1, 2, 3, 4, 5, 6, 7] rfl ?_
        refine WP.mv rfl rfl ?_
        refine WP.vl rfl (Yld.neq rfl rfl rfl false (decide_eq_false (by omega))) ?_
        refine WP.mv rfl rfl ?_
        refine WP.valG rfl rfl rfl rfl rfl rfl rfl (Yld.move rfl rfl) ?_
        refine WP.valG rfl rfl rfl rfl rfl rfl rfl (Yld.move rfl rfl) ?_
        refine WP.loudG rfl rfl rfl rfl rfl ?_
        refine Op.cl (bytes_Equal (a := penc (decP (strip bs 4))) (b := bs) hagain hb) rfl Try.func65 rfl rfl rfl rfl ?_
        rintro v J L1 - ⟨rfl, rfl, rfl⟩
        try simp only [nf]
        by_cases hq : (decide (penc (decP (strip bs 4)) = bs)) = true
        ·rw [hq]
         refine WP.valG rfl rfl rfl rfl rfl rfl rfl (Yld.not rfl rfl) ?_
         refine WP.vl rfl (Yld.pickF rfl rfl rfl) ?_
         refine WP.nil ?_
         refine WP.sub [(0, _), (2, _), (4, _), (7, _), (8, _), (9, _), (10, _), (15, _), (16, _), (34, _), (71, _)] ?_ ⟨rfl, rfl, rfl, rfl, rfl, rfl, rfl, rfl, rfl, rfl, rfl, trivial⟩
         refine WP.next ?_
         refine WP.condF rfl ?_
         refine WP.skip ?_
         refine WP.next ?_
         refine WP.seq ?_
         refine WP.region [0, 1, 2] rfl ?_
         refine WP.vl rfl (Yld.lda rfl ty_ag_52 rfl rfl) ?_
         refine WP.loud rfl rfl ?_
         refine Op.sA rfl rfl ty_sz_52 rfl rfl rfl rfl rfl ?_
         refine WP.mv rfl rfl ?_
         refine WP.nil ?_
         refine WP.sub [(0, _), (2, _), (3, _), (4, _), (7, _), (8, _), (9, _), (10, _), (15, _), (16, _), (34, _), (71, _)] ?_ ⟨rfl, rfl, rfl, rfl, rfl, rfl, rfl, rfl, rfl, rfl, rfl, rfl, trivial⟩
         refine WP.next ?_
         refine WP.ret ?_
         refine WP.fn .ret (.inr rfl) (resT (rs := [.cell 2 52, .tmp 3]) (vs := [_, _]) rfl ⟨⟨_, _, _, _, rfl, (by repeat (first | exact There.h | exact There.i (by assumption) | apply There.t | apply There.s)), .inl ⟨ty_ag_52, by rfl, rfl⟩⟩, rfl, trivial⟩ rfl) [] (Imm.le_trans hJ1 (Imm.le_trans hJ2 (Imm.le_trans hJ3 hJ4))) ?_
         have hs : pdec bs = some (decP (strip bs 4)) := pdec_some ⟨hl, hmany, hm, of_decide_eq_true hq⟩
         rw [hs]; exact ⟨_, rfl, ⟨_, rfl, hd⟩, rfl⟩
        ·have hq : (decide (penc (decP (strip bs 4)) = bs)) = false := eq_false_of_ne_true hq
         rw [hq]
         refine WP.valG rfl rfl rfl rfl rfl rfl rfl (Yld.not rfl rfl) ?_
         refine WP.vl rfl (Yld.pickF rfl rfl rfl) ?_
         refine WP.nil ?_
         refine WP.sub [(0, _), (2, _), (4, _), (7, _), (8, _), (9, _), (10, _), (15, _), (16, _), (34, _), (71, _)] ?_ ⟨rfl, rfl, rfl, rfl, rfl, rfl, rfl, rfl, rfl, rfl, rfl, trivial⟩
         refine WP.next ?_
         refine WP.condT rfl ?_
         refine WP.seq ?_
         refine WP.region [0, 1, 2] rfl ?_
         refine WP.vl rfl (Yld.buildS (pl := []) rfl ty_zr_52 ty_zd_52 (by kernel_rfl) rfl (vs := []) rfl (segs := []) rfl rfl (by repeat (first | exact SetSeg.nil | apply SetSeg.one | exact SetAt.zero | apply SetAt.succ))) ?_
         refine WP.loud rfl rfl ?_
         refine Op.sA rfl rfl ty_sz_52 rfl rfl rfl rfl rfl ?_
         refine WP.mv rfl rfl ?_
         refine WP.nil ?_
         refine WP.sub [(0, _), (2, _), (3, _), (4, _), (7, _), (8, _), (9, _), (10, _), (15, _), (16, _), (34, _), (71, _)] ?_ ⟨rfl, rfl, rfl, rfl, rfl, rfl, rfl, rfl, rfl, rfl, rfl, rfl, trivial⟩
         refine WP.next ?_
         refine WP.ret ?_
         refine WP.fn .ret (.inr rfl) (resT (rs := [.cell 2 52, .tmp 3]) (vs := [_, _]) rfl ⟨⟨_, _, _, _, rfl, (by repeat (first | exact There.h | exact There.i (by assumption) | apply There.t | apply There.s)), .inl ⟨ty_ag_52, by rfl, rfl⟩⟩, rfl, trivial⟩ rfl) [] (Imm.le_trans hJ1 (Imm.le_trans hJ2 (Imm.le_trans hJ3 hJ4))) ?_
         have hn : pdec bs = none := pdec_none (fun h => (of_decide_eq_false hq) h.2.2.2)
         rw [hn]; exact ⟨_, rfl, RPt.zero _, rfl⟩
      ·refine WP.oper rfl rfl ?_
       refine Op.alloc rfl rfl rfl ty_zr_52 (fun b8 => ?_)
       refine WD.go (.inr (fun b o h => There.i h)) (fun _ _ h => h.elim) ?_
       refine WD.loud (i := 16) (by kernel_rfl) rfl rfl rfl ?_
       refine Op.cl (num_rd hc (by omega) (by omega) (by omega)) rfl Try.func63 rfl rfl rfl rfl ?_
       rintro v J L1 - ⟨rfl, rfl, rfl⟩
       try simp only [nf]
       refine WD.go (.inr (fun b o h => There.i h)) (fun _ _ h => h.elim) ?_
       refine WD.loud (i := 21) (by kernel_rfl) rfl rfl rfl ?_
       refine Op.cl (slices_Clone (bs := cut (strip bs 4) 22 (22 + pmany (strip bs 4))) (by rw [cut_len (by omega)]; exact sub_rd hc (by omega) (by omega)) (by rw [cut_len (by omega)]; omega)) rfl Try.func36 rfl rfl rfl rfl ?_
       rintro v J Lc - ⟨rfl, hcn⟩
       try simp only [nf]
       obtain ⟨Ad, cd, rfl, _⟩ := hcn.slice
       refine WD.go (.inr (fun b o h => There.i h)) (fun _ _ h => h.elim) ?_
       refine WD.val (i := 22) rfl rfl rfl rfl (by kernel_rfl) rfl (Yld.buildS (pl := [(4, 4, 1), (2, 2, 1), (1, 1, 1), (0, 0, 1), (3, 3, 1), (5, 5, 1)]) rfl ty_zr_52 ty_zd_52 (by kernel_rfl) rfl (vs := [_, _, _, _, _, _]) rfl (segs := [(4, [_]), (2, [_]), (1, [_]), (0, [_]), (3, [_]), (5, [_])]) rfl rfl (by repeat (first | exact SetSeg.nil | apply SetSeg.one | exact SetAt.zero | apply SetAt.succ))) ?_
       refine WD.loud (i := 24) (by kernel_rfl) rfl rfl rfl ?_
       refine Op.sA rfl rfl ty_sz_52 rfl rfl rfl rfl rfl ?_
       refine WD.go (.inl rfl) (fun _ _ h => h.elim) ?_
       refine WD.done (by kernel_rfl) ?_
       refine WP.sub [(0, _), (2, _), (4, _), (7, _), (8, _), (15, _), (16, _), (34, _)] ?_ ⟨rfl, rfl, rfl, rfl, rfl, rfl, rfl, rfl, trivial⟩
       refine WP.shO hcn (fun J2 hJ2 hd => ?_)
       have hb := hb.mono (fun b o h => hJ2.2 b o h)
       refine WP.next ?_
       refine WP.seq ?_
       refine WP.seq ?_
       refine WP.region [0, 1, 2, 3, 4, 5, 6] rfl ?_
       refine WP.vl rfl (Yld.lda rfl ty_ag_52 rfl rfl) ?_
       refine WP.loud rfl rfl ?_
       refine Op.cl (seg_Encode_ok (p := (decP (strip bs 4))) hd hm) rfl Try.func64 rfl rfl rfl rfl ?_
       rintro v J3 Lo2 hJ3 ⟨va, rfl, ho⟩
       try simp only [nf]
       refine WP.mv rfl rfl ?_
       refine WP.vl rfl (Yld.extract rfl rfl rfl) ?_
       refine WP.vl rfl (Yld.extract rfl rfl rfl) ?_
       iterate 2 refine WP.mv rfl rfl ?_
       refine WP.nil ?_
       refine WP.sub [(0, _), (2, _), (4, _), (7, _), (8, _), (9, _), (10, _), (15, _), (16, _), (34, _)] ?_ ⟨rfl, rfl, rfl, rfl, rfl, rfl, rfl, rfl, rfl, rfl, trivial⟩
       refine WP.next ?_
       refine WP.seq ?_
       refine WP.shO ho (fun J4 hJ4 hagain => ?_)
       have hb := (hb.mono (fun b o h => hJ3.2 b o h)).mono (fun b o h => hJ4.2 b o h)
       have hd := (hd.mono (fun b o h => hJ3.2 b o h)).mono (fun b o h => hJ4.2 b o h)
       refine WP.region [0, 1, 2, 3, 4, 5, 6, 7] rfl ?_
       refine WP.mv rfl rfl ?_
       refine WP.vl rfl (Yld.neq rfl rfl rfl false (decide_eq_false (by omega))) ?_
       refine WP.mv rfl rfl ?_
       refine WP.valG rfl rfl rfl rfl rfl rfl rfl (Yld.move rfl rfl) ?_
       refine WP.valG rfl rfl rfl rfl rfl rfl rfl (Yld.move rfl rfl) ?_
       refine WP.loudG rfl rfl rfl rfl rfl ?_
       refine Op.cl (bytes_Equal (a := penc (decP (strip bs 4))) (b := bs) hagain hb) rfl Try.func65 rfl rfl rfl rfl ?_
       rintro v J L1 - ⟨rfl, rfl, rfl⟩
       try simp only [nf]
       by_cases hq : (decide (penc (decP (strip bs 4)) = bs)) = true
       ·rw [hq]
        refine WP.valG rfl rfl rfl rfl rfl rfl rfl (Yld.not rfl rfl) ?_
        refine WP.vl rfl (Yld.pickF rfl rfl rfl) ?_
        refine WP.nil ?_
        refine WP.sub [(0, _), (2, _), (4, _), (7, _), (8, _), (9, _), (10, _), (15, _), (16, _), (34, _), (71, _)] ?_ ⟨rfl, rfl, rfl, rfl, rfl, rfl, rfl, rfl, rfl, rfl, rfl, trivial⟩
        refine WP.next ?_
        refine WP.condF rfl ?_
        refine WP.skip ?_
        refine WP.next ?_
        refine WP.seq ?_
        refine WP.region [0, 1, 2] rfl ?_
        refine WP.vl rfl (Yld.lda rfl ty_ag_52 rfl rfl) ?_
        refine WP.loud rfl rfl ?_
        refine Op.sA rfl rfl ty_sz_52 rfl rfl rfl rfl rfl ?_
        refine WP.mv rfl rfl ?_
        refine WP.nil ?_
        refine WP.sub [(0, _), (2, _), (3, _), (4, _), (7, _), (8, _), (9, _), (10, _), (15, _), (16, _), (34, _), (71, _)] ?_ ⟨rfl, rfl, rfl, rfl, rfl, rfl, rfl, rfl, rfl, rfl, rfl, rfl, trivial⟩
        refine WP.next ?_
        refine WP.ret ?_
        refine WP.fn .ret (.inr rfl) (resT (rs := [.cell 2 52, .tmp 3]) (vs := [_, _]) rfl ⟨⟨_, _, _, _, rfl, (by repeat (first | exact There.h | exact There.i (by assumption) | apply There.t | apply There.s)), .inl ⟨ty_ag_52, by rfl, rfl⟩⟩, rfl, trivial⟩ rfl) [] (Imm.le_trans hJ1 (Imm.le_trans hJ2 (Imm.le_trans hJ3 hJ4))) ?_
        have hs : pdec bs = some (decP (strip bs 4)) := pdec_some ⟨hl, hmany, hm, of_decide_eq_true hq⟩
        rw [hs]; exact ⟨_, rfl, ⟨_, rfl, hd⟩, rfl⟩
       ·have hq : (decide (penc (decP (strip bs 4)) = bs)) = false := eq_false_of_ne_true hq
        rw [hq]
        refine WP.valG rfl rfl rfl rfl rfl rfl rfl (Yld.not rfl rfl) ?_
        refine WP.vl rfl (Yld.pickF rfl rfl rfl) ?_
        refine WP.nil ?_
        refine WP.sub [(0, _), (2, _), (4, _), (7, _), (8, _), (9, _), (10, _), (15, _), (16, _), (34, _), (71, _)] ?_ ⟨rfl, rfl, rfl, rfl, rfl, rfl, rfl, rfl, rfl, rfl, rfl, trivial⟩
        refine WP.next ?_
        refine WP.condT rfl ?_
        refine WP.seq ?_
        refine WP.region [0, 1, 2] rfl ?_
        refine WP.vl rfl (Yld.buildS (pl := []) rfl ty_zr_52 ty_zd_52 (by kernel_rfl) rfl (vs := []) rfl (segs := []) rfl rfl (by repeat (first | exact SetSeg.nil | apply SetSeg.one | exact SetAt.zero | apply SetAt.succ))) ?_
        refine WP.loud rfl rfl ?_
        refine Op.sA rfl rfl ty_sz_52 rfl rfl rfl rfl rfl ?_
        refine WP.mv rfl rfl ?_
        refine WP.nil ?_
        refine WP.sub [(0, _), (2, _), (3, _), (4, _), (7, _), (8, _), (9, _), (10, _), (15, _), (16, _), (34, _), (71, _)] ?_ ⟨rfl, rfl, rfl, rfl, rfl, rfl, rfl, rfl, rfl, rfl, rfl, rfl, trivial⟩
        refine WP.next ?_
        refine WP.ret ?_
        refine WP.fn .ret (.inr rfl) (resT (rs := [.cell 2 52, .tmp 3]) (vs := [_, _]) rfl ⟨⟨_, _, _, _, rfl, (by repeat (first | exact There.h | exact There.i (by assumption) | apply There.t | apply There.s)), .inl ⟨ty_ag_52, by rfl, rfl⟩⟩, rfl, trivial⟩ rfl) [] (Imm.le_trans hJ1 (Imm.le_trans hJ2 (Imm.le_trans hJ3 hJ4))) ?_
        have hn : pdec bs = none := pdec_none (fun h => (of_decide_eq_false hq) h.2.2.2)
        rw [hn]; exact ⟨_, rfl, RPt.zero _, rfl⟩
     ·refine WP.oper rfl rfl ?_
      refine Op.alloc rfl rfl rfl ty_zr_52 (fun b8 => ?_)
      refine WD.go (.inr (fun b o h => There.i h)) (fun _ _ h => h.elim) ?_
      refine WD.loud (i := 13) (by kernel_rfl) rfl rfl rfl ?_
      refine Op.cl (num_rd hc (by omega) (by omega) (by omega)) rfl Try.func63 rfl rfl rfl rfl ?_
      rintro v J L1 - ⟨rfl, rfl, rfl⟩
      try simp only [nf]
      refine WD.go (.inr (fun b o h => There.i h)) (fun _ _ h => h.elim) ?_
      refine WD.loud (i := 16) (by kernel_rfl) rfl rfl rfl ?_
      refine Op.cl (num_rd hc (by omega) (by omega) (by omega)) rfl Try.func63 rfl rfl rfl rfl ?_
      rintro v J L1 - ⟨rfl, rfl, rfl⟩
      try simp only [nf]
      refine WD.go (.inr (fun b o h => There.i h)) (fun _ _ h => h.elim) ?_
      refine WD.loud (i := 21) (by kernel_rfl) rfl rfl rfl ?_
      refine Op.cl (slices_Clone (bs := cut (strip bs 4) 22 (22 + pmany (strip bs 4))) (by rw [cut_len (by omega)]; exact sub_rd hc (by omega) (by omega)) (by rw [cut_len (by omega)]; omega)) rfl Try.func36 rfl rfl rfl rfl ?_
      rintro v J Lc - ⟨rfl, hcn⟩
      try simp only [nf]
      obtain ⟨Ad, cd, rfl, _⟩ := hcn.slice
      refine WD.go (.inr (fun b o h => There.i h)) (fun _ _ h => h.elim) ?_
      refine WD.val (i := 22) rfl rfl rfl rfl (by kernel_rfl) rfl (Yld.buildS (pl := [(4, 4, 1), (2, 2, 1), (1, 1, 1), (0, 0, 1), (3, 3, 1), (5, 5, 1)]) rfl ty_zr_52 ty_zd_52 (by kernel_rfl) rfl (vs := [_, _, _, _, _, _]) rfl (segs := [(4, [_]), (2, [_]), (1, [_]), (0, [_]), (3, [_]), (5, [_])]) rfl rfl (by repeat (first | exact SetSeg.nil | apply SetSeg.one | exact SetAt.zero | apply SetAt.succ))) ?_
      refine WD.loud (i := 24) (by kernel_rfl) rfl rfl rfl ?_
      refine Op.sA rfl rfl ty_sz_52 rfl rfl rfl rfl rfl ?_
      refine WD.go (.inl rfl) (fun _ _ h => h.elim) ?_
      refine WD.done (by kernel_rfl) ?_
      refine WP.sub [(0, _), (2, _), (4, _), (7, _), (8, _), (15, _), (16, _), (34, _)] ?_ ⟨rfl, rfl, rfl, rfl, rfl, rfl, rfl, rfl, trivial⟩
      refine WP.shO hcn (fun J2 hJ2 hd => ?_)
      have hb := hb.mono (fun b o h => hJ2.2 b o h)
      refine WP.next ?_
      refine WP.seq ?_
      refine WP.seq ?_
      refine WP.region [0, 1, 2, 3, 4, 5, 6] rfl ?_
      refine WP.vl rfl (Yld.lda rfl ty_ag_52 rfl rfl) ?_
      refine WP.loud rfl rfl ?_
      refine Op.cl (seg_Encode_ok (p := (decP (strip bs 4))) hd hm) rfl Try.func64 rfl rfl rfl rfl ?_
      rintro v J3 Lo2 hJ3 ⟨va, rfl, ho⟩
      try simp only [nf]
      refine WP.mv rfl rfl ?_
      refine WP.vl rfl (Yld.extract rfl rfl rfl) ?_
      refine WP.vl rfl (Yld.extract rfl rfl rfl) ?_
      iterate 2 refine WP.mv rfl rfl ?_
      refine WP.nil ?_
      refine WP.sub [(0, _), (2, _), (4, _), (7, _), (8, _), (9, _), (10, _), (15, _), (16, _), (34, _)] ?_ ⟨rfl, rfl, rfl, rfl, rfl, rfl, rfl, rfl, rfl, rfl, trivial⟩
      refine WP.next ?_
      refine WP.seq ?_
      refine WP.shO ho (fun J4 hJ4 hagain => ?_)
      have hb := (hb.mono (fun b o h => hJ3.2 b o h)).mono (fun b o h => hJ4.2 b o h)
      have hd := (hd.mono (fun b o h => hJ3.2 b o h)).mono (fun b o h => hJ4.2 b o h)
      refine WP.region [0, 1, 2, 3, 4, 5, 6, 7] rfl ?_
      refine WP.mv rfl rfl ?_
      refine WP.vl rfl (Yld.neq rfl rfl rfl false (decide_eq_false (by omega))) ?_
      refine WP.mv rfl rfl ?_
      refine WP.valG rfl rfl rfl rfl rfl rfl rfl (Yld.move rfl rfl) ?_
      refine WP.valG rfl rfl rfl rfl rfl rfl rfl (Yld.move rfl rfl) ?_
      refine WP.loudG rfl rfl rfl rfl rfl ?_
      refine Op.cl (bytes_Equal (a := penc (decP (strip bs 4))) (b := bs) hagain hb) rfl Try.func65 rfl rfl rfl rfl ?_
      rintro v J L1 - ⟨rfl, rfl, rfl⟩
      try simp only [nf]
      by_cases hq : (decide (penc (decP (strip bs 4)) = bs)) = true
      ·rw [hq]
       refine WP.valG rfl rfl rfl rfl rfl rfl rfl (Yld.not rfl rfl) ?_
       refine WP.vl rfl (Yld.pickF rfl rfl rfl) ?_
       refine WP.nil ?_
       refine WP.sub [(0, _), (2, _), (4, _), (7, _), (8, _), (9, _), (10, _), (15, _), (16, _), (34, _), (71, _)] ?_ ⟨rfl, rfl, rfl, rfl, rfl, rfl, rfl, rfl, rfl, rfl, rfl, trivial⟩
       refine WP.next ?_
       refine WP.condF rfl ?_
       refine WP.skip ?_
       refine WP.next ?_
       refine WP.seq ?_
       refine WP.region [0, 1, 2] rfl ?_
       refine WP.vl rfl (Yld.lda rfl ty_ag_52 rfl rfl) ?_
       refine WP.loud rfl rfl ?_
       refine Op.sA rfl rfl ty_sz_52 rfl rfl rfl rfl rfl ?_
       refine WP.mv rfl rfl ?_
       refine WP.nil ?_
       refine WP.sub [(0, _), (2, _), (3, _), (4, _), (7, _), (8, _), (9, _), (10, _), (15, _), (16, _), (34, _), (71, _)] ?_ ⟨rfl, rfl, rfl, rfl, rfl, rfl, rfl, rfl, rfl, rfl, rfl, rfl, trivial⟩
       refine WP.next ?_
       refine WP.ret ?_
       refine WP.fn .ret (.inr rfl) (resT (rs := [.cell 2 52, .tmp 3]) (vs := [_, _]) rfl ⟨⟨_, _, _, _, rfl, (by repeat (first | exact There.h | exact There.i (by assumption) | apply There.t | apply There.s)), .inl ⟨ty_ag_52, by rfl, rfl⟩⟩, rfl, trivial⟩ rfl) [] (Imm.le_trans hJ1 (Imm.le_trans hJ2 (Imm.le_trans hJ3 hJ4))) ?_
       have hs : pdec bs = some (decP (strip bs 4)) := pdec_some ⟨hl, hmany, hm, of_decide_eq_true hq⟩
       rw [hs]; exact ⟨_, rfl, ⟨_, rfl, hd⟩, rfl⟩
      ·have hq : (decide (penc (decP (strip bs 4)) = bs)) = false := eq_false_of_ne_true hq
       rw [hq]
       refine WP.valG rfl rfl rfl rfl rfl rfl rfl (Yld.not rfl rfl) ?_
       refine WP.vl rfl (Yld.pickF rfl rfl rfl) ?_
       refine WP.nil ?_
       refine WP.sub [(0, _), (2, _), (4, _), (7, _), (8, _), (9, _), (10, _), (15, _), (16, _), (34, _), (71, _)] ?_ ⟨rfl, rfl, rfl, rfl, rfl, rfl, rfl, rfl, rfl, rfl, rfl, trivial⟩
       refine WP.next ?_
       refine WP.condT rfl ?_
       refine WP.seq ?_
       refine WP.region [0, 1, 2] rfl ?_
       refine WP.vl rfl (Yld.buildS (pl := []) rfl ty_zr_52 ty_zd_52 (by kernel_rfl) rfl (vs := []) rfl (segs := []) rfl rfl (by repeat (first | exact SetSeg.nil | apply SetSeg.one | exact SetAt.zero | apply SetAt.succ))) ?_
       refine WP.loud rfl rfl ?_
       refine Op.sA rfl rfl ty_sz_52 rfl rfl rfl rfl rfl ?_
       refine WP.mv rfl rfl ?_
       refine WP.nil ?_
       refine WP.sub [(0, _), (2, _), (3, _), (4, _), (7, _), (8, _), (9, _), (10, _), (15, _), (16, _), (34, _), (71, _)] ?_ ⟨rfl, rfl, rfl, rfl, rfl, rfl, rfl, rfl, rfl, rfl, rfl, rfl, trivial⟩
       refine WP.next ?_
       refine WP.ret ?_
       refine WP.fn .ret (.inr rfl) (resT (rs := [.cell 2 52, .tmp 3]) (vs := [_, _]) rfl ⟨⟨_, _, _, _, rfl, (by repeat (first | exact There.h | exact There.i (by assumption) | apply There.t | apply There.s)), .inl ⟨ty_ag_52, by rfl, rfl⟩⟩, rfl, trivial⟩ rfl) [] (Imm.le_trans hJ1 (Imm.le_trans hJ2 (Imm.le_trans hJ3 hJ4))) ?_
       have hn : pdec bs = none := pdec_none (fun h => (of_decide_eq_false hq) h.2.2.2)
       rw [hn]; exact ⟨_, rfl, RPt.zero _, rfl⟩
    ·refine WP.oper rfl rfl ?_
     refine Op.alloc rfl rfl rfl ty_zr_52 (fun b8 => ?_)
     refine WD.go (.inr (fun b o h => There.i h)) (fun _ _ h => h.elim) ?_
     refine WD.loud (i := 10) (by kernel_rfl) rfl rfl rfl ?_
     refine Op.cl (num_rd hc (by omega) (by omega) (by omega)) rfl Try.func63 rfl rfl rfl rfl ?_
     rintro v J L1 - ⟨rfl, rfl, rfl⟩
     try simp only [nf]
     refine WD.go (.inr (fun b o h => There.i h)) (fun _ _ h => h.elim) ?_
     refine WD.loud (i := 13) (by kernel_rfl) rfl rfl rfl ?_
     refine Op.cl (num_rd hc (by omega) (by omega) (by omega)) rfl Try.func63 rfl rfl rfl rfl ?_
     rintro v J L1 - ⟨rfl, rfl, rfl⟩
     try simp only [nf]
     refine WD.go (.inr (fun b o h => There.i h)) (fun _ _ h => h.elim) ?_
     refine WD.loud (i := 16) (by kernel_rfl) rfl rfl rfl ?_
     refine Op.cl (num_rd hc (by omega) (by omega) (by omega)) rfl Try.func63 rfl rfl rfl rfl ?_
     rintro v J L1 - ⟨rfl, rfl, rfl⟩
     try simp only [nf]
     refine WD.go (.inr (fun b o h => There.i h)) (fun _ _ h => h.elim) ?_
     refine WD.loud (i := 21) (by kernel_rfl) rfl rfl rfl ?_
     refine Op.cl (slices_Clone (bs := cut (strip bs 4) 22 (22 + pmany (strip bs 4))) (by rw [cut_len (by omega)]; exact sub_rd hc (by omega) (by omega)) (by rw [cut_len (by omega)]; omega)) rfl Try.func36 rfl rfl rfl rfl ?_
     rintro v J Lc - ⟨rfl, hcn⟩
     try simp only [nf]
     obtain ⟨Ad, cd, rfl, _⟩ := hcn.slice
     refine WD.go (.inr (fun b o h => There.i h)) (fun _ _ h => h.elim) ?_
     refine WD.val (i := 22) rfl rfl rfl rfl (by kernel_rfl) rfl (Yld.buildS (pl := [(4, 4, 1), (2, 2, 1), (1, 1, 1), (0, 0, 1), (3, 3, 1), (5, 5, 1)]) rfl ty_zr_52 ty_zd_52 (by kernel_rfl) rfl (vs := [_, _, _, _, _, _]) rfl (segs := [(4, [_]), (2, [_]), (1, [_]), (0, [_]), (3, [_]), (5, [_])]) rfl rfl (by repeat (first | exact SetSeg.nil | apply SetSeg.one | exact SetAt.zero | apply SetAt.succ))) ?_
     refine WD.loud (i := 24) (by kernel_rfl) rfl rfl rfl ?_
     refine Op.sA rfl rfl ty_sz_52 rfl rfl rfl rfl rfl ?_
     refine WD.go (.inl rfl) (fun _ _ h => h.elim) ?_
     refine WD.done (by kernel_rfl) ?_
     refine WP.sub [(0, _), (2, _), (4, _), (7, _), (8, _), (15, _), (16, _), (34, _)] ?_ ⟨rfl, rfl, rfl, rfl, rfl, rfl, rfl, rfl, trivial⟩
     refine WP.shO hcn (fun J2 hJ2 hd => ?_)
     have hb := hb.mono (fun b o h => hJ2.2 b o h)
     refine WP.next ?_
     refine WP.seq ?_
     refine WP.seq ?_
     refine WP.region [0, 1, 2, 3, 4, 5, 6] rfl ?_
     refine WP.vl rfl (Yld.lda rfl ty_ag_52 rfl rfl) ?_
     refine WP.loud rfl rfl ?_
     refine Op.cl (seg_Encode_ok (p := (decP (strip bs 4))) hd hm) rfl Try.func64 rfl rfl rfl rfl ?_
     rintro v J3 Lo2 hJ3 ⟨va, rfl, ho⟩
     try simp only [nf]
     refine WP.mv rfl rfl ?_
     refine WP.vl rfl (Yld.extract rfl rfl rfl) ?_
     refine WP.vl rfl (Yld.extract rfl rfl rfl) ?_
     iterate 2 refine WP.mv rfl rfl ?_
     refine WP.nil ?_
     refine WP.sub [(0, _), (2, _), (4, _), (7, _), (8, _), (9, _), (10, _), (15, _), (16, _), (34, _)] ?_ ⟨rfl, rfl, rfl, rfl, rfl, rfl, rfl, rfl, rfl, rfl, trivial⟩
     refine WP.next ?_
     refine WP.seq ?_
     refine WP.shO ho (fun J4 hJ4 hagain => ?_)
     have hb := (hb.mono (fun b o h => hJ3.2 b o h)).mono (fun b o h => hJ4.2 b o h)
     have hd := (hd.mono (fun b o h => hJ3.2 b o h)).mono (fun b o h => hJ4.2 b o h)
     refine WP.region [0, 1, 2, 3, 4, 5, 6, 7] rfl ?_
     refine WP.mv rfl rfl ?_
     refine WP.vl rfl (Yld.neq rfl rfl rfl false (decide_eq_false (by omega))) ?_
     refine WP.mv rfl rfl ?_
     refine WP.valG rfl rfl rfl rfl rfl rfl rfl (Yld.move rfl rfl) ?_
     refine WP.valG rfl rfl rfl rfl rfl rfl rfl (Yld.move rfl rfl) ?_
     refine WP.loudG rfl rfl rfl rfl rfl ?_
     refine Op.cl (bytes_Equal (a := penc (decP (strip bs 4))) (b := bs) hagain hb) rfl Try.func65 rfl rfl rfl rfl ?_
     rintro v J L1 - ⟨rfl, rfl, rfl⟩
     try simp only [nf]
     by_cases hq : (decide (penc (decP (strip bs 4)) = bs)) = true
     ·rw [hq]
      refine WP.valG rfl rfl rfl rfl rfl rfl rfl (Yld.not rfl rfl) ?_
      refine WP.vl rfl (Yld.pickF rfl rfl rfl) ?_
      refine WP.nil ?_
      refine WP.sub [(0, _), (2, _), (4, _), (7, _), (8, _), (9, _), (10, _), (15, _), (16, _), (34, _), (71, _)] ?_ ⟨rfl, rfl, rfl, rfl, rfl, rfl, rfl, rfl, rfl, rfl, rfl, trivial⟩
      refine WP.next ?_
      refine WP.condF rfl ?_
      refine WP.skip ?_
      refine WP.next ?_
      refine WP.seq ?_
      refine WP.region [0, 1, 2] rfl ?_
      refine WP.vl rfl (Yld.lda rfl ty_ag_52 rfl rfl) ?_
      refine WP.loud rfl rfl ?_
      refine Op.sA rfl rfl ty_sz_52 rfl rfl rfl rfl rfl ?_
      refine WP.mv rfl rfl ?_
      refine WP.nil ?_
      refine WP.sub [(0, _), (2, _), (3, _), (4, _), (7, _), (8, _), (9, _), (10, _), (15, _), (16, _), (34, _), (71, _)] ?_ ⟨rfl, rfl, rfl, rfl, rfl, rfl, rfl, rfl, rfl, rfl, rfl, rfl, trivial⟩
      refine WP.next ?_
      refine WP.ret ?_
      refine WP.fn .ret (.inr rfl) (resT (rs := [.cell 2 52, .tmp 3]) (vs := [_, _]) rfl ⟨⟨_, _, _, _, rfl, (by repeat (first | exact There.h | exact There.i (by assumption) | apply There.t | apply There.s)), .inl ⟨ty_ag_52, by rfl, rfl⟩⟩, rfl, trivial⟩ rfl) [] (Imm.le_trans hJ1 (Imm.le_trans hJ2 (Imm.le_trans hJ3 hJ4))) ?_
      have hs : pdec bs = some (decP (strip bs 4)) := pdec_some ⟨hl, hmany, hm, of_decide_eq_true hq⟩
      rw [hs]; exact ⟨_, rfl, ⟨_, rfl, hd⟩, rfl⟩
     ·have hq : (decide (penc (decP (strip bs 4)) = bs)) = false := eq_false_of_ne_true hq
      rw [hq]
      refine WP.valG rfl rfl rfl rfl rfl rfl rfl (Yld.not rfl rfl) ?_
      refine WP.vl rfl (Yld.pickF rfl rfl rfl) ?_
      refine WP.nil ?_
      refine WP.sub [(0, _), (2, _), (4, _), (7, _), (8, _), (9, _), (10, _), (15, _), (16, _), (34, _), (71, _)] ?_ ⟨rfl, rfl, rfl, rfl, rfl, rfl, rfl, rfl, rfl, rfl, rfl, trivial⟩
      refine WP.next ?_
      refine WP.condT rfl ?_
      refine WP.seq ?_
      refine WP.region [0, 1, 2] rfl ?_
      refine WP.vl rfl (Yld.buildS (pl := []) rfl ty_zr_52 ty_zd_52 (by kernel_rfl) rfl (vs := []) rfl (segs := []) rfl rfl (by repeat (first | exact SetSeg.nil | apply SetSeg.one | exact SetAt.zero | apply SetAt.succ))) ?_
      refine WP.loud rfl rfl ?_
      refine Op.sA rfl rfl ty_sz_52 rfl rfl rfl rfl rfl ?_
      refine WP.mv rfl rfl ?_
      refine WP.nil ?_
      refine WP.sub [(0, _), (2, _), (3, _), (4, _), (7, _), (8, _), (9, _), (10, _), (15, _), (16, _), (34, _), (71, _)] ?_ ⟨rfl, rfl, rfl, rfl, rfl, rfl, rfl, rfl, rfl, rfl, rfl, rfl, trivial⟩
      refine WP.next ?_
      refine WP.ret ?_
      refine WP.fn .ret (.inr rfl) (resT (rs := [.cell 2 52, .tmp 3]) (vs := [_, _]) rfl ⟨⟨_, _, _, _, rfl, (by repeat (first | exact There.h | exact There.i (by assumption) | apply There.t | apply There.s)), .inl ⟨ty_ag_52, by rfl, rfl⟩⟩, rfl, trivial⟩ rfl) [] (Imm.le_trans hJ1 (Imm.le_trans hJ2 (Imm.le_trans hJ3 hJ4))) ?_
      have hn : pdec bs = none := pdec_none (fun h => (of_decide_eq_false hq) h.2.2.2)
      rw [hn]; exact ⟨_, rfl, RPt.zero _, rfl⟩

set_option maxHeartbeats 2000000 in
theorem seg_Decode_bad {I : Imm} {bs : List UInt8} {vb : Value} (hb : SlRd (fun b o => I.blk b = some o) vb bs.length 1 (bytesV bs)) (hbl : bs.length ≤ 140737488351232) (hm : ¬ (decP (strip bs 4)).may) : Spec Try.prog 55 [vb] I [] (fun v J L => ∃ cs, v = .tuple #[.agg cs.toArray, .int .i64 (perr (pdec bs))] ∧ RPt J ((pdec bs).getD ptZ) cs ∧ L = []) := by
 obtain ⟨Ab, cb, rfl, hcb0, _, _⟩ := id hb
 refine Spec.of Try.func55 rfl Try.ntmps55 (Nat.le_of_ble_eq_true rfl) (fun F => ?_)
 try simp only [nf]
 dsimp only [argsEnv]
 refine WP.seq ?_
 refine WP.region [0, 1] rfl ?_
 refine WP.loud rfl rfl ?_
 refine Op.alloc rfl rfl rfl ty_zr_52 (fun b2 => ?_)
 refine WP.mv rfl rfl ?_
 refine WP.nil ?_
 refine WP.next ?_
 refine WP.seq ?_
 refine WP.seq ?_
 refine WP.region [0, 1, 2] rfl ?_
 refine WP.mv rfl rfl ?_
 refine WP.vl rfl (Yld.lenR hb rfl ty_sl_46 rfl) ?_
 refine WP.split rfl rfl rfl rfl (Yld.neq rfl rfl rfl) (fun hl => ?_) (fun hl => ?_)
 ·refine WP.nil ?_
  refine WP.sub [(0, _), (2, _), (3, _), (13, _)] ?_ ⟨rfl, rfl, rfl, rfl, trivial⟩
  refine WP.next ?_
  refine WP.condT rfl ?_
  refine WP.seq ?_
  refine WP.region [0, 1, 2] rfl ?_
  refine WP.vl rfl (Yld.buildS (pl := []) rfl ty_zr_52 ty_zd_52 (by kernel_rfl) rfl (vs := []) rfl (segs := []) rfl rfl (by repeat (first | exact SetSeg.nil | apply SetSeg.one | exact SetAt.zero | apply SetAt.succ))) ?_
  refine WP.loud rfl rfl ?_
  refine Op.sA rfl rfl ty_sz_52 rfl rfl rfl rfl rfl ?_
  refine WP.mv rfl rfl ?_
  refine WP.nil ?_
  refine WP.sub [(0, _), (2, _), (3, _), (13, _)] ?_ ⟨rfl, rfl, rfl, rfl, trivial⟩
  refine WP.next ?_
  refine WP.ret ?_
  refine WP.fn .ret (.inr rfl) (resT (rs := [.cell 2 52, .tmp 3]) (vs := [_, _]) rfl ⟨⟨_, _, _, _, rfl, (by repeat (first | exact There.h | exact There.i (by assumption) | apply There.t | apply There.s)), .inl ⟨ty_ag_52, by rfl, rfl⟩⟩, rfl, trivial⟩ rfl) [] (Imm.le_refl _) ?_
  have hn : pdec bs = none := pdec_none (fun h => (by have := h.1; omega))
  rw [hn]; exact ⟨_, rfl, RPt.zero _, rfl⟩
 ·have hl : bs.length = 256 := by omega
  refine WP.nil ?_
  refine WP.sub [(0, _), (2, _), (3, _), (13, _)] ?_ ⟨rfl, rfl, rfl, rfl, trivial⟩
  refine WP.next ?_
  refine WP.condF rfl ?_
  refine WP.skip ?_
  refine WP.next ?_
  refine WP.seq ?_
  refine WP.region [0] rfl ?_
  refine WP.mv rfl rfl ?_
  refine WP.nil ?_
  refine WP.next ?_
  refine WP.seq ?_
  refine WP.seq ?_
  refine WP.region [0] rfl ?_
  refine WP.mv rfl rfl ?_
  refine WP.nil ?_
  refine WP.next ?_
  refine WP.block ?_
  refine WP.loop (X := Nat × Value × Chunks) (fun u : Nat × Value × Chunks => [(0, .slice Ab bs.length cb), (2, .pointer (some ⟨b2, 0, none⟩)), (4, u.2.1), (15, .int .i64 (u.1 : Int))]) (fun _ => I) (fun u : Nat × Value × Chunks => (b2, row 52 (ptV ptZ (.slice none 0 0))) :: (u.2.2 ++ F)) (fun u : Nat × Value × Chunks => u.1 ≤ 4 ∧ Own 5 1 u.2.1 (bytesV (strip bs u.1)) (strip bs u.1).length u.2.2) (fun u : Nat × Value × Chunks => 4 - u.1) (0, .slice none 0 0, []) ⟨Nat.zero_le _, .none0⟩ ⟨rfl, rfl, rfl, rfl, trivial⟩ rfl (by (try dsimp only); repeat (first | exact Rm.chunk | exact Rm.here | exact Rm.nil0 | apply Rm.skip | apply Rm.skipS | apply PX.cons | (apply PX.done; (repeat (first | exact Leave.done | apply Leave.drop | apply Leave.dropS)); done) | apply PX.app)) ?_
  rintro ⟨i, vo, Lo⟩ ⟨hi4, hout⟩; dsimp only at hi4 hout
  try dsimp only
  try simp only [nf]
  refine WP.seq ?_
  refine WP.region [0] rfl ?_
  refine WP.split rfl rfl rfl rfl (Yld.lss rfl rfl rfl) (fun hlt => ?_) (fun hlt => ?_)
  ·have hi : i < 4 := by omega
   have hsl := strip_len hl i (by omega)
   have hsub := sub_rd hb (l := i * 64) (k := (i + 1) * 64) (by omega) (by omega)
   have hsub3 := SlRd.sub3 hsub (h := 56) (by omega)
   have hc64 : (cut bs (i * 64) ((i + 1) * 64)).length = 64 := by rw [cut_len (by omega)]; omega
   rw [bytesV_take, show 56 * 1 = 56 from rfl] at hsub3
   refine WP.nil ?_
   refine WP.next ?_
   refine WP.seq ?_
   refine WP.condT rfl ?_
   refine WP.skip ?_
   refine WP.next ?_
   refine WP.seq ?_
   refine WP.block ?_
   refine WP.seq ?_
   refine WP.region [0, 1] rfl ?_
   iterate 2 refine WP.mv rfl rfl ?_
   refine WP.nil ?_
   refine WP.sub [(0, _), (2, _), (4, _), (5, _), (15, _), (16, _)] ?_ ⟨rfl, rfl, rfl, rfl, rfl, rfl, trivial⟩
   refine WP.next ?_
   refine WP.seq ?_
   refine WP.region [0, 1, 2, 3, 4, 5, 6, 7] rfl ?_
   iterate 2 refine WP.mv rfl rfl ?_
   refine WP.vl rfl (Yld.mul64 rfl rfl rfl (by omega)) ?_
   refine WP.mv rfl rfl ?_
   refine WP.vl rfl (Yld.add64 rfl rfl rfl (by omega)) ?_
   refine WP.vl rfl (Yld.mul64 rfl rfl rfl (by omega)) ?_
   refine WP.vl rfl (Yld.sliceR (l := i * 64) (h := (i + 1) * 64) hb rfl ty_sl_46 rfl (Env.limS (n := i * 64) (congrArg (fun z : Int => some (Value.int .i64 z)) (by omega))) (Env.limS (n := (i + 1) * 64) (congrArg (fun z : Int => some (Value.int .i64 z)) (by omega))) (by omega) (by omega)) ?_
   refine WP.mv rfl rfl ?_
   refine WP.nil ?_
   refine WP.sub [(0, _), (2, _), (4, _), (5, _), (6, _), (15, _), (16, _)] ?_ ⟨rfl, rfl, rfl, rfl, rfl, rfl, rfl, trivial⟩
   refine WP.next ?_
   refine WP.region [0, 1, 2, 3, 4] rfl ?_
   iterate 2 refine WP.mv rfl rfl ?_
   refine WP.vl rfl (Yld.slice3 (h := 56) rfl ty_sl_46 rfl rfl rfl (by omega)) ?_
   refine WP.loud rfl rfl ?_
   refine Op.append (m := 56) rfl ty_sl_46 ty_el_46 rfl rfl rfl rfl rfl hout (hsub3.mono (fun b o h => There.i h)) (by repeat (first | exact Take.nil | with_reducible apply Take.cons | apply Take.app | exact Rm.chunk | exact Rm.here | exact Rm.nil0 | apply Rm.skip | apply Rm.skipS | (focus (apply Take.all; (repeat (first | exact Rm.chunk | exact Rm.here | exact Rm.nil0 | apply Rm.skip | apply Rm.skipS)); done)) | apply Take.cons)) (bytesV_one _) (by omega) (by omega) (fun vn Ln hn => ?_)
   try simp only [nf]
   have hnew : Own 5 1 vn (bytesV (strip bs (i + 1))) (strip bs (i + 1)).length Ln := by have e : (strip bs (i + 1)).length = (strip bs i).length + 56 := (by rw [strip, List.length_append, List.length_take, hc64]; rfl); rw [e, strip, bytesV_app]; exact hn
   refine WP.mv rfl rfl ?_
   refine WP.nil ?_
   refine WP.sub [(0, _), (2, _), (4, _), (5, _), (6, _), (15, _), (16, _)] ?_ ⟨rfl, rfl, rfl, rfl, rfl, rfl, rfl, trivial⟩
   refine WP.leave ?_
   refine WP.next ?_
   refine WP.region [0, 1] rfl ?_
   refine WP.vl rfl (Yld.add64 rfl rfl rfl (by omega)) ?_
   refine WP.mv rfl rfl ?_
   refine WP.nil ?_
   refine WP.sub [(0, _), (2, _), (4, _), (5, _), (6, _), (15, _), (16, _)] ?_ ⟨rfl, rfl, rfl, rfl, rfl, rfl, rfl, trivial⟩
   exact WP.ag (i + 1, vn, Ln) ⟨(show i + 1 ≤ 4 by omega), hnew⟩ (show 4 - (i + 1) < 4 - i by omega) ⟨rfl, rfl, rfl, rfl, trivial⟩ rfl
  ·obtain rfl : i = 4 := by omega
   refine WP.nil ?_
   refine WP.next ?_
   refine WP.seq ?_
   refine WP.condF rfl ?_
   refine WP.exit ?_
   refine WP.thenE ?_
   refine WP.thenE ?_
   refine WP.hit ?_
   refine WP.next ?_
   refine WP.seq ?_
   have hcl := strip_len hl 4 (by omega)
   refine WP.shO hout (fun J1 hJ1 hc => ?_)
   have hb := hb.mono (fun b o h => hJ1.2 b o h)
   refine WP.region [0, 1, 2, 3] rfl ?_
   refine WP.mv rfl rfl ?_
   refine WP.vl rfl (Yld.sliceR (l := 4) (h := 6) hc rfl ty_sl_46 rfl (Env.limS (n := 4) rfl) (Env.limS (n := 6) rfl) (by omega) (by omega)) ?_
   refine WP.loud rfl rfl ?_
   refine Op.cl (num_rd hc (by omega) (by omega) (by omega)) rfl Try.func63 rfl rfl rfl rfl ?_
   rintro v J L1 - ⟨rfl, rfl, rfl⟩
   try simp only [nf]
   refine WP.mv rfl rfl ?_
   refine WP.nil ?_
   refine WP.sub [(0, _), (2, _), (4, _), (7, _), (15, _), (16, _)] ?_ ⟨rfl, rfl, rfl, rfl, rfl, rfl, trivial⟩
   refine WP.next ?_
   refine WP.seq ?_
   refine WP.seq ?_
   refine WP.region [0, 1] rfl ?_
   refine WP.mv rfl rfl ?_
   refine WP.split rfl rfl rfl rfl (Yld.gtr rfl rfl rfl) (fun hmany => ?_) (fun hmany => ?_)
   ·refine WP.nil ?_
    refine WP.sub [(0, _), (2, _), (4, _), (7, _), (15, _), (16, _), (34, _)] ?_ ⟨rfl, rfl, rfl, rfl, rfl, rfl, rfl, trivial⟩
    refine WP.next ?_
    refine WP.condT rfl ?_
    refine WP.seq ?_
    refine WP.region [0, 1, 2] rfl ?_
    refine WP.vl rfl (Yld.buildS (pl := []) rfl ty_zr_52 ty_zd_52 (by kernel_rfl) rfl (vs := []) rfl (segs := []) rfl rfl (by repeat (first | exact SetSeg.nil | apply SetSeg.one | exact SetAt.zero | apply SetAt.succ))) ?_
    refine WP.loud rfl rfl ?_
    refine Op.sA rfl rfl ty_sz_52 rfl rfl rfl rfl rfl ?_
    refine WP.mv rfl rfl ?_
    refine WP.nil ?_
    refine WP.sub [(0, _), (2, _), (3, _), (4, _), (7, _), (15, _), (16, _), (34, _)] ?_ ⟨rfl, rfl, rfl, rfl, rfl, rfl, rfl, rfl, trivial⟩
    refine WP.next ?_
    refine WP.ret ?_
    refine WP.fn .ret (.inr rfl) (resT (rs := [.cell 2 52, .tmp 3]) (vs := [_, _]) rfl ⟨⟨_, _, _, _, rfl, (by repeat (first | exact There.h | exact There.i (by assumption) | apply There.t | apply There.s)), .inl ⟨ty_ag_52, by rfl, rfl⟩⟩, rfl, trivial⟩ rfl) [] hJ1 ?_
    have hn : pdec bs = none := pdec_none (fun h => (by have := h.2.1; unfold pmany at this; omega))
    rw [hn]; exact ⟨_, rfl, RPt.zero _, rfl⟩
   ·have hmany : pmany (strip bs 4) ≤ 198 := by unfold pmany; omega
    obtain ⟨bc, kc, cc, Tc, frc, arrc, rfl, hcc, hcb, hcd⟩ := hc.get (by omega)
    have e2 := take_cells hcd 2 (byteV (strip bs 4)[2]) (by simp [bytesV, hcl]) (by rw [bytesV_len]; omega)
    have e3 := take_cells hcd 3 (byteV (strip bs 4)[3]) (by simp [bytesV, hcl]) (by rw [bytesV_len]; omega)
    rw [Array.getElem?_toList] at e2 e3
    refine WP.nil ?_
    refine WP.sub [(0, _), (2, _), (4, _), (7, _), (15, _), (16, _), (34, _)] ?_ ⟨rfl, rfl, rfl, rfl, rfl, rfl, rfl, trivial⟩
    refine WP.next ?_
    refine WP.condF rfl ?_
    refine WP.skip ?_
    refine WP.next ?_
    refine WP.seq ?_
    refine WD.start Trymixed 24 (fun b o => J1.blk b = some o) (fun _ _ => False) (fun b o h => There.i h) (fun _ _ h => h.elim) 25 [false, false, false, false, false, false, false, false, false, false, false, false, false, false, false, false, false, false, false, false, false, false, false, false, false] rfl rfl ?_
    refine WD.val (i := 0) rfl rfl rfl rfl (by kernel_rfl) rfl (Yld.move rfl rfl) ?_
    refine WD.val (i := 1) rfl rfl rfl rfl (by kernel_rfl) rfl (Yld.indexAddr (i := 2) rfl ty_sl_46 rfl rfl (by omega)) ?_
    refine WD.val1 (i := 2) rfl rfl rfl rfl (by kernel_rfl) rfl (by kernel_rfl) (Yld.loadC rfl ty_sc_5 rfl (.inl hcb) e2) ?_
    refine WD.val (i := 3) rfl rfl rfl rfl (by kernel_rfl) rfl (Yld.conv64 rfl ty_un_5 ty_ik_3 rfl (by have := ((strip bs 4)[2]).toNat_lt; omega)) ?_
    rw [byteN_at (c := (strip bs 4)) (i := 2) (by omega)]
    refine WD.val (i := 4) rfl rfl rfl rfl (by kernel_rfl) rfl (Yld.move rfl rfl) ?_
    refine WD.val (i := 5) rfl rfl rfl rfl (by kernel_rfl) rfl (Yld.indexAddr (i := 3) rfl ty_sl_46 rfl rfl (by omega)) ?_
    refine WD.val1 (i := 6) rfl rfl rfl rfl (by kernel_rfl) rfl (by kernel_rfl) (Yld.loadC rfl ty_sc_5 rfl (.inl hcb) e3) ?_
    refine WD.val (i := 7) rfl rfl rfl rfl (by kernel_rfl) rfl (Yld.conv64 rfl ty_un_5 ty_ik_3 rfl (by have := ((strip bs 4)[3]).toNat_lt; omega)) ?_
    rw [byteN_at (c := (strip bs 4)) (i := 3) (by omega)]
    refine WD.val (i := 8) rfl rfl rfl rfl (by kernel_rfl) rfl (Yld.move rfl rfl) ?_
    refine WD.val (i := 9) rfl rfl rfl rfl (by kernel_rfl) rfl (Yld.sliceR (l := 6) (h := 12) hc rfl ty_sl_46 rfl (Env.limS (n := 6) rfl) (Env.limS (n := 12) rfl) (by omega) (by omega)) ?_
    refine WD.val (i := 11) rfl rfl rfl rfl (by kernel_rfl) rfl (Yld.move rfl rfl) ?_
    refine WD.val (i := 12) rfl rfl rfl rfl (by kernel_rfl) rfl (Yld.sliceR (l := 12) (h := 18) hc rfl ty_sl_46 rfl (Env.limS (n := 12) rfl) (Env.limS (n := 18) rfl) (by omega) (by omega)) ?_
    refine WD.val (i := 14) rfl rfl rfl rfl (by kernel_rfl) rfl (Yld.move rfl rfl) ?_
    refine WD.val (i := 15) rfl rfl rfl rfl (by kernel_rfl) rfl (Yld.sliceR (l := 18) (h := 22) hc rfl ty_sl_46 rfl (Env.limS (n := 18) rfl) (Env.limS (n := 22) rfl) (by omega) (by omega)) ?_
    refine WD.val (i := 17) rfl rfl rfl rfl (by kernel_rfl) rfl (Yld.move rfl rfl) ?_
    refine WD.val (i := 18) rfl rfl rfl rfl (by kernel_rfl) rfl (Yld.move rfl rfl) ?_
    refine WD.val (i := 19) rfl rfl rfl rfl (by kernel_rfl) rfl (Yld.add64 rfl rfl rfl (by unfold pmany at hmany; omega)) ?_
    refine WD.val (i := 20) rfl rfl rfl rfl (by kernel_rfl) rfl (Yld.sliceR (l := 22) (h := 22 + pmany (strip bs 4)) hc rfl ty_sl_46 rfl (Env.limS (n := 22) rfl) (Env.limS (n := 22 + pmany (strip bs 4)) (congrArg (fun z : Int => some (Value.int .i64 z)) (by unfold pmany; omega))) (by omega) (by omega)) ?_
    refine WD.both (i := 10) (j := 23) (by kernel_rfl) rfl rfl ?_ ?_
    ·refine WP.oper rfl rfl ?_
     refine Op.cl (num_rd hc (by omega) (by omega) (by omega)) rfl Try.func63 rfl rfl rfl rfl ?_
     rintro v J L1 - ⟨rfl, rfl, rfl⟩
     try simp only [nf]
     refine WD.go (.inr (fun b o h => There.i h)) (fun _ _ h => h.elim) ?_
     refine WD.both (i := 13) (j := 23) (by kernel_rfl) rfl rfl ?_ ?_
     ·refine WP.oper rfl rfl ?_
      refine Op.cl (num_rd hc (by omega) (by omega) (by omega)) rfl Try.func63 rfl rfl rfl rfl ?_
      rintro v J L1 - ⟨rfl, rfl, rfl⟩
      try simp only [nf]
      refine WD.go (.inr (fun b o h => There.i h)) (fun _ _ h => h.elim) ?_
      refine WD.both (i := 16) (j := 23) (by kernel_rfl) rfl rfl ?_ ?_
      ·refine WP.oper rfl rfl ?_
       refine Op.cl (num_rd hc (by omega) (by omega) (by omega)) rfl Try.func63 rfl rfl rfl rfl ?_
       rintro v J L1 - ⟨rfl, rfl, rfl⟩
       try simp only [nf]
       refine WD.go (.inr (fun b o h => There.i h)) (fun _ _ h => h.elim) ?_
       refine WD.both (i := 21) (j := 23) (by kernel_rfl) rfl rfl ?_ ?_
       ·refine WP.oper rfl rfl ?_
        refine Op.cl (slices_Clone (bs := cut (strip bs 4) 22 (22 + pmany (strip bs 4))) (by rw [cut_len (by omega)]; exact sub_rd hc (by omega) (by omega)) (by rw [cut_len (by omega)]; omega)) rfl Try.func36 rfl rfl rfl rfl ?_
        rintro v J Lc - ⟨rfl, hcn⟩
        try simp only [nf]
        obtain ⟨Ad, cd, rfl, _⟩ := hcn.slice
        refine WD.go (.inr (fun b o h => There.i h)) (fun _ _ h => h.elim) ?_
        refine WD.val (i := 22) rfl rfl rfl rfl (by kernel_rfl) rfl (Yld.buildS (pl := [(4, 4, 1), (2, 2, 1), (1, 1, 1), (0, 0, 1), (3, 3, 1), (5, 5, 1)]) rfl ty_zr_52 ty_zd_52 (by kernel_rfl) rfl (vs := [_, _, _, _, _, _]) rfl (segs := [(4, [_]), (2, [_]), (1, [_]), (0, [_]), (3, [_]), (5, [_])]) rfl rfl (by repeat (first | exact SetSeg.nil | apply SetSeg.one | exact SetAt.zero | apply SetAt.succ))) ?_
        refine WD.loud (i := 23) (by kernel_rfl) rfl rfl rfl ?_
        refine Op.alloc rfl rfl rfl ty_zr_52 (fun b8 => ?_)
        refine WD.go (.inr (fun b o h => There.i h)) (fun _ _ h => h.elim) ?_
        refine WD.loud (i := 24) (by kernel_rfl) rfl rfl rfl ?_
        refine Op.sA rfl rfl ty_sz_52 rfl rfl rfl rfl rfl ?_
        refine WD.go (.inl rfl) (fun _ _ h => h.elim) ?_
        refine WD.done (by kernel_rfl) ?_
        refine WP.sub [(0, _), (2, _), (4, _), (7, _), (8, _), (15, _), (16, _), (34, _)] ?_ ⟨rfl, rfl, rfl, rfl, rfl, rfl, rfl, rfl, trivial⟩
        refine WP.shO hcn (fun J2 hJ2 hd => ?_)
        have hb := hb.mono (fun b o h => hJ2.2 b o h)
        refine WP.next ?_
        refine WP.seq ?_
        refine WP.seq ?_
        refine WP.region [0, 1, 2, 3, 4, 5, 6] rfl ?_
        refine WP.vl rfl (Yld.lda rfl ty_ag_52 rfl rfl) ?_
        refine WP.loud rfl rfl ?_
        refine Op.cl (seg_Encode_bad (p := (decP (strip bs 4))) hd hm) rfl Try.func64 rfl rfl rfl rfl ?_
        rintro v J L1 - ⟨rfl, rfl, rfl⟩
        try simp only [nf]
        refine WP.mv rfl rfl ?_
        refine WP.vl rfl (Yld.extract rfl rfl rfl) ?_
        refine WP.vl rfl (Yld.extract rfl rfl rfl) ?_
        iterate 2 refine WP.mv rfl rfl ?_
        refine WP.nil ?_
        refine WP.sub [(0, _), (2, _), (4, _), (7, _), (8, _), (9, _), (10, _), (15, _), (16, _), (34, _)] ?_ ⟨rfl, rfl, rfl, rfl, rfl, rfl, rfl, rfl, rfl, rfl, trivial⟩
        refine WP.next ?_
        refine WP.seq ?_
        refine WP.region [0, 1, 2, 3, 4, 5, 6, 7] rfl ?_
        refine WP.mv rfl rfl ?_
        refine WP.vl rfl (Yld.neq rfl rfl rfl true (decide_eq_true (by omega))) ?_
        refine WP.mv rfl rfl ?_
        refine WP.passG rfl rfl rfl rfl rfl rfl rfl rfl ?_
        refine WP.passG rfl rfl rfl rfl rfl rfl rfl rfl ?_
        refine WP.passG rfl rfl rfl rfl rfl rfl rfl rfl ?_
        refine WP.passG rfl rfl rfl rfl rfl rfl rfl rfl ?_
        refine WP.vl rfl (Yld.pickT rfl rfl rfl) ?_
        refine WP.nil ?_
        refine WP.sub [(0, _), (2, _), (4, _), (7, _), (8, _), (9, _), (10, _), (15, _), (16, _), (34, _), (71, _)] ?_ ⟨rfl, rfl, rfl, rfl, rfl, rfl, rfl, rfl, rfl, rfl, rfl, trivial⟩
        refine WP.next ?_
        refine WP.condT rfl ?_
        refine WP.seq ?_
        refine WP.region [0, 1, 2] rfl ?_
        refine WP.vl rfl (Yld.buildS (pl := []) rfl ty_zr_52 ty_zd_52 (by kernel_rfl) rfl (vs := []) rfl (segs := []) rfl rfl (by repeat (first | exact SetSeg.nil | apply SetSeg.one | exact SetAt.zero | apply SetAt.succ))) ?_
        refine WP.loud rfl rfl ?_
        refine Op.sA rfl rfl ty_sz_52 rfl rfl rfl rfl rfl ?_
        refine WP.mv rfl rfl ?_
        refine WP.nil ?_
        refine WP.sub [(0, _), (2, _), (3, _), (4, _), (7, _), (8, _), (9, _), (10, _), (15, _), (16, _), (34, _), (71, _)] ?_ ⟨rfl, rfl, rfl, rfl, rfl, rfl, rfl, rfl, rfl, rfl, rfl, rfl, trivial⟩
        refine WP.next ?_
        refine WP.ret ?_
        refine WP.fn .ret (.inr rfl) (resT (rs := [.cell 2 52, .tmp 3]) (vs := [_, _]) rfl ⟨⟨_, _, _, _, rfl, (by repeat (first | exact There.h | exact There.i (by assumption) | apply There.t | apply There.s)), .inl ⟨ty_ag_52, by rfl, rfl⟩⟩, rfl, trivial⟩ rfl) [] (Imm.le_trans hJ1 hJ2) ?_
        have hn : pdec bs = none := pdec_none (fun h => hm h.2.2.1)
        rw [hn]; exact ⟨_, rfl, RPt.zero _, rfl⟩
       ·refine WP.oper rfl rfl ?_
        refine Op.alloc rfl rfl rfl ty_zr_52 (fun b8 => ?_)
        refine WD.go (.inr (fun b o h => There.i h)) (fun _ _ h => h.elim) ?_
        refine WD.loud (i := 21) (by kernel_rfl) rfl rfl rfl ?_
        refine Op.cl (slices_Clone (bs := cut (strip bs 4) 22 (22 + pmany (strip bs 4))) (by rw [cut_len (by omega)]; exact sub_rd hc (by omega) (by omega)) (by rw [cut_len (by omega)]; omega)) rfl Try.func36 rfl rfl rfl rfl ?_
        rintro v J Lc - ⟨rfl, hcn⟩
        try simp only [nf]
        obtain ⟨Ad, cd, rfl, _⟩ := hcn.slice
        refine WD.go (.inr (fun b o h => There.i h)) (fun _ _ h => h.elim) ?_
        refine WD.val (i := 22) rfl rfl rfl rfl (by kernel_rfl) rfl (Yld.buildS (pl := [(4, 4, 1), (2, 2, 1), (1, 1, 1), (0, 0, 1), (3, 3, 1), (5, 5, 1)]) rfl ty_zr_52 ty_zd_52 (by kernel_rfl) rfl (vs := [_, _, _, _, _, _]) rfl (segs := [(4, [_]), (2, [_]), (1, [_]), (0, [_]), (3, [_]), (5, [_])]) rfl rfl (by repeat (first | exact SetSeg.nil | apply SetSeg.one | exact SetAt.zero | apply SetAt.succ))) ?_
        refine WD.loud (i := 24) (by kernel_rfl) rfl rfl rfl ?_
        refine Op.sA rfl rfl ty_sz_52 rfl rfl rfl rfl rfl ?_
        refine WD.go (.inl rfl) (fun _ _ h => h.elim) ?_
        refine WD.done (by kernel_rfl) ?_
        refine WP.sub [(0, _), (2, _), (4, _), (7, _), (8, _), (15, _), (16, _), (34, _)] ?_ ⟨rfl, rfl, rfl, rfl, rfl, rfl, rfl, rfl, trivial⟩
        refine WP.shO hcn (fun J2 hJ2 hd => ?_)
        have hb := hb.mono (fun b o h => hJ2.2 b o h)
        refine WP.next ?_
        refine WP.seq ?_
        refine WP.seq ?_
        refine WP.region [0, 1, 2, 3, 4, 5, 6] rfl ?_
        refine WP.vl rfl (Yld.lda rfl ty_ag_52 rfl rfl) ?_
        refine WP.loud rfl rfl ?_
        refine Op.cl (seg_Encode_bad (p := (decP (strip bs 4))) hd hm) rfl Try.func64 rfl rfl rfl rfl ?_
        rintro v J L1 - ⟨rfl, rfl, rfl⟩
        try simp only [nf]
        refine WP.mv rfl rfl ?_
        refine WP.vl rfl (Yld.extract rfl rfl rfl) ?_
        refine WP.vl rfl (Yld.extract rfl rfl rfl) ?_
        iterate 2 refine WP.mv rfl rfl ?_
        refine WP.nil ?_
        refine WP.sub [(0, _), (2, _), (4, _), (7, _), (8, _), (9, _), (10, _), (15, _), (16, _), (34, _)] ?_ ⟨rfl, rfl, rfl, rfl, rfl, rfl, rfl, rfl, rfl, rfl, trivial⟩
        refine WP.next ?_
        refine WP.seq ?_
        refine WP.region [0, 1, 2, 3, 4, 5, 6, 7] rfl ?_
        refine WP.mv rfl rfl ?_
        refine WP.vl rfl (Yld.neq rfl rfl rfl true (decide_eq_true (by omega))) ?_
        refine WP.mv rfl rfl ?_
        refine WP.passG rfl rfl rfl rfl rfl rfl rfl rfl ?_
        refine WP.passG rfl rfl rfl rfl rfl rfl rfl rfl ?_
        refine WP.passG rfl rfl rfl rfl rfl rfl rfl rfl ?_
        refine WP.passG rfl rfl rfl rfl rfl rfl rfl rfl ?_
        refine WP.vl rfl (Yld.pickT rfl rfl rfl) ?_
        refine WP.nil ?_
        refine WP.sub [(0, _), (2, _), (4, _), (7, _), (8, _), (9, _), (10, _), (15, _), (16, _), (34, _), (71, _)] ?_ ⟨rfl, rfl, rfl, rfl, rfl, rfl, rfl, rfl, rfl, rfl, rfl, trivial⟩
        refine WP.next ?_
        refine WP.condT rfl ?_
        refine WP.seq ?_
        refine WP.region [0, 1, 2] rfl ?_
        refine WP.vl rfl (Yld.buildS (pl := []) rfl ty_zr_52 ty_zd_52 (by kernel_rfl) rfl (vs := []) rfl (segs := []) rfl rfl (by repeat (first | exact SetSeg.nil | apply SetSeg.one | exact SetAt.zero | apply SetAt.succ))) ?_
        refine WP.loud rfl rfl ?_
        refine Op.sA rfl rfl ty_sz_52 rfl rfl rfl rfl rfl ?_
        refine WP.mv rfl rfl ?_
        refine WP.nil ?_
        refine WP.sub [(0, _), (2, _), (3, _), (4, _), (7, _), (8, _), (9, _), (10, _), (15, _), (16, _), (34, _), (71, _)] ?_ ⟨rfl, rfl, rfl, rfl, rfl, rfl, rfl, rfl, rfl, rfl, rfl, rfl, trivial⟩
        refine WP.next ?_
        refine WP.ret ?_
        refine WP.fn .ret (.inr rfl) (resT (rs := [.cell 2 52, .tmp 3]) (vs := [_, _]) rfl ⟨⟨_, _, _, _, rfl, (by repeat (first | exact There.h | exact There.i (by assumption) | apply There.t | apply There.s)), .inl ⟨ty_ag_52, by rfl, rfl⟩⟩, rfl, trivial⟩ rfl) [] (Imm.le_trans hJ1 hJ2) ?_
        have hn : pdec bs = none := pdec_none (fun h => hm h.2.2.1)
        rw [hn]; exact ⟨_, rfl, RPt.zero _, rfl⟩
      ·refine WP.oper rfl rfl ?_
       refine Op.alloc rfl rfl rfl ty_zr_52 (fun b8 => ?_)
       refine WD.go (.inr (fun b o h => There.i h)) (fun _ _ h => h.elim) ?_
       refine WD.loud (i := 16) (by kernel_rfl) rfl rfl rfl ?_
       refine Op.cl (num_rd hc (by omega) (by omega) (by omega)) rfl Try.func63 rfl rfl rfl rfl ?_
       rintro v J L1 - ⟨rfl, rfl, rfl⟩
       try simp only [nf]
       refine WD.go (.inr (fun b o h => There.i h)) (fun _ _ h => h.elim) ?_
       refine WD.loud (i := 21) (by kernel_rfl) rfl rfl rfl ?_
       refine Op.cl (slices_Clone (bs := cut (strip bs 4) 22 (22 + pmany (strip bs 4))) (by rw [cut_len (by omega)]; exact sub_rd hc (by omega) (by omega)) (by rw [cut_len (by omega)]; omega)) rfl Try.func36 rfl rfl rfl rfl ?_
       rintro v J Lc - ⟨rfl, hcn⟩
       try simp only [nf]
       obtain ⟨Ad, cd, rfl, _⟩ := hcn.slice
       refine WD.go (.inr (fun b o h => There.i h)) (fun _ _ h => h.elim) ?_
       refine WD.val (i := 22) rfl rfl rfl rfl (by kernel_rfl) rfl (Yld.buildS (pl := [(4, 4, 1), (2, 2, 1), (1, 1, 1), (0, 0, 1), (3, 3, 1), (5, 5, 1)]) rfl ty_zr_52 ty_zd_52 (by kernel_rfl) rfl (vs := [_, _, _, _, _, _]) rfl (segs := [(4, [_]), (2, [_]), (1, [_]), (0, [_]), (3, [_]), (5, [_])]) rfl rfl (by repeat (first | exact SetSeg.nil | apply SetSeg.one | exact SetAt.zero | apply SetAt.succ))) ?_
       refine WD.loud (i := 24) (by kernel_rfl) rfl rfl rfl ?_
       refine Op.sA rfl rfl ty_sz_52 rfl rfl rfl rfl rfl ?_
       refine WD.go (.inl rfl) (fun _ _ h => h.elim) ?_
       refine WD.done (by kernel_rfl) ?_
       refine WP.sub [(0, _), (2, _), (4, _), (7, _), (8, _), (15, _), (16, _), (34, _)] ?_ ⟨rfl, rfl, rfl, rfl, rfl, rfl, rfl, rfl, trivial⟩
       refine WP.shO hcn (fun J2 hJ2 hd => ?_)
       have hb := hb.mono (fun b o h => hJ2.2 b o h)
       refine WP.next ?_
       refine WP.seq ?_
       refine WP.seq ?_
       refine WP.region [0, 1, 2, 3, 4, 5, 6] rfl ?_
       refine WP.vl rfl (Yld.lda rfl ty_ag_52 rfl rfl) ?_
       refine WP.loud rfl rfl ?_
       refine Op.cl (seg_Encode_bad (p := (decP (strip bs 4))) hd hm) rfl Try.func64 rfl rfl rfl rfl ?_
       rintro v J L1 - ⟨rfl, rfl, rfl⟩
       try simp only [nf]
       refine WP.mv rfl rfl ?_
       refine WP.vl rfl (Yld.extract rfl rfl rfl) ?_
       refine WP.vl rfl (Yld.extract rfl rfl rfl) ?_
       iterate 2 refine WP.mv rfl rfl ?_
       refine WP.nil ?_
       refine WP.sub [(0, _), (2, _), (4, _), (7, _), (8, _), (9, _), (10, _), (15, _), (16, _), (34, _)] ?_ ⟨rfl, rfl, rfl, rfl, rfl, rfl, rfl, rfl, rfl, rfl, trivial⟩
       refine WP.next ?_
       refine WP.seq ?_
       refine WP.region [0, 1, 2, 3, 4, 5, 6, 7] rfl ?_
       refine WP.mv rfl rfl ?_
       refine WP.vl rfl (Yld.neq rfl rfl rfl true (decide_eq_true (by omega))) ?_
       refine WP.mv rfl rfl ?_
       refine WP.passG rfl rfl rfl rfl rfl rfl rfl rfl ?_
       refine WP.passG rfl rfl rfl rfl rfl rfl rfl rfl ?_
       refine WP.passG rfl rfl rfl rfl rfl rfl rfl rfl ?_
       refine WP.passG rfl rfl rfl rfl rfl rfl rfl rfl ?_
       refine WP.vl rfl (Yld.pickT rfl rfl rfl) ?_
       refine WP.nil ?_
       refine WP.sub [(0, _), (2, _), (4, _), (7, _), (8, _), (9, _), (10, _), (15, _), (16, _), (34, _), (71, _)] ?_ ⟨rfl, rfl, rfl, rfl, rfl, rfl, rfl, rfl, rfl, rfl, rfl, trivial⟩
       refine WP.next ?_
       refine WP.condT rfl ?_
       refine WP.seq ?_
       refine WP.region [0, 1, 2] rfl ?_
       refine WP.vl rfl (Yld.buildS (pl := []) rfl ty_zr_52 ty_zd_52 (by kernel_rfl) rfl (vs := []) rfl (segs := []) rfl rfl (by repeat (first | exact SetSeg.nil | apply SetSeg.one | exact SetAt.zero | apply SetAt.succ))) ?_
       refine WP.loud rfl rfl ?_
       refine Op.sA rfl rfl ty_sz_52 rfl rfl rfl rfl rfl ?_
       refine WP.mv rfl rfl ?_
       refine WP.nil ?_
       refine WP.sub [(0, _), (2, _), (3, _), (4, _), (7, _), (8, _), (9, _), (10, _), (15, _), (16, _), (34, _), (71, _)] ?_ ⟨rfl, rfl, rfl, rfl, rfl, rfl, rfl, rfl, rfl, rfl, rfl, rfl, trivial⟩
       refine WP.next ?_
       refine WP.ret ?_
       refine WP.fn .ret (.inr rfl) (resT (rs := [.cell 2 52, .tmp 3]) (vs := [_, _]) rfl ⟨⟨_, _, _, _, rfl, (by repeat (first | exact There.h | exact There.i (by assumption) | apply There.t | apply There.s)), .inl ⟨ty_ag_52, by rfl, rfl⟩⟩, rfl, trivial⟩ rfl) [] (Imm.le_trans hJ1 hJ2) ?_
       have hn : pdec bs = none := pdec_none (fun h => hm h.2.2.1)
       rw [hn]; exact ⟨_, rfl, RPt.zero _, rfl⟩
     ·refine WP.oper rfl rfl ?_
      refine Op.alloc rfl rfl rfl ty_zr_52 (fun b8 => ?_)
      refine WD.go (.inr (fun b o h => There.i h)) (fun _ _ h => h.elim) ?_
      refine WD.loud (i := 13) (by kernel_rfl) rfl rfl rfl ?_
      refine Op.cl (num_rd hc (by omega) (by omega) (by omega)) rfl Try.func63 rfl rfl rfl rfl ?_
      rintro v J L1 - ⟨rfl, rfl, rfl⟩
      try simp only [nf]
      refine WD.go (.inr (fun b o h => There.i h)) (fun _ _ h => h.elim) ?_
      refine WD.loud (i := 16) (by kernel_rfl) rfl rfl rfl ?_
      refine Op.cl (num_rd hc (by omega) (by omega) (by omega)) rfl Try.func63 rfl rfl rfl rfl ?_
      rintro v J L1 - ⟨rfl, rfl, rfl⟩
      try simp only [nf]
      refine WD.go (.inr (fun b o h => There.i h)) (fun _ _ h => h.elim) ?_
      refine WD.loud (i := 21) (by kernel_rfl) rfl rfl rfl ?_
      refine Op.cl (slices_Clone (bs := cut (strip bs 4) 22 (22 + pmany (strip bs 4))) (by rw [cut_len (by omega)]; exact sub_rd hc (by omega) (by omega)) (by rw [cut_len (by omega)]; omega)) rfl Try.func36 rfl rfl rfl rfl ?_
      rintro v J Lc - ⟨rfl, hcn⟩
      try simp only [nf]
      obtain ⟨Ad, cd, rfl, _⟩ := hcn.slice
      refine WD.go (.inr (fun b o h => There.i h)) (fun _ _ h => h.elim) ?_
      refine WD.val (i := 22) rfl rfl rfl rfl (by kernel_rfl) rfl (Yld.buildS (pl := [(4, 4, 1), (2, 2, 1), (1, 1, 1), (0, 0, 1), (3, 3, 1), (5, 5, 1)]) rfl ty_zr_52 ty_zd_52 (by kernel_rfl) rfl (vs := [_, _, _, _, _, _]) rfl (segs := [(4, [_]), (2, [_]), (1, [_]), (0, [_]), (3, [_]), (5, [_])]) rfl rfl (by repeat (first | exact SetSeg.nil | apply SetSeg.one | exact SetAt.zero | apply SetAt.succ))) ?_
      refine WD.loud (i := 24) (by kernel_rfl) rfl rfl rfl ?_
      refine Op.sA rfl rfl ty_sz_52 rfl rfl rfl rfl rfl ?_
      refine WD.go (.inl rfl) (fun _ _ h => h.elim) ?_
      refine WD.done (by kernel_rfl) ?_
      refine WP.sub [(0, _), (2, _), (4, _), (7, _), (8, _), (15, _), (16, _), (34, _)] ?_ ⟨rfl, rfl, rfl, rfl, rfl, rfl, rfl, rfl, trivial⟩
      refine WP.shO hcn (fun J2 hJ2 hd => ?_)
      have hb := hb.mono (fun b o h => hJ2.2 b o h)
      refine WP.next ?_
      refine WP.seq ?_
      refine WP.seq ?_
      refine WP.region [0, 1, 2, 3, 4, 5, 6] rfl ?_
      refine WP.vl rfl (Yld.lda rfl ty_ag_52 rfl rfl) ?_
      refine WP.loud rfl rfl ?_
      refine Op.cl (seg_Encode_bad (p := (decP (strip bs 4))) hd hm) rfl Try.func64 rfl rfl rfl rfl ?_
      rintro v J L1 - ⟨rfl, rfl, rfl⟩
      try simp only [nf]
      refine WP.mv rfl rfl ?_
      refine WP.vl rfl (Yld.extract rfl rfl rfl) ?_
      refine WP.vl rfl (Yld.extract rfl rfl rfl) ?_
      iterate 2 refine WP.mv rfl rfl ?_
      refine WP.nil ?_
      refine WP.sub [(0, _), (2, _), (4, _), (7, _), (8, _), (9, _), (10, _), (15, _), (16, _), (34, _)] ?_ ⟨rfl, rfl, rfl, rfl, rfl, rfl, rfl, rfl, rfl, rfl, trivial⟩
      refine WP.next ?_
      refine WP.seq ?_
      refine WP.region [0, 1, 2, 3, 4, 5, 6, 7] rfl ?_
      refine WP.mv rfl rfl ?_
      refine WP.vl rfl (Yld.neq rfl rfl rfl true (decide_eq_true (by omega))) ?_
      refine WP.mv rfl rfl ?_
      refine WP.passG rfl rfl rfl rfl rfl rfl rfl rfl ?_
      refine WP.passG rfl rfl rfl rfl rfl rfl rfl rfl ?_
      refine WP.passG rfl rfl rfl rfl rfl rfl rfl rfl ?_
      refine WP.passG rfl rfl rfl rfl rfl rfl rfl rfl ?_
      refine WP.vl rfl (Yld.pickT rfl rfl rfl) ?_
      refine WP.nil ?_
      refine WP.sub [(0, _), (2, _), (4, _), (7, _), (8, _), (9, _), (10, _), (15, _), (16, _), (34, _), (71, _)] ?_ ⟨rfl, rfl, rfl, rfl, rfl, rfl, rfl, rfl, rfl, rfl, rfl, trivial⟩
      refine WP.next ?_
      refine WP.condT rfl ?_
      refine WP.seq ?_
      refine WP.region [0, 1, 2] rfl ?_
      refine WP.vl rfl (Yld.buildS (pl := []) rfl ty_zr_52 ty_zd_52 (by kernel_rfl) rfl (vs := []) rfl (segs := []) rfl rfl (by repeat (first | exact SetSeg.nil | apply SetSeg.one | exact SetAt.zero | apply SetAt.succ))) ?_
      refine WP.loud rfl rfl ?_
      refine Op.sA rfl rfl ty_sz_52 rfl rfl rfl rfl rfl ?_
      refine WP.mv rfl rfl ?_
      refine WP.nil ?_
      refine WP.sub [(0, _), (2, _), (3, _), (4, _), (7, _), (8, _), (9, _), (10, _), (15, _), (16, _), (34, _), (71, _)] ?_ ⟨rfl, rfl, rfl, rfl, rfl, rfl, rfl, rfl, rfl, rfl, rfl, rfl, trivial⟩
      refine WP.next ?_
      refine WP.ret ?_
      refine WP.fn .ret (.inr rfl) (resT (rs := [.cell 2 52, .tmp 3]) (vs := [_, _]) rfl ⟨⟨_, _, _, _, rfl, (by repeat (first | exact There.h | exact There.i (by assumption) | apply There.t | apply There.s)), .inl ⟨ty_ag_52, by rfl, rfl⟩⟩, rfl, trivial⟩ rfl) [] (Imm.le_trans hJ1 hJ2) ?_
      have hn : pdec bs = none := pdec_none (fun h => hm h.2.2.1)
      rw [hn]; exact ⟨_, rfl, RPt.zero _, rfl⟩
    ·refine WP.oper rfl rfl ?_
     refine Op.alloc rfl rfl rfl ty_zr_52 (fun b8 => ?_)
     refine WD.go (.inr (fun b o h => There.i h)) (fun _ _ h => h.elim) ?_
     refine WD.loud (i := 10) (by kernel_rfl) rfl rfl rfl ?_
     refine Op.cl (num_rd hc (by omega) (by omega) (by omega)) rfl Try.func63 rfl rfl rfl rfl ?_
     rintro v J L1 - ⟨rfl, rfl, rfl⟩
     try simp only [nf]
     refine WD.go (.inr (fun b o h => There.i h)) (fun _ _ h => h.elim) ?_
     refine WD.loud (i := 13) (by kernel_rfl) rfl rfl rfl ?_
     refine Op.cl (num_rd hc (by omega) (by omega) (by omega)) rfl Try.func63 rfl rfl rfl rfl ?_
     rintro v J L1 - ⟨rfl, rfl, rfl⟩
     try simp only [nf]
     refine WD.go (.inr (fun b o h => There.i h)) (fun _ _ h => h.elim) ?_
     refine WD.loud (i := 16) (by kernel_rfl) rfl rfl rfl ?_
     refine Op.cl (num_rd hc (by omega) (by omega) (by omega)) rfl Try.func63 rfl rfl rfl rfl ?_
     rintro v J L1 - ⟨rfl, rfl, rfl⟩
     try simp only [nf]
     refine WD.go (.inr (fun b o h => There.i h)) (fun _ _ h => h.elim) ?_
     refine WD.loud (i := 21) (by kernel_rfl) rfl rfl rfl ?_
     refine Op.cl (slices_Clone (bs := cut (strip bs 4) 22 (22 + pmany (strip bs 4))) (by rw [cut_len (by omega)]; exact sub_rd hc (by omega) (by omega)) (by rw [cut_len (by omega)]; omega)) rfl Try.func36 rfl rfl rfl rfl ?_
     rintro v J Lc - ⟨rfl, hcn⟩
     try simp only [nf]
     obtain ⟨Ad, cd, rfl, _⟩ := hcn.slice
     refine WD.go (.inr (fun b o h => There.i h)) (fun _ _ h => h.elim) ?_
     refine WD.val (i := 22) rfl rfl rfl rfl (by kernel_rfl) rfl (Yld.buildS (pl := [(4, 4, 1), (2, 2, 1), (1, 1, 1), (0, 0, 1), (3, 3, 1), (5, 5, 1)]) rfl ty_zr_52 ty_zd_52 (by kernel_rfl) rfl (vs := [_, _, _, _, _, _]) rfl (segs := [(4, [_]), (2, [_]), (1, [_]), (0, [_]), (3, [_]), (5, [_])]) rfl rfl (by repeat (first | exact SetSeg.nil | apply SetSeg.one | exact SetAt.zero | apply SetAt.succ))) ?_
     refine WD.loud (i := 24) (by kernel_rfl) rfl rfl rfl ?_
     refine Op.sA rfl rfl ty_sz_52 rfl rfl rfl rfl rfl ?_
     refine WD.go (.inl rfl) (fun _ _ h => h.elim) ?_
     refine WD.done (by kernel_rfl) ?_
     refine WP.sub [(0, _), (2, _), (4, _), (7, _), (8, _), (15, _), (16, _), (34, _)] ?_ ⟨rfl, rfl, rfl, rfl, rfl, rfl, rfl, rfl, trivial⟩
     refine WP.shO hcn (fun J2 hJ2 hd => ?_)
     have hb := hb.mono (fun b o h => hJ2.2 b o h)
     refine WP.next ?_
     refine WP.seq ?_
     refine WP.seq ?_
     refine WP.region [0, 1, 2, 3, 4, 5, 6] rfl ?_
     refine WP.vl rfl (Yld.lda rfl ty_ag_52 rfl rfl) ?_
     refine WP.loud rfl rfl ?_
     refine Op.cl (seg_Encode_bad (p := (decP (strip bs 4))) hd hm) rfl Try.func64 rfl rfl rfl rfl ?_
     rintro v J L1 - ⟨rfl, rfl, rfl⟩
     try simp only [nf]
     refine WP.mv rfl rfl ?_
     refine WP.vl rfl (Yld.extract rfl rfl rfl) ?_
     refine WP.vl rfl (Yld.extract rfl rfl rfl) ?_
     iterate 2 refine WP.mv rfl rfl ?_
     refine WP.nil ?_
     refine WP.sub [(0, _), (2, _), (4, _), (7, _), (8, _), (9, _), (10, _), (15, _), (16, _), (34, _)] ?_ ⟨rfl, rfl, rfl, rfl, rfl, rfl, rfl, rfl, rfl, rfl, trivial⟩
     refine WP.next ?_
     refine WP.seq ?_
     refine WP.region [0, 1, 2, 3, 4, 5, 6, 7] rfl ?_
     refine WP.mv rfl rfl ?_
     refine WP.vl rfl (Yld.neq rfl rfl rfl true (decide_eq_true (by omega))) ?_
     refine WP.mv rfl rfl ?_
     refine WP.passG rfl rfl rfl rfl rfl rfl rfl rfl ?_
     refine WP.passG rfl rfl rfl rfl rfl rfl rfl rfl ?_
     refine WP.passG rfl rfl rfl rfl rfl rfl rfl rfl ?_
     refine WP.passG rfl rfl rfl rfl rfl rfl rfl rfl ?_
     refine WP.vl rfl (Yld.pickT rfl rfl rfl) ?_
     refine WP.nil ?_
     refine WP.sub [(0, _), (2, _), (4, _), (7, _), (8, _), (9, _), (10, _), (15, _), (16, _), (34, _), (71, _)] ?_ ⟨rfl, rfl, rfl, rfl, rfl, rfl, rfl, rfl, rfl, rfl, rfl, trivial⟩
     refine WP.next ?_
     refine WP.condT rfl ?_
     refine WP.seq ?_
     refine WP.region [0, 1, 2] rfl ?_
     refine WP.vl rfl (Yld.buildS (pl := []) rfl ty_zr_52 ty_zd_52 (by kernel_rfl) rfl (vs := []) rfl (segs := []) rfl rfl (by repeat (first | exact SetSeg.nil | apply SetSeg.one | exact SetAt.zero | apply SetAt.succ))) ?_
     refine WP.loud rfl rfl ?_
     refine Op.sA rfl rfl ty_sz_52 rfl rfl rfl rfl rfl ?_
     refine WP.mv rfl rfl ?_
     refine WP.nil ?_
     refine WP.sub [(0, _), (2, _), (3, _), (4, _), (7, _), (8, _), (9, _), (10, _), (15, _), (16, _), (34, _), (71, _)] ?_ ⟨rfl, rfl, rfl, rfl, rfl, rfl, rfl, rfl, rfl, rfl, rfl, rfl, trivial⟩
     refine WP.next ?_
     refine WP.ret ?_
     refine WP.fn .ret (.inr rfl) (resT (rs := [.cell 2 52, .tmp 3]) (vs := [_, _]) rfl ⟨⟨_, _, _, _, rfl, (by repeat (first | exact There.h | exact There.i (by assumption) | apply There.t | apply There.s)), .inl ⟨ty_ag_52, by rfl, rfl⟩⟩, rfl, trivial⟩ rfl) [] (Imm.le_trans hJ1 hJ2) ?_
     have hn : pdec bs = none := pdec_none (fun h => hm h.2.2.1)
     rw [hn]; exact ⟨_, rfl, RPt.zero _, rfl⟩


theorem seg_Decode {I : Imm} {bs : List UInt8} {vb : Value} (hb : SlRd (fun b o => I.blk b = some o) vb bs.length 1 (bytesV bs)) (hbl : bs.length ≤ 140737488351232) : Spec Try.prog 55 [vb] I [] (fun v J L => ∃ cs, v = .tuple #[.agg cs.toArray, .int .i64 (perr (pdec bs))] ∧ RPt J ((pdec bs).getD ptZ) cs ∧ L = []) := by
 by_cases hm : (decP (strip bs 4)).may
 ·exact seg_Decode_ok hb hbl hm
 ·exact seg_Decode_bad hb hbl hm

end Go.Hp
