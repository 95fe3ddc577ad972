import Derived.Test.YtgcbhbcmohcdpaaGreatChkK
set_option linter.unusedVariables false
set_option linter.unusedSimpArgs false
namespace Go.Hp
open Go Go.Proofs

theorem KDec.len {b : List UInt8} {c : Ck} {e : Int} (h : KDec b c e) : c.ps.length ≤ 512 := by
 rcases h with ⟨h1, _, rfl⟩ | ⟨_, _, rfl⟩
 ·exact Ck.len h1.2.2
 ·exact Nat.zero_le _
set_option maxHeartbeats 1000000 in
theorem chk_CheckForms {I : Imm} {c : Ck} {vp : Value} (hv : SlRd (Im I) vp c.ps.length 4 (c.ps.flatMap mpV)) {b : List UInt8} {vb : Value} (hb : SlRd (Im I) vb b.length 1 (bytesV b)) (hbl : b.length ≤ 140737488351232) : Spec Tryz.prog 3 [.agg (kV c vp).toArray, vb] I [] (fun v J L => v = .bool true ∧ L = []) := by
 obtain ⟨Ap, cp, rfl, _, _, _⟩ := id hv
 obtain ⟨Ab, cb, rfl, _, _, _⟩ := id hb
 refine Spec.of Tryz.func3 rfl Tryz.ntmps3 (Nat.le_of_ble_eq_true rfl) (fun F => ?_)
 try simp only [nf]
 dsimp only [argsEnv]
 refine WP.seq ?_; refine WP.region [0, 1] rfl ?_; refine WP.loud rfl rfl ?_; refine Op.box rfl rfl rfl rfl rfl (fun b2 => ?_)
 refine WP.mv rfl rfl ?_; refine WP.nil (WP.next (WP.seq ?_))
 refine WP.region [0, 1] rfl ?_; refine WP.loud rfl rfl ?_; refine Op.cl chk_awake rfl Tryz.func4 rfl rfl rfl rfl ?_; rintro v J1 L1 hJ1 ⟨rfl, rfl⟩
 try simp only [nf]
 refine WP.mv rfl rfl ?_; refine WP.nil ?_; refine WP.sub [(0, _), (1, _), (2, _), (4, _), (5, _)] ?_ ⟨rfl, rfl, rfl, rfl, rfl, trivial⟩
 refine WP.next (WP.seq ?_)
 refine WP.region [0, 1, 2, 3, 4, 5, 6] rfl ?_; refine WP.vl rfl (Yld.ldg (vs := kV c (.slice Ap c.ps.length cp)) rfl ty_ag_24 rfl rfl rfl) ?_; refine WP.loud rfl rfl ?_; refine Op.cl (chk_Encode (hv.mono (fun b o k => hJ1.2 b o k))) rfl Tryz.func5 rfl rfl rfl rfl ?_; rintro v J2 L2 hJ2 ⟨vx, xs, e1, rfl, hex, hox⟩
 try simp only [nf]
 obtain ⟨Ax, cx, rfl, _⟩ := hox.slice
 refine WP.mv rfl rfl ?_; iterate 2 refine WP.vl rfl (Yld.extract rfl rfl rfl) ?_
 iterate 2 refine WP.mv rfl rfl ?_
 refine WP.nil ?_; refine WP.sub [(0, _), (1, _), (2, _), (4, _), (5, _), (6, _), (7, _)] ?_ ⟨rfl, rfl, rfl, rfl, rfl, rfl, rfl, trivial⟩
 refine WP.shO hox (fun J3 hJ3 hxs => ?_)
 have hJ13 := Imm.le_trans hJ1 (Imm.le_trans hJ2 hJ3)
 refine WP.next (WP.seq ?_)
 refine WP.region [0, 1, 2, 3, 4, 5, 6] rfl ?_; refine WP.vl rfl (Yld.ldg (vs := kV c (.slice Ap c.ps.length cp)) rfl ty_ag_24 rfl rfl rfl) ?_; refine WP.loud rfl rfl ?_; refine Op.cl (rchk_Encode (hv.mono (fun b o k => hJ13.2 b o k))) rfl Tryz.func6 rfl rfl rfl rfl ?_; rintro v J4 L3 hJ4 ⟨vy, ys, e2, rfl, hey, hoy⟩
 try simp only [nf]
 obtain ⟨rfl, rfl⟩ := hex.uniq hey
 obtain ⟨Ay, cy, rfl, _⟩ := hoy.slice
 refine WP.mv rfl rfl ?_; iterate 2 refine WP.vl rfl (Yld.extract rfl rfl rfl) ?_
 iterate 2 refine WP.mv rfl rfl ?_
 refine WP.nil ?_; refine WP.sub [(0, _), (1, _), (2, _), (4, _), (5, _), (6, _), (7, _), (8, _), (9, _)] ?_ ⟨rfl, rfl, rfl, rfl, rfl, rfl, rfl, rfl, rfl, trivial⟩
 refine WP.shO hoy (fun J5 hJ5 hys => ?_)
 have hJ15 := Imm.le_trans hJ13 (Imm.le_trans hJ4 hJ5)
 have hxl := hex.le
 refine WP.next (WP.seq ?_)
 refine WP.region [0, 1, 2, 3, 4, 5, 6, 7] rfl ?_; refine WP.mv rfl rfl ?_; refine WP.loud rfl rfl ?_; refine Op.cl (chk_Decode (hb.mono (fun b o k => hJ15.2 b o k)) (by omega)) rfl Tryz.func7 rfl rfl rfl rfl ?_; rintro v J6 L4 hJ6 ⟨rfl, d, vd, e3, rfl, hpd, hdd⟩
 try simp only [nf]
 obtain ⟨Ad, cd', rfl, _, _, _⟩ := id hpd
 refine WP.mv rfl rfl ?_; iterate 2 refine WP.vl rfl (Yld.extract rfl rfl rfl) ?_
 refine WP.loud rfl rfl ?_; refine Op.alloc rfl rfl rfl ty_zr_24 (fun b10 => ?_)
 refine WP.loud rfl rfl ?_; refine Op.sA rfl rfl ty_sz_24 rfl rfl rfl rfl rfl ?_; refine WP.mv rfl rfl ?_; refine WP.nil ?_; refine WP.sub [(0, _), (1, _), (2, _), (4, _), (5, _), (6, _), (7, _), (8, _), (9, _), (10, _), (11, _)] ?_ ⟨rfl, rfl, rfl, rfl, rfl, rfl, rfl, rfl, rfl, rfl, rfl, trivial⟩
 refine WP.next (WP.seq ?_)
 refine WP.region [0, 1, 2, 3, 4, 5, 6, 7] rfl ?_; refine WP.mv rfl rfl ?_; refine WP.loud rfl rfl ?_; refine Op.cl (rchk_Decode (hb.mono (fun b o k => (Imm.le_trans hJ15 hJ6).2 b o k)) (by omega)) rfl Tryz.func8 rfl rfl rfl rfl ?_; rintro v J7 L5 hJ7 ⟨rfl, g, vg, e4, rfl, hpg, hdg⟩
 try simp only [nf]
 obtain ⟨rfl, rfl⟩ := hdd.uniq hdg
 obtain ⟨Ag, cg', rfl, _, _, _⟩ := id hpg
 refine WP.mv rfl rfl ?_; iterate 2 refine WP.vl rfl (Yld.extract rfl rfl rfl) ?_
 refine WP.loud rfl rfl ?_; refine Op.alloc rfl rfl rfl ty_zr_24 (fun b12 => ?_)
 refine WP.loud rfl rfl ?_; refine Op.sA rfl rfl ty_sz_24 rfl rfl rfl rfl rfl ?_; refine WP.mv rfl rfl ?_; refine WP.nil ?_; refine WP.sub [(0, _), (1, _), (2, _), (4, _), (5, _), (6, _), (7, _), (8, _), (9, _), (10, _), (11, _), (12, _), (13, _)] ?_ ⟨rfl, rfl, rfl, rfl, rfl, rfl, rfl, rfl, rfl, rfl, rfl, rfl, rfl, trivial⟩
 refine WP.next (WP.seq ?_)
 refine WP.region [0, 1, 2, 3] rfl ?_; refine WP.vl rfl (Yld.ldg (vs := kV d (.slice Ad d.ps.length cd')) rfl ty_ag_24 rfl rfl rfl) ?_; refine WP.vl rfl (Yld.ldg (vs := kV d (.slice Ag d.ps.length cg')) rfl ty_ag_24 rfl rfl rfl) ?_; refine WP.loud rfl rfl ?_; refine Op.cl (rchk_Same (hpd.mono (fun b o k => hJ7.2 b o k)) hpg (by have := hdd.len; omega)) rfl Tryz.func9 rfl rfl rfl rfl ?_; rintro v J L1 - ⟨sb, rfl, hsb, rfl, rfl⟩
 try simp only [nf]
 obtain rfl : sb = true := hsb.2 rfl
 refine WP.mv rfl rfl ?_; refine WP.nil ?_; refine WP.sub [(0, _), (1, _), (2, _), (4, _), (5, _), (6, _), (7, _), (8, _), (9, _), (10, _), (11, _), (12, _), (13, _), (14, _)] ?_ ⟨rfl, rfl, rfl, rfl, rfl, rfl, rfl, rfl, rfl, rfl, rfl, rfl, rfl, rfl, trivial⟩
 refine WP.next (WP.seq ?_)
 refine WP.region [0, 1, 2, 3, 4, 5, 6, 7] rfl ?_; refine WP.mv rfl rfl ?_; refine WP.loud rfl rfl ?_; refine Op.cl (chk_Decode (hxs.mono (fun b o k => (Imm.le_trans hJ4 (Imm.le_trans hJ5 (Imm.le_trans hJ6 hJ7))).2 b o k)) (by omega)) rfl Tryz.func7 rfl rfl rfl rfl ?_; rintro v J8 L7 hJ8 ⟨rfl, z, vz, e5, rfl, hpz, hdz⟩
 try simp only [nf]
 obtain ⟨Az, cz', rfl, _, _, _⟩ := id hpz
 have hJ18 := Imm.le_trans hJ15 (Imm.le_trans hJ6 (Imm.le_trans hJ7 hJ8))
 refine WP.mv rfl rfl ?_; iterate 2 refine WP.vl rfl (Yld.extract rfl rfl rfl) ?_
 refine WP.loud rfl rfl ?_; refine Op.alloc rfl rfl rfl ty_zr_24 (fun b15 => ?_)
 refine WP.loud rfl rfl ?_; refine Op.sA rfl rfl ty_sz_24 rfl rfl rfl rfl rfl ?_; refine WP.mv rfl rfl ?_; refine WP.nil ?_; refine WP.sub [(0, _), (1, _), (2, _), (4, _), (5, _), (6, _), (7, _), (8, _), (9, _), (10, _), (11, _), (12, _), (13, _), (14, _), (15, _), (16, _)] ?_ ⟨rfl, rfl, rfl, rfl, rfl, rfl, rfl, rfl, rfl, rfl, rfl, rfl, rfl, rfl, rfl, rfl, trivial⟩
 refine WP.next (WP.seq ?_)
 refine WP.region [0, 1, 2, 3] rfl ?_; refine WP.vl rfl (Yld.ldg (vs := kV z (.slice Az z.ps.length cz')) rfl ty_ag_24 rfl rfl rfl) ?_; refine WP.vl rfl (Yld.ldg (vs := kV c (.slice Ap c.ps.length cp)) rfl ty_ag_24 rfl rfl rfl) ?_; refine WP.loud rfl rfl ?_; refine Op.cl (rchk_Same hpz (hv.mono (fun b o k => hJ18.2 b o k)) (by have := hdz.len; omega)) rfl Tryz.func9 rfl rfl rfl rfl ?_; rintro v J L1 - ⟨sa, rfl, hsa, rfl, rfl⟩
 try simp only [nf]
 refine WP.mv rfl rfl ?_; refine WP.nil ?_; refine WP.sub [(0, _), (1, _), (2, _), (4, _), (5, _), (6, _), (7, _), (8, _), (9, _), (10, _), (11, _), (12, _), (13, _), (14, _), (15, _), (16, _), (17, _)] ?_ ⟨rfl, rfl, rfl, rfl, rfl, rfl, rfl, rfl, rfl, rfl, rfl, rfl, rfl, rfl, rfl, rfl, rfl, trivial⟩
 refine WP.next (WP.seq (WP.seq ?_))
 refine WP.region [0, 1, 2, 3, 4, 5, 6, 7, 8, 9, 10, 11, 12, 13, 14, 15, 16, 17, 18, 19, 20, 21, 22] rfl ?_; refine WP.mv rfl rfl ?_; refine WP.vl rfl (Yld.not rfl rfl) ?_; refine WP.mv rfl rfl ?_; refine WP.valG rfl rfl rfl rfl rfl rfl rfl (Yld.move rfl rfl) ?_; refine WP.valG rfl rfl rfl rfl rfl rfl rfl (Yld.str (e := 5) rfl zK zK zK rfl ((hxs.mono (fun b o k => (Imm.le_trans hJ4 (Imm.le_trans hJ5 (Imm.le_trans hJ6 (Imm.le_trans hJ7 hJ8)))).2 b o k)).mono (fun b o h => .inr h))) ?_; refine WP.valG rfl rfl rfl rfl rfl rfl rfl (Yld.move rfl rfl) ?_; refine WP.valG rfl rfl rfl rfl rfl rfl rfl (Yld.str (e := 5) rfl zK zK zK rfl ((hys.mono (fun b o k => (Imm.le_trans hJ6 (Imm.le_trans hJ7 hJ8)).2 b o k)).mono (fun b o h => .inr h))) ?_; refine WP.valG rfl rfl rfl rfl rfl rfl rfl (Yld.neqStr rfl rfl rfl false (by simp)) ?_; refine WP.vl rfl (Yld.pickF rfl rfl rfl) ?_; refine WP.mv rfl rfl ?_; iterate 2 refine WP.valG rfl rfl rfl rfl rfl rfl rfl (Yld.move rfl rfl) ?_
 refine WP.valG rfl rfl rfl rfl rfl rfl rfl (Yld.neq rfl rfl rfl false (decide_eq_false (by simp))) ?_; refine WP.vl rfl (Yld.pickF rfl rfl rfl) ?_; refine WP.mv rfl rfl ?_; refine WP.valG rfl rfl rfl rfl rfl rfl rfl (Yld.move rfl rfl) ?_; refine WP.valG rfl rfl rfl rfl rfl rfl rfl (Yld.not rfl rfl) ?_; refine WP.vl rfl (Yld.pickF rfl rfl rfl) ?_; refine WP.mv rfl rfl ?_; iterate 2 refine WP.valG rfl rfl rfl rfl rfl rfl rfl (Yld.move rfl rfl) ?_
 refine WP.valG rfl rfl rfl rfl rfl rfl rfl (Yld.neq rfl rfl rfl false (decide_eq_false (by simp))) ?_; refine WP.vl rfl (Yld.pickF rfl rfl rfl) ?_; refine WP.nil ?_; refine WP.sub [(0, _), (1, _), (2, _), (4, _), (5, _), (6, _), (7, _), (8, _), (9, _), (10, _), (11, _), (12, _), (13, _), (14, _), (15, _), (16, _), (17, _), (72, _)] ?_ ⟨rfl, rfl, rfl, rfl, rfl, rfl, rfl, rfl, rfl, rfl, rfl, rfl, rfl, rfl, rfl, rfl, rfl, rfl, trivial⟩
 refine WP.next ?_; refine WP.condF rfl ?_; refine WP.skip (WP.next (WP.seq ?_))
 refine WP.region [0, 1, 2, 3, 4, 5, 6, 7, 8, 9] rfl ?_; refine WP.mv rfl rfl ?_; refine WP.split rfl rfl rfl rfl (Yld.neq rfl rfl rfl) (fun h11 => ?_) (fun h11 => ?_)
 ·refine WP.mv rfl rfl ?_
  iterate 5 refine WP.passG rfl rfl rfl rfl rfl rfl rfl rfl ?_
  refine WP.vl rfl (Yld.pickT rfl rfl rfl) ?_; refine WP.mv rfl rfl ?_; refine WP.nil ?_; refine WP.sub [(0, _), (1, _), (2, _), (4, _), (5, _), (6, _), (7, _), (8, _), (9, _), (10, _), (11, _), (12, _), (13, _), (14, _), (15, _), (16, _), (17, _), (72, _)] ?_ ⟨rfl, rfl, rfl, rfl, rfl, rfl, rfl, rfl, rfl, rfl, rfl, rfl, rfl, rfl, rfl, rfl, rfl, rfl, trivial⟩
  refine WP.next (WP.ret ?_)
  refine WP.fn .ret (.inr rfl) (res1 rfl rfl) [] hJ18 ?_; exact ⟨rfl, rfl⟩
 ·obtain rfl : e1 = 0 := by omega
  obtain ⟨h7, hc7⟩ := kEnc_dec hex hdz
  obtain rfl : sa = true := hsa.2 hc7
  refine WP.mv rfl rfl ?_; refine WP.valG rfl rfl rfl rfl rfl rfl rfl (Yld.move rfl rfl) ?_; refine WP.valG rfl rfl rfl rfl rfl rfl rfl (Yld.eql rfl rfl rfl true (decide_eq_true (by omega))) ?_; iterate 2 refine WP.valG rfl rfl rfl rfl rfl rfl rfl (Yld.move rfl rfl) ?_
  refine WP.valG rfl rfl rfl rfl rfl rfl rfl (Yld.pickT rfl rfl rfl) ?_; refine WP.vl rfl (Yld.pickF rfl rfl rfl) ?_; refine WP.mv rfl rfl ?_; refine WP.nil ?_; refine WP.sub [(0, _), (1, _), (2, _), (4, _), (5, _), (6, _), (7, _), (8, _), (9, _), (10, _), (11, _), (12, _), (13, _), (14, _), (15, _), (16, _), (17, _), (72, _)] ?_ ⟨rfl, rfl, rfl, rfl, rfl, rfl, rfl, rfl, rfl, rfl, rfl, rfl, rfl, rfl, rfl, rfl, rfl, rfl, trivial⟩
  refine WP.next (WP.ret ?_)
  refine WP.fn .ret (.inr rfl) (res1 rfl rfl) [] hJ18 ?_; exact ⟨rfl, rfl⟩


end Go.Hp
