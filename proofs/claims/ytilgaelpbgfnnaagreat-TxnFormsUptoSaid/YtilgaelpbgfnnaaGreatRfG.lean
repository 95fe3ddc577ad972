import Derived.Test.YtilgaelpbgfnnaaGreatRfF
import Derived.Test.YtilgaelpbgfnnaaGreatRdG
set_option linter.unusedVariables false
set_option linter.unusedSimpArgs false
namespace Go.Hp
open Go Go.Proofs

theorem txn_EncodePageQ {I : Imm} {r : Pr} {vn : Value} (hr : RNodes I vn r.nodes) (hln : r.nodes.length ≤ 140737488351232) (hsz : 30 + (r.nodes.flatMap nodeB).length ≤ 140737488355328) : Spec Tryz.prog 25 [.agg ([.int .i64 r.page, .int .i64 r.prev, vn]).toArray] I [] (fun v J L' => (∃ vb xs, ∃ e : Int, v = .tuple #[vb, .int .i64 e] ∧ Own 5 1 vb (bytesV xs) xs.length L' ∧ EncR (r.may) (pageB r) xs e)) :=
 (txn_EncodePage hr hln hsz).mono (by
  rintro v J L' - (⟨h, rfl, rfl⟩ | ⟨h, ⟨h1, rfl, rfl⟩ | ⟨h1, vb, rfl, ho⟩⟩)
  ·exact ⟨_, [], 120, rfl, .none0, .inr (.inr ⟨h, rfl, rfl⟩)⟩
  ·exact ⟨_, [], 2, rfl, .none0, .inr (.inl ⟨h, h1, rfl, rfl⟩)⟩
  ·exact ⟨_, _, 0, rfl, ho, .inl ⟨h, h1, rfl, rfl⟩⟩)
theorem txn_EncodeGroupQ {I : Imm} {l : List (Pr × Value)} {v : Value} (hv : RPrs I v l) (hln : l.length ≤ 140737488351232) (hsz : ∀ x ∈ l, sizedP x.1) : Spec Tryz.prog 27 [v] I [] (fun v J L' => (∃ vb xs, ∃ e : Int, v = .tuple #[vb, .int .i64 e] ∧ Own 5 1 vb (bytesV xs) xs.length L' ∧ EncR (mayG (prs l)) (groupB (prs l)) xs e)) :=
 (txn_EncodeGroup hv hln (fun x hx => by have := (hsz x hx).1; omega) (grp_sz fun r hr => by obtain ⟨x, hx, rfl⟩ := List.mem_map.1 hr; exact hsz x hx)).mono (by
  rintro v J L' - (⟨h, rfl, rfl⟩ | ⟨h, ⟨h1, rfl, rfl⟩ | ⟨h1, vb, rfl, ho⟩⟩)
  ·exact ⟨_, [], 120, rfl, .none0, .inr (.inr ⟨h, rfl, rfl⟩)⟩
  ·exact ⟨_, [], 2, rfl, .none0, .inr (.inl ⟨h, h1, rfl, rfl⟩)⟩
  ·exact ⟨_, _, 0, rfl, ho, .inl ⟨h, h1, rfl, rfl⟩⟩)
theorem txn_EncodeCommitQ {I : Imm} {t : Int} : Spec Tryz.prog 29 [.int .i64 t] I [] (fun v J L' => (∃ vb xs, ∃ e : Int, v = .tuple #[vb, .int .i64 e] ∧ Own 5 1 vb (bytesV xs) xs.length L' ∧ EncR ((1 ≤ t ∧ t ≤ 1099511627776)) (numB t.toNat) xs e)) :=
 (txn_EncodeCommit (t := t)).mono (by
  rintro v J L' - (⟨h, rfl, rfl⟩ | ⟨h, vb, rfl, ho⟩)
  ·exact ⟨_, [], 120, rfl, .none0, .inr (.inr ⟨h, rfl, rfl⟩)⟩
  ·exact ⟨_, _, 0, rfl, ho, .inl ⟨h, by have := numB_10 (n := t.toNat) (by omega); omega, rfl, rfl⟩⟩)
theorem txn_TxnForms {I : Imm} {r : Pr} {vr : Value} (hr : RNodes I vr r.nodes) (hrz : sizedP r) {l : List (Pr × Value)} {vl : Value} (hl : RPrs I vl l) (hll : l.length ≤ 1048576) (hlz : ∀ x ∈ l, sizedP x.1) {n : Int} {b : List UInt8} {vb : Value} (hb : SlRd (Im I) vb b.length 1 (bytesV b)) (hbl : b.length ≤ 140737488351232) : Spec Tryz.prog 6 [.agg ([.int .i64 r.page, .int .i64 r.prev, vr]).toArray, vl, .int .i64 n, vb] I [] (fun v J L => v = .bool true ∧ L = []) := by
 obtain ⟨nvr, hnr, _⟩ := id hr.ex
 obtain ⟨Ar, cr, rfl, _⟩ := hnr.slice'
 obtain ⟨Al, cl, rfl, _, _, _⟩ := id hl.rd
 obtain ⟨Ab, cb, rfl, _, _, _⟩ := id hb
 refine Spec.of Tryz.func6 rfl Tryz.ntmps6 (Nat.le_of_ble_eq_true rfl) (fun F => ?_)
 try simp only [nf]
 dsimp only [argsEnv]
 refine WP.seq ?_; refine WP.region [0, 1] rfl ?_; refine WP.loud rfl rfl ?_; refine Op.box rfl rfl rfl rfl rfl (fun b4 => ?_)
 refine WP.mv rfl rfl ?_; refine WP.nil ?_; refine WP.next ?_; refine WP.seq ?_; refine WP.region [0, 1] rfl ?_; refine WP.loud rfl rfl ?_; refine Op.cl txn_awake rfl Tryz.func9 rfl rfl rfl rfl ?_; rintro v J1 L1 hJ1 ⟨rfl, rfl⟩
 try simp only [nf]
 refine WP.mv rfl rfl ?_; refine WP.nil ?_; refine WP.sub [(0, _), (1, _), (2, _), (3, _), (4, _), (8, _), (9, _)] ?_ ⟨rfl, rfl, rfl, rfl, rfl, rfl, rfl, trivial⟩
 refine WP.next ?_; refine WP.seq ?_; refine WP.region [0, 1, 2, 3, 4, 5, 6] rfl ?_; refine WP.vl rfl (Yld.ldg (vs := [.int .i64 r.page, .int .i64 r.prev, (.slice Ar r.nodes.length cr)]) rfl ty_ag_51 rfl rfl rfl) ?_; refine WP.loud rfl rfl ?_; refine Op.cl (txn_EncodePageQ (hr.mono hJ1) (by have := hrz.1; omega) (by have := hrz.b; omega)) rfl Tryz.func25 rfl rfl rfl rfl ?_; rintro v J2 Lx hJ2 ⟨vx, xs, ex, rfl, hox, hrx⟩
 try simp only [nf]
 obtain ⟨Ax, cx, rfl, _⟩ := hox.slice
 refine WP.mv rfl rfl ?_; iterate 2 refine WP.vl rfl (Yld.extract rfl rfl rfl) ?_
 iterate 2 refine WP.mv rfl rfl ?_
 refine WP.nil ?_; refine WP.sub [(0, _), (1, _), (2, _), (3, _), (4, _), (8, _), (9, _), (10, _), (11, _)] ?_ ⟨rfl, rfl, rfl, rfl, rfl, rfl, rfl, rfl, rfl, trivial⟩
 refine WP.next ?_; refine WP.seq ?_; refine WP.region [0, 1, 2, 3, 4, 5, 6] rfl ?_; refine WP.vl rfl (Yld.ldg (vs := [.int .i64 r.page, .int .i64 r.prev, (.slice Ar r.nodes.length cr)]) rfl ty_ag_51 rfl rfl rfl) ?_; refine WP.loud rfl rfl ?_; refine Op.cl (ref12_EncodePage (hr.mono (Imm.le_trans hJ1 hJ2)) (by have := hrz.1; omega) (by have := hrz.b; omega)) rfl Tryz.func26 rfl rfl rfl rfl ?_; rintro v J Ly - ⟨rfl, vy, ys, ey, rfl, hoy, hry⟩
 try simp only [nf]
 obtain ⟨Ay, cy, rfl, _⟩ := hoy.slice
 obtain ⟨rfl, rfl⟩ := hrx.eq hry
 refine WP.mv rfl rfl ?_; iterate 2 refine WP.vl rfl (Yld.extract rfl rfl rfl) ?_
 iterate 2 refine WP.mv rfl rfl ?_
 refine WP.nil ?_; refine WP.sub [(0, _), (1, _), (2, _), (3, _), (4, _), (8, _), (9, _), (10, _), (11, _), (12, _), (13, _)] ?_ ⟨rfl, rfl, rfl, rfl, rfl, rfl, rfl, rfl, rfl, rfl, rfl, trivial⟩
 refine WP.next ?_; iterate 2 refine WP.seq ?_
 refine WP.region [0, 1, 2, 3, 4, 5, 6, 7, 8, 9, 10, 11, 12, 13] rfl ?_; refine WP.mv rfl rfl ?_; refine WP.vl rfl (Yld.not rfl rfl) ?_; refine WP.mv rfl rfl ?_; refine WP.valG rfl rfl rfl rfl rfl rfl rfl (Yld.move rfl rfl) ?_; refine WP.valG rfl rfl rfl rfl rfl rfl rfl (Yld.str (e := 5) rfl (by kernel_rfl) (by kernel_rfl) (by kernel_rfl) rfl (hox.rd (by intro p hp; simp [hp]))) ?_; refine WP.valG rfl rfl rfl rfl rfl rfl rfl (Yld.move rfl rfl) ?_; refine WP.valG rfl rfl rfl rfl rfl rfl rfl (Yld.str (e := 5) rfl (by kernel_rfl) (by kernel_rfl) (by kernel_rfl) rfl (hoy.rd (by intro p hp; simp [hp]))) ?_; refine WP.valG rfl rfl rfl rfl rfl rfl rfl (Yld.neqStr rfl rfl rfl false (by simp)) ?_; refine WP.vl rfl (Yld.pickF rfl rfl rfl) ?_; refine WP.mv rfl rfl ?_; iterate 2 refine WP.valG rfl rfl rfl rfl rfl rfl rfl (Yld.move rfl rfl) ?_
 refine WP.valG rfl rfl rfl rfl rfl rfl rfl (Yld.neq rfl rfl rfl false (decide_eq_false (by simp))) ?_; refine WP.vl rfl (Yld.pickF rfl rfl rfl) ?_; refine WP.nil ?_; refine WP.sub [(0, _), (1, _), (2, _), (3, _), (4, _), (8, _), (9, _), (10, _), (11, _), (12, _), (13, _), (53, _)] ?_ ⟨rfl, rfl, rfl, rfl, rfl, rfl, rfl, rfl, rfl, rfl, rfl, rfl, trivial⟩
 refine WP.next ?_; refine WP.condF rfl ?_; refine WP.skip ?_; refine WP.next ?_; refine WP.seq ?_; refine WP.region [0, 1, 2, 3, 4, 5, 6] rfl ?_; refine WP.mv rfl rfl ?_; refine WP.loud rfl rfl ?_; refine Op.cl (txn_EncodeGroupQ (hl.mono (Imm.le_trans hJ1 hJ2)) (by omega) hlz) rfl Tryz.func27 rfl rfl rfl rfl ?_; rintro v J3 Lz hJ3 ⟨vz, zs, ez, rfl, hoz, hrz⟩
 try simp only [nf]
 obtain ⟨Az, cz, rfl, _⟩ := hoz.slice
 refine WP.mv rfl rfl ?_; iterate 2 refine WP.vl rfl (Yld.extract rfl rfl rfl) ?_
 iterate 2 refine WP.mv rfl rfl ?_
 refine WP.nil ?_; refine WP.sub [(0, _), (1, _), (2, _), (3, _), (4, _), (8, _), (9, _), (10, _), (11, _), (12, _), (13, _), (53, _)] ?_ ⟨rfl, rfl, rfl, rfl, rfl, rfl, rfl, rfl, rfl, rfl, rfl, rfl, trivial⟩
 refine WP.next ?_; refine WP.seq ?_; refine WP.region [0, 1, 2, 3, 4, 5, 6] rfl ?_; refine WP.mv rfl rfl ?_; refine WP.loud rfl rfl ?_; refine Op.cl (ref12_EncodeGroup (hl.mono (Imm.le_trans (Imm.le_trans hJ1 hJ2) hJ3)) (by omega) (fun x hx => by have := (hlz x hx).1; omega) (grp_sz fun r hr => by obtain ⟨x, hx, rfl⟩ := List.mem_map.1 hr; exact hlz x hx)) rfl Tryz.func28 rfl rfl rfl rfl ?_; rintro v J Lw - ⟨rfl, vw, ws, ew, rfl, how, hrw⟩
 try simp only [nf]
 obtain ⟨Aw, cw, rfl, _⟩ := how.slice
 obtain ⟨rfl, rfl⟩ := hrz.eq hrw
 refine WP.mv rfl rfl ?_; iterate 2 refine WP.vl rfl (Yld.extract rfl rfl rfl) ?_
 iterate 2 refine WP.mv rfl rfl ?_
 refine WP.nil ?_; refine WP.sub [(0, _), (1, _), (2, _), (3, _), (4, _), (8, _), (9, _), (10, _), (11, _), (12, _), (13, _), (53, _)] ?_ ⟨rfl, rfl, rfl, rfl, rfl, rfl, rfl, rfl, rfl, rfl, rfl, rfl, trivial⟩
 refine WP.next ?_; iterate 2 refine WP.seq ?_
 refine WP.region [0, 1, 2, 3, 4, 5, 6, 7, 8, 9] rfl ?_; refine WP.mv rfl rfl ?_; refine WP.vl rfl (Yld.str (e := 5) rfl (by kernel_rfl) (by kernel_rfl) (by kernel_rfl) rfl (hoz.rd (by intro p hp; simp [hp]))) ?_; refine WP.mv rfl rfl ?_; refine WP.vl rfl (Yld.str (e := 5) rfl (by kernel_rfl) (by kernel_rfl) (by kernel_rfl) rfl (how.rd (by intro p hp; simp [hp]))) ?_; refine WP.vl rfl (Yld.neqStr rfl rfl rfl false (by simp)) ?_; refine WP.mv rfl rfl ?_; iterate 2 refine WP.valG rfl rfl rfl rfl rfl rfl rfl (Yld.move rfl rfl) ?_
 refine WP.valG rfl rfl rfl rfl rfl rfl rfl (Yld.neq rfl rfl rfl false (decide_eq_false (by simp))) ?_; refine WP.vl rfl (Yld.pickF rfl rfl rfl) ?_; refine WP.nil ?_; refine WP.sub [(0, _), (1, _), (2, _), (3, _), (4, _), (8, _), (9, _), (10, _), (11, _), (12, _), (13, _), (53, _), (73, _)] ?_ ⟨rfl, rfl, rfl, rfl, rfl, rfl, rfl, rfl, rfl, rfl, rfl, rfl, rfl, trivial⟩
 refine WP.next ?_; refine WP.condF rfl ?_; refine WP.skip ?_; refine WP.next ?_; refine WP.seq ?_; refine WP.region [0, 1, 2, 3, 4, 5, 6] rfl ?_; refine WP.mv rfl rfl ?_; refine WP.loud rfl rfl ?_; refine Op.cl (txn_EncodeCommitQ (t := n)) rfl Tryz.func29 rfl rfl rfl rfl ?_; rintro v J4 Lf hJ4 ⟨vf, fs, ef, rfl, hof, hrf⟩
 try simp only [nf]
 obtain ⟨Af, cf, rfl, _⟩ := hof.slice
 refine WP.mv rfl rfl ?_; iterate 2 refine WP.vl rfl (Yld.extract rfl rfl rfl) ?_
 iterate 2 refine WP.mv rfl rfl ?_
 refine WP.nil ?_; refine WP.sub [(0, _), (1, _), (2, _), (3, _), (4, _), (8, _), (9, _), (10, _), (11, _), (12, _), (13, _), (53, _), (73, _)] ?_ ⟨rfl, rfl, rfl, rfl, rfl, rfl, rfl, rfl, rfl, rfl, rfl, rfl, rfl, trivial⟩
 refine WP.next ?_; refine WP.seq ?_; refine WP.region [0, 1, 2, 3, 4, 5, 6] rfl ?_; refine WP.mv rfl rfl ?_; refine WP.loud rfl rfl ?_; refine Op.cl (ref12_EncodeCommit (t := n)) rfl Tryz.func30 rfl rfl rfl rfl ?_; rintro v J Lg - ⟨rfl, vg, gs, eg, rfl, hog, hrg⟩
 try simp only [nf]
 obtain ⟨Ag, cg, rfl, _⟩ := hog.slice
 obtain ⟨rfl, rfl⟩ := hrf.eq hrg
 refine WP.mv rfl rfl ?_; iterate 2 refine WP.vl rfl (Yld.extract rfl rfl rfl) ?_
 iterate 2 refine WP.mv rfl rfl ?_
 refine WP.nil ?_; refine WP.sub [(0, _), (1, _), (2, _), (3, _), (4, _), (8, _), (9, _), (10, _), (11, _), (12, _), (13, _), (53, _), (73, _)] ?_ ⟨rfl, rfl, rfl, rfl, rfl, rfl, rfl, rfl, rfl, rfl, rfl, rfl, rfl, trivial⟩
 refine WP.next ?_; iterate 2 refine WP.seq ?_
 refine WP.region [0, 1, 2, 3, 4, 5, 6, 7, 8, 9] rfl ?_; refine WP.mv rfl rfl ?_; refine WP.vl rfl (Yld.str (e := 5) rfl (by kernel_rfl) (by kernel_rfl) (by kernel_rfl) rfl (hof.rd (by intro p hp; simp [hp]))) ?_; refine WP.mv rfl rfl ?_; refine WP.vl rfl (Yld.str (e := 5) rfl (by kernel_rfl) (by kernel_rfl) (by kernel_rfl) rfl (hog.rd (by intro p hp; simp [hp]))) ?_; refine WP.vl rfl (Yld.neqStr rfl rfl rfl false (by simp)) ?_; refine WP.mv rfl rfl ?_; iterate 2 refine WP.valG rfl rfl rfl rfl rfl rfl rfl (Yld.move rfl rfl) ?_
 refine WP.valG rfl rfl rfl rfl rfl rfl rfl (Yld.neq rfl rfl rfl false (decide_eq_false (by simp))) ?_; refine WP.vl rfl (Yld.pickF rfl rfl rfl) ?_; refine WP.nil ?_; refine WP.sub [(0, _), (1, _), (2, _), (3, _), (4, _), (8, _), (9, _), (10, _), (11, _), (12, _), (13, _), (53, _), (73, _), (93, _)] ?_ ⟨rfl, rfl, rfl, rfl, rfl, rfl, rfl, rfl, rfl, rfl, rfl, rfl, rfl, rfl, trivial⟩
 refine WP.next ?_; refine WP.condF rfl ?_; refine WP.skip ?_; refine WP.next ?_; refine WP.seq ?_; have hK := Imm.le_trans (Imm.le_trans hJ1 hJ2) (Imm.le_trans hJ3 hJ4)
 refine WP.region [0, 1, 2, 3, 4, 5, 6, 7] rfl ?_; refine WP.mv rfl rfl ?_; refine WP.loud rfl rfl ?_; refine Op.cl (txn_DecodePage (hb.mono fun b o k => hK.2 b o k) (by omega)) rfl Tryz.func31 rfl rfl rfl rfl ?_; rintro v J5 L14 hJ5 ⟨rfl, p, vp, ep, rfl, hp, hdp⟩
 try simp only [nf]
 obtain ⟨nvp, hnp, _⟩ := id hp.ex
 obtain ⟨Ap, cp, rfl, _⟩ := hnp.slice'
 refine WP.mv rfl rfl ?_; iterate 2 refine WP.vl rfl (Yld.extract rfl rfl rfl) ?_
 refine WP.loud rfl rfl ?_; refine Op.alloc rfl rfl rfl ty_zr_51 (fun b14 => ?_)
 refine WP.loud rfl rfl ?_; refine Op.sA rfl rfl ty_sz_51 rfl rfl rfl rfl rfl ?_; refine WP.mv rfl rfl ?_; refine WP.nil ?_; refine WP.sub [(0, _), (1, _), (2, _), (3, _), (4, _), (8, _), (9, _), (10, _), (11, _), (12, _), (13, _), (14, _), (15, _), (53, _), (73, _), (93, _)] ?_ ⟨rfl, rfl, rfl, rfl, rfl, rfl, rfl, rfl, rfl, rfl, rfl, rfl, rfl, rfl, rfl, rfl, trivial⟩
 refine WP.next ?_; refine WP.seq ?_; refine WP.region [0, 1, 2, 3, 4, 5, 6, 7] rfl ?_; refine WP.mv rfl rfl ?_; refine WP.loud rfl rfl ?_; refine Op.cl (ref12_DecodePage (hb.mono fun b o k => (Imm.le_trans hK hJ5).2 b o k) (by omega)) rfl Tryz.func32 rfl rfl rfl rfl ?_; rintro v J6 L15 hJ6 ⟨rfl, q, vq, eq_, rfl, hq, hdq⟩
 try simp only [nf]
 obtain ⟨nvq, hnq, _⟩ := id hq.ex
 obtain ⟨Aq, cq, rfl, _⟩ := hnq.slice'
 obtain ⟨rfl, rfl⟩ : q = p ∧ eq_ = ep := by rcases hdp with ⟨h1, rfl, rfl⟩ | ⟨h1, rfl, rfl⟩ <;> rcases hdq with ⟨h2, rfl, rfl⟩ | ⟨h2, rfl, rfl⟩ <;> first | exact ⟨rfl, rfl⟩ | exact absurd h1 h2 | exact absurd h2 h1
 have hql : q.nodes.length ≤ 140737488351232 := by rcases hdq with ⟨⟨_, _, h⟩, _, rfl⟩ | ⟨_, _, rfl⟩; (have := h.2.2.2.2.1; omega); exact Nat.zero_le _
 have hp6 := hp.mono hJ6
 refine WP.mv rfl rfl ?_; iterate 2 refine WP.vl rfl (Yld.extract rfl rfl rfl) ?_
 refine WP.loud rfl rfl ?_; refine Op.alloc rfl rfl rfl ty_zr_51 (fun b16 => ?_)
 refine WP.loud rfl rfl ?_; refine Op.sA rfl rfl ty_sz_51 rfl rfl rfl rfl rfl ?_; refine WP.mv rfl rfl ?_; refine WP.nil ?_; refine WP.sub [(0, _), (1, _), (2, _), (3, _), (4, _), (8, _), (9, _), (10, _), (11, _), (12, _), (13, _), (14, _), (15, _), (16, _), (17, _), (53, _), (73, _), (93, _)] ?_ ⟨rfl, rfl, rfl, rfl, rfl, rfl, rfl, rfl, rfl, rfl, rfl, rfl, rfl, rfl, rfl, rfl, rfl, rfl, trivial⟩
 refine WP.next ?_; refine WP.seq ?_; refine WP.region [0, 1, 2, 3] rfl ?_; refine WP.vl rfl (Yld.ldg (vs := [.int .i64 q.page, .int .i64 q.prev, .slice Ap q.nodes.length cp]) rfl ty_ag_51 rfl rfl rfl) ?_; refine WP.vl rfl (Yld.ldg (vs := [.int .i64 q.page, .int .i64 q.prev, .slice Aq q.nodes.length cq]) rfl ty_ag_51 rfl rfl rfl) ?_; refine WP.loud rfl rfl ?_; refine Op.cl (ref12_Same hp6 hq hql) rfl Tryz.func33 rfl rfl rfl rfl ?_; rintro v J L1 - ⟨c, rfl, hc, rfl, rfl⟩
 try simp only [nf]
 obtain rfl : c = true := hc.2 rfl
 have hK6 := Imm.le_trans (Imm.le_trans hK hJ5) hJ6
 refine WP.mv rfl rfl ?_; refine WP.nil ?_; refine WP.sub [(0, _), (1, _), (2, _), (3, _), (4, _), (8, _), (9, _), (10, _), (11, _), (12, _), (13, _), (14, _), (15, _), (16, _), (17, _), (18, _), (53, _), (73, _), (93, _)] ?_ ⟨rfl, rfl, rfl, rfl, rfl, rfl, rfl, rfl, rfl, rfl, rfl, rfl, rfl, rfl, rfl, rfl, rfl, rfl, rfl, trivial⟩
 refine WP.next ?_; refine WP.seq ?_; refine WP.region [0, 1, 2, 3, 4, 5, 6] rfl ?_; refine WP.mv rfl rfl ?_; refine WP.loud rfl rfl ?_; refine Op.cl (txn_DecodeCommitU (hb.mono fun b o k => hK6.2 b o k) (by omega)) rfl Tryz.func34 rfl rfl rfl rfl ?_; rintro v J7 L17 hJ7 ⟨rfl, n1, e1, rfl, hd1⟩
 try simp only [nf]
 refine WP.mv rfl rfl ?_; iterate 2 refine WP.vl rfl (Yld.extract rfl rfl rfl) ?_
 iterate 2 refine WP.mv rfl rfl ?_
 refine WP.nil ?_; refine WP.sub [(0, _), (1, _), (2, _), (3, _), (4, _), (8, _), (9, _), (10, _), (11, _), (12, _), (13, _), (14, _), (15, _), (16, _), (17, _), (18, _), (19, _), (20, _), (53, _), (73, _), (93, _)] ?_ ⟨rfl, rfl, rfl, rfl, rfl, rfl, rfl, rfl, rfl, rfl, rfl, rfl, rfl, rfl, rfl, rfl, rfl, rfl, rfl, rfl, rfl, trivial⟩
 refine WP.next ?_; refine WP.seq ?_; refine WP.region [0, 1, 2, 3, 4, 5, 6] rfl ?_; refine WP.mv rfl rfl ?_; refine WP.loud rfl rfl ?_; refine Op.cl (ref12_DecodeCommit (hb.mono fun b o k => (Imm.le_trans hK6 hJ7).2 b o k) (by omega)) rfl Tryz.func35 rfl rfl rfl rfl ?_; rintro v J8 L18 hJ8 ⟨rfl, n2, e2, rfl, hd2⟩
 try simp only [nf]
 obtain ⟨rfl, rfl⟩ : n2 = n1 ∧ e2 = e1 := by rcases hd1 with ⟨h1, rfl, rfl⟩ | ⟨h1, rfl, rfl⟩ <;> rcases hd2 with ⟨h2, rfl, rfl⟩ | ⟨h2, rfl, rfl⟩ <;> first | exact ⟨rfl, rfl⟩ | exact absurd h1 h2 | exact absurd h2 h1
 have hK8 := Imm.le_trans (Imm.le_trans hK6 hJ7) hJ8
 refine WP.mv rfl rfl ?_; iterate 2 refine WP.vl rfl (Yld.extract rfl rfl rfl) ?_
 iterate 2 refine WP.mv rfl rfl ?_
 refine WP.nil ?_; refine WP.sub [(0, _), (1, _), (2, _), (3, _), (4, _), (8, _), (9, _), (10, _), (11, _), (12, _), (13, _), (14, _), (15, _), (16, _), (17, _), (18, _), (19, _), (20, _), (21, _), (22, _), (53, _), (73, _), (93, _)] ?_ ⟨rfl, rfl, rfl, rfl, rfl, rfl, rfl, rfl, rfl, rfl, rfl, rfl, rfl, rfl, rfl, rfl, rfl, rfl, rfl, rfl, rfl, rfl, rfl, trivial⟩
 refine WP.next ?_; refine WP.seq ?_; refine WP.region [0, 1, 2, 3, 4, 5, 6] rfl ?_; refine WP.mv rfl rfl ?_; refine WP.loud rfl rfl ?_; refine Op.cl (txn_DecodeGroup (hb.mono fun b o k => hK8.2 b o k) (by omega)) rfl Tryz.func36 rfl rfl rfl rfl ?_; rintro v J9 L19 hJ9 ⟨rfl, vm, ms, em, rfl, hms, hdm⟩
 try simp only [nf]
 obtain ⟨Am, cm, rfl, _, _, _⟩ := id hms.rd
 refine WP.mv rfl rfl ?_; iterate 2 refine WP.vl rfl (Yld.extract rfl rfl rfl) ?_
 iterate 2 refine WP.mv rfl rfl ?_
 refine WP.nil ?_; refine WP.sub [(0, _), (1, _), (2, _), (3, _), (4, _), (8, _), (9, _), (10, _), (11, _), (12, _), (13, _), (14, _), (15, _), (16, _), (17, _), (18, _), (19, _), (20, _), (21, _), (22, _), (23, _), (24, _), (53, _), (73, _), (93, _)] ?_ ⟨rfl, rfl, rfl, rfl, rfl, rfl, rfl, rfl, rfl, rfl, rfl, rfl, rfl, rfl, rfl, rfl, rfl, rfl, rfl, rfl, rfl, rfl, rfl, rfl, rfl, trivial⟩
 refine WP.next ?_; refine WP.seq ?_; refine WP.region [0, 1, 2, 3, 4, 5, 6] rfl ?_; refine WP.mv rfl rfl ?_; refine WP.loud rfl rfl ?_; refine Op.cl (ref12_DecodeGroup (hb.mono fun b o k => (Imm.le_trans hK8 hJ9).2 b o k) (by omega)) rfl Tryz.func37 rfl rfl rfl rfl ?_; rintro v J10 L20 hJ10 ⟨rfl, vo, os, eo, rfl, hos, hdo⟩
 try simp only [nf]
 obtain ⟨Ao, co, rfl, _, _, _⟩ := id hos.rd
 obtain ⟨hpe, rfl⟩ : prs ms = prs os ∧ eo = em := by rcases hdm with ⟨h1, rfl, h3⟩ | ⟨h1, rfl, rfl⟩ <;> rcases hdo with ⟨h2, rfl, h4⟩ | ⟨h2, rfl, rfl⟩ <;> first | exact ⟨h3.trans h4.symm, rfl⟩ | exact ⟨rfl, rfl⟩ | exact absurd h1 h2 | exact absurd h2 h1
 have hlen : ms.length = os.length := by rw [← prs_len, hpe, prs_len]
 have hmz : ∀ x ∈ ms, x.1.nodes.length ≤ 64 := fun x hx => by rcases hdm with ⟨h1, _, h3⟩ | ⟨_, _, rfl⟩; exact (mayG_el h1.2.2 x.1 (by rw [← h3]; exact List.mem_map_of_mem hx)).2.2; cases hx
 have hml : ms.length ≤ 8 := by rcases hdm with ⟨h1, _, h3⟩ | ⟨_, _, rfl⟩; (rw [← prs_len, h3]; exact h1.2.2.2.1); exact Nat.zero_le _
 have hmsJ := hms.mono hJ10
 refine WP.mv rfl rfl ?_; iterate 2 refine WP.vl rfl (Yld.extract rfl rfl rfl) ?_
 iterate 2 refine WP.mv rfl rfl ?_
 refine WP.nil ?_; refine WP.sub [(0, _), (1, _), (2, _), (3, _), (4, _), (8, _), (9, _), (10, _), (11, _), (12, _), (13, _), (14, _), (15, _), (16, _), (17, _), (18, _), (19, _), (20, _), (21, _), (22, _), (23, _), (24, _), (25, _), (26, _), (53, _), (73, _), (93, _)] ?_ ⟨rfl, rfl, rfl, rfl, rfl, rfl, rfl, rfl, rfl, rfl, rfl, rfl, rfl, rfl, rfl, rfl, rfl, rfl, rfl, rfl, rfl, rfl, rfl, rfl, rfl, rfl, rfl, trivial⟩
 refine WP.next ?_; iterate 2 refine WP.seq ?_
 refine WP.region [0, 1, 2, 3, 4, 5, 6, 7, 8, 9, 10, 11, 12, 13, 14, 15, 16, 17, 18, 19, 20, 21, 22, 23, 24, 25, 26, 27, 28] rfl ?_; refine WP.mv rfl rfl ?_; refine WP.vl rfl (Yld.not rfl rfl) ?_; refine WP.mv rfl rfl ?_; iterate 2 refine WP.valG rfl rfl rfl rfl rfl rfl rfl (Yld.move rfl rfl) ?_
 refine WP.valG rfl rfl rfl rfl rfl rfl rfl (Yld.neq rfl rfl rfl false (decide_eq_false (by simp))) ?_; refine WP.vl rfl (Yld.pickF rfl rfl rfl) ?_; refine WP.mv rfl rfl ?_; iterate 2 refine WP.valG rfl rfl rfl rfl rfl rfl rfl (Yld.move rfl rfl) ?_
 refine WP.valG rfl rfl rfl rfl rfl rfl rfl (Yld.neq rfl rfl rfl false (decide_eq_false (by simp))) ?_; refine WP.vl rfl (Yld.pickF rfl rfl rfl) ?_; refine WP.mv rfl rfl ?_; iterate 2 refine WP.valG rfl rfl rfl rfl rfl rfl rfl (Yld.move rfl rfl) ?_
 refine WP.valG rfl rfl rfl rfl rfl rfl rfl (Yld.neq rfl rfl rfl false (decide_eq_false (by simp))) ?_; refine WP.vl rfl (Yld.pickF rfl rfl rfl) ?_; refine WP.mv rfl rfl ?_; iterate 2 refine WP.valG rfl rfl rfl rfl rfl rfl rfl (Yld.move rfl rfl) ?_
 refine WP.valG rfl rfl rfl rfl rfl rfl rfl (Yld.neq rfl rfl rfl false (decide_eq_false (by simp))) ?_; refine WP.vl rfl (Yld.pickF rfl rfl rfl) ?_; refine WP.mv rfl rfl ?_; refine WP.valG rfl rfl rfl rfl rfl rfl rfl (Yld.move rfl rfl) ?_; refine WP.valG rfl rfl rfl rfl rfl rfl rfl (Yld.len rfl ty_sl_52 rfl) ?_; refine WP.valG rfl rfl rfl rfl rfl rfl rfl (Yld.move rfl rfl) ?_; refine WP.valG rfl rfl rfl rfl rfl rfl rfl (Yld.len rfl ty_sl_52 rfl) ?_; refine WP.valG rfl rfl rfl rfl rfl rfl rfl (Yld.neq rfl rfl rfl false (decide_eq_false (by omega))) ?_; refine WP.vl rfl (Yld.pickF rfl rfl rfl) ?_; refine WP.nil ?_; refine WP.sub [(0, _), (1, _), (2, _), (3, _), (4, _), (8, _), (9, _), (10, _), (11, _), (12, _), (13, _), (14, _), (15, _), (16, _), (17, _), (18, _), (19, _), (20, _), (21, _), (22, _), (23, _), (24, _), (25, _), (26, _), (53, _), (73, _), (93, _), (155, _)] ?_ ⟨rfl, rfl, rfl, rfl, rfl, rfl, rfl, rfl, rfl, rfl, rfl, rfl, rfl, rfl, rfl, rfl, rfl, rfl, rfl, rfl, rfl, rfl, rfl, rfl, rfl, rfl, rfl, rfl, trivial⟩
 refine WP.next ?_; refine WP.condF rfl ?_; refine WP.skip ?_; refine WP.next ?_; iterate 2 refine WP.seq ?_
 refine WP.region [0] rfl ?_; refine WP.mv rfl rfl ?_; refine WP.nil ?_; refine WP.next ?_; refine WP.block ?_; refine WP.loop (X := Nat) (fun i : Nat => [(23, (.slice Am ms.length cm)), (25, (.slice Ao os.length co)), (27, .int .i64 (i : Int))]) (fun _ => J10) (fun _ : Nat => F) (fun i : Nat => i ≤ ms.length) (fun i => ms.length - i) 0 (Nat.zero_le _) ⟨rfl, rfl, rfl, trivial⟩ rfl (by (try simp only [List.append_eq, List.cons_append, List.nil_append, List.append_assoc]); repeat (first | exact Rm.chunk | exact Rm.here | exact Rm.nil0 | apply Rm.skip | apply Rm.skipS | apply PX.cons | (apply PX.done; (repeat (first | exact Leave.done | apply Leave.drop | apply Leave.dropS)); done) | apply PX.app)) ?_; rintro i hle
 try dsimp only
 try simp only [nf]
 iterate 2 refine WP.seq ?_
 refine WP.region [0, 1, 2, 3] rfl ?_; iterate 2 refine WP.mv rfl rfl ?_
 refine WP.vl rfl (Yld.len rfl ty_sl_52 rfl) ?_; refine WP.split rfl rfl rfl rfl (Yld.lss rfl rfl rfl) (fun hlt => ?_) (fun hlt => ?_)
 ·have hi : i < ms.length := by omega
  have hil : i < os.length := by omega
  obtain ⟨bl1, kl1, Tl1, fl1, arl1, ea1, hbl1, hcl1⟩ := hmsJ.at_ hi
  obtain ⟨bl2, kl2, Tl2, fl2, arl2, ea2, hbl2, hcl2⟩ := hos.at_ hil
  have heq : ms[i].1 = os[i].1 := by have h := congrArg (fun q => q[i]?) hpe; simpa [prs, hi, hil] using h
  have hsn := hmz _ (List.getElem_mem hi)
  have hr1 : ms[i].2.oneCell' = true := by obtain ⟨nv, ⟨A, c, e, _⟩, _⟩ := (hms.el _ (List.getElem_mem hi)).ex; rw [e]; rfl
  have hr2 : os[i].2.oneCell' = true := by obtain ⟨nv, ⟨A, c, e, _⟩, _⟩ := (hos.el _ (List.getElem_mem hil)).ex; rw [e]; rfl
  refine WP.nil ?_; refine WP.sub [(23, _), (25, _), (27, _), (159, _)] ?_ ⟨rfl, rfl, rfl, rfl, trivial⟩
  refine WP.next ?_; refine WP.condT rfl ?_; refine WP.skip ?_; refine WP.next ?_; refine WP.seq ?_; refine WP.block ?_; refine WP.seq ?_; refine WQ.start Tryzmixed 8 (by kernel_rfl) _ rfl [8, 9] rfl ?_; iterate 2 refine WQ.val rfl rfl rfl (Yld.move rfl rfl) ?_
  refine WQ.val rfl rfl rfl (Yld.indexAddr (i := i) rfl ty_sl_52 (congrArg (fun a => some (Value.slice a ms.length cm)) ea1) rfl hi) ?_; refine WQ.val rfl rfl rfl (Yld.loadAggC (vs := [.int .i64 ms[i].1.page, .int .i64 ms[i].1.prev, ms[i].2]) rfl ty_ag_51 rfl (There.i hbl1) hcl1 rfl) ?_; iterate 2 refine WQ.val rfl rfl rfl (Yld.move rfl rfl) ?_
  refine WQ.val rfl rfl rfl (Yld.indexAddr (i := i) rfl ty_sl_52 (congrArg (fun a => some (Value.slice a os.length co)) ea2) rfl hil) ?_; refine WQ.val rfl rfl rfl (Yld.loadAggC (vs := [.int .i64 os[i].1.page, .int .i64 os[i].1.prev, os[i].2]) rfl ty_ag_51 rfl (There.i hbl2) hcl2 rfl) ?_; refine WQ.nil ?_; refine WP.loud rfl rfl ?_; refine Op.cl (ref12_Same (hmsJ.el _ (List.getElem_mem hi)) (hos.el _ (List.getElem_mem hil)) (by omega)) rfl Tryz.func33 rfl rfl rfl rfl ?_; rintro v J L1 - ⟨c2, rfl, hc2, rfl, rfl⟩
  try simp only [nf]
  obtain rfl : c2 = true := hc2.2 heq
  refine WP.mv rfl rfl ?_; refine WP.nil ?_; refine WP.sub [(23, _), (25, _), (27, _), (28, _), (159, _)] ?_ ⟨rfl, rfl, rfl, rfl, rfl, trivial⟩
  refine WP.next ?_; refine WP.seq ?_; refine WP.region [0, 1] rfl ?_; refine WP.mv rfl rfl ?_; refine WP.vl rfl (Yld.not rfl rfl) ?_; refine WP.nil ?_; refine WP.sub [(23, _), (25, _), (27, _), (28, _), (159, _), (172, _)] ?_ ⟨rfl, rfl, rfl, rfl, rfl, rfl, trivial⟩
  refine WP.next ?_; refine WP.condF rfl ?_; refine WP.skip ?_; refine WP.leave ?_; refine WP.next ?_; refine WP.region [0, 1, 2] rfl ?_; refine WP.mv rfl rfl ?_; refine WP.vl rfl (Yld.add64 rfl rfl rfl (by omega)) ?_; refine WP.mv rfl rfl ?_; refine WP.nil ?_; refine WP.sub [(23, _), (25, _), (27, _), (28, _), (159, _), (172, _)] ?_ ⟨rfl, rfl, rfl, rfl, rfl, rfl, trivial⟩
  exact WP.again (i + 1) hi (show ms.length - (i + 1) < ms.length - i by omega) ⟨rfl, rfl, rfl, trivial⟩ rfl (by (try simp only [List.append_eq, List.cons_append, List.nil_append, List.append_assoc]); repeat (first | exact Rm.chunk | exact Rm.here | exact Rm.nil0 | apply Rm.skip | apply Rm.skipS | apply PX.cons | (apply PX.done; (repeat (first | exact Leave.done | apply Leave.drop | apply Leave.dropS)); done) | apply PX.app))
 ·refine WP.nil ?_
  refine WP.sub [(23, _), (25, _), (27, _), (159, _)] ?_ ⟨rfl, rfl, rfl, rfl, trivial⟩
  refine WP.next ?_; refine WP.condF rfl ?_; refine WP.exit ?_; iterate 2 refine WP.thenE ?_
  refine WP.hit ?_; refine WP.next ?_; refine WP.seq ?_; refine WP.region [0] rfl ?_; refine WP.mv rfl rfl ?_; refine WP.nil ?_; refine WP.next ?_; refine WP.ret ?_; refine WP.fn .ret (.inr rfl) (res1 rfl rfl) [] (Imm.le_trans hK8 (Imm.le_trans hJ9 hJ10)) ?_; exact ⟨rfl, rfl⟩


end Go.Hp
