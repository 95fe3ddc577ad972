import Derived.Test.YtilgaelpbgfnnaaGreatRdE
import Derived.Test.YtilgaelpbgfnnaaGreatTxnAA
set_option linter.unusedVariables false
set_option linter.unusedSimpArgs false
namespace Go.Hp
open Go Go.Proofs

theorem node_bound (M : Nat) (hM : M < 18446744073709551616) : ∀ (l : List (Bool × List UInt8)), (∀ y ∈ l, y.2.length ≤ M) → (l.flatMap nodeB).length ≤ l.length * (M + 20)
 | [], _ => Nat.zero_le _
 | y :: l, h => by
  have ih := node_bound M hM l fun x hx => h x (.tail _ hx)
  have h1 := h y (.head _)
  have h2 := numB_10 (n := y.2.length) (by omega)
  have h3 := numB_10 (n := if y.1 then 1 else 0) (by split <;> decide)
  rw [List.flatMap_cons, List.length_append, List.length_cons, Nat.add_mul, Nat.one_mul]
  have e : (nodeB y).length = (numB (if y.1 then 1 else 0)).length + ((numB y.2.length).length + y.2.length) := by unfold nodeB; rw [List.length_append, List.length_append]
  omega
def sizedP (r : Pr) : Prop := r.nodes.length ≤ 1048576 ∧ ∀ y ∈ r.nodes, y.2.length ≤ 1048576
theorem sizedP.b {r : Pr} (h : sizedP r) : (r.nodes.flatMap nodeB).length ≤ 1099532599296 := by
 have h1 := node_bound 1048576 (by decide) r.nodes h.2
 have h2 : r.nodes.length * (1048576 + 20) ≤ 1048576 * (1048576 + 20) := Nat.mul_le_mul_right _ h.1
 omega
theorem grp_bound : ∀ (l : List Pr), (∀ r ∈ l, sizedP r ∧ pageOk r.page) → (l.flatMap grB).length ≤ l.length * 1099532600000
 | [], _ => Nat.zero_le _
 | r :: l, h => by
  have ih := grp_bound l fun x hx => h x (.tail _ hx)
  obtain ⟨h1, h4, h5⟩ := h r (.head _)
  have h2 := h1.b
  have h0 := h1.1
  have h3 := numB_10 (n := r.page.toNat) (by omega)
  have h6 := numB_10 (n := r.nodes.length) (by omega)
  rw [List.flatMap_cons, List.length_append, List.length_cons, Nat.add_mul, Nat.one_mul]
  have e : (grB r).length = (numB r.page.toNat).length + ((numB r.nodes.length).length + (r.nodes.flatMap nodeB).length) := by unfold grB nodesB; rw [List.length_append, List.length_append]
  omega
theorem grp_sz {l : List Pr} (h : ∀ r ∈ l, sizedP r) (hm : mayG l) : (groupB l).length ≤ 140737488355328 := by
 have h1 := grp_bound l fun r hr => ⟨h r hr, (mayG_el hm r hr).1⟩
 have h2 := hm.2.1
 have h3 := numB_10 (n := l.length) (by omega)
 have e : groupB l = numB l.length ++ l.flatMap grB := rfl
 rw [e, List.length_append]
 omega
theorem txn_EncodePageU {I : Imm} {r : Pr} {vn : Value} (hr : RNodes I vn r.nodes) (hln : r.nodes.length ≤ 140737488351232) (hsz : 30 + (r.nodes.flatMap nodeB).length ≤ 140737488355328) : Spec Tryz.prog 25 [.agg ([.int .i64 r.page, .int .i64 r.prev, vn]).toArray] I [] (fun v J L' => (∃ vb xs, ∃ e : Int, v = .tuple #[vb, .int .i64 e] ∧ Own 5 1 vb (bytesV xs) xs.length L' ∧ xs.length ≤ 12671 ∧ ((e = 0 ∧ r.may ∧ (pageB r).length ≤ 12671 ∧ xs = pageB r) ∨ (e ≠ 0 ∧ xs = [] ∧ (r.may → 12671 < (pageB r).length))))) :=
 (txn_EncodePage hr hln hsz).mono (by
  rintro v J L' - (⟨h, rfl, rfl⟩ | ⟨h, ⟨h1, rfl, rfl⟩ | ⟨h1, vb, rfl, ho⟩⟩)
  ·exact ⟨_, [], 120, rfl, .none0, Nat.zero_le _, .inr ⟨by decide, rfl, fun q => absurd q h⟩⟩
  ·exact ⟨_, [], 2, rfl, .none0, Nat.zero_le _, .inr ⟨by decide, rfl, fun _ => h1⟩⟩
  ·exact ⟨_, _, 0, rfl, ho, h1, .inl ⟨rfl, h, h1, rfl⟩⟩)
theorem txn_EncodeGroupU {I : Imm} {l : List (Pr × Value)} {v : Value} (hv : RPrs I v l) (hln : l.length ≤ 140737488351232) (hsz : ∀ x ∈ l, sizedP x.1) : Spec Tryz.prog 27 [v] I [] (fun v J L' => (∃ vb xs, ∃ e : Int, v = .tuple #[vb, .int .i64 e] ∧ Own 5 1 vb (bytesV xs) xs.length L' ∧ xs.length ≤ 12671 ∧ ((e = 0 ∧ mayG (prs l) ∧ (groupB (prs l)).length ≤ 12671 ∧ xs = groupB (prs l)) ∨ (e ≠ 0 ∧ xs = [] ∧ (mayG (prs l) → 12671 < (groupB (prs l)).length))))) :=
 (txn_EncodeGroup hv hln (fun x hx => by have := (hsz x hx).1; omega) (grp_sz fun r hr => by obtain ⟨x, hx, rfl⟩ := List.mem_map.1 hr; exact hsz x hx)).mono (by
  rintro v J L' - (⟨h, rfl, rfl⟩ | ⟨h, ⟨h1, rfl, rfl⟩ | ⟨h1, vb, rfl, ho⟩⟩)
  ·exact ⟨_, [], 120, rfl, .none0, Nat.zero_le _, .inr ⟨by decide, rfl, fun q => absurd q h⟩⟩
  ·exact ⟨_, [], 2, rfl, .none0, Nat.zero_le _, .inr ⟨by decide, rfl, fun _ => h1⟩⟩
  ·exact ⟨_, _, 0, rfl, ho, h1, .inl ⟨rfl, h, h1, rfl⟩⟩)
theorem txn_EncodeCommitU {I : Imm} {t : Int} : Spec Tryz.prog 29 [.int .i64 t] I [] (fun v J L' => ∃ vb xs, ∃ e : Int, v = .tuple #[vb, .int .i64 e] ∧ Own 5 1 vb (bytesV xs) xs.length L' ∧ xs.length ≤ 12671 ∧ ((e = 0 ∧ (1 ≤ t ∧ t ≤ 1099511627776) ∧ xs = numB t.toNat) ∨ (e ≠ 0 ∧ xs = [] ∧ ¬ (1 ≤ t ∧ t ≤ 1099511627776)))) :=
 (txn_EncodeCommit (t := t)).mono (by
  rintro v J L' - (⟨h, rfl, rfl⟩ | ⟨h, vb, rfl, ho⟩)
  ·exact ⟨_, [], 120, rfl, .none0, Nat.zero_le _, .inr ⟨by decide, rfl, h⟩⟩
  ·exact ⟨_, _, 0, rfl, ho, by have := numB_10 (n := t.toNat) (by omega); omega, .inl ⟨rfl, h, rfl⟩⟩)
theorem txn_DecodeCommitU {I : Imm} {b : List UInt8} {vb : Value} (hb : SlRd (Im I) vb b.length 1 (bytesV b)) (hl : b.length ≤ 140737488355328) : Spec Tryz.prog 34 [vb] I [] (fun v J L => L = [] ∧ ∃ n : Int, ∃ e : Int, v = .tuple #[.int .i64 n, .int .i64 e] ∧ ((okC b ∧ n = ((rNum 1099511627776 ⟨b, 0⟩).1 : Int) ∧ e = 0) ∨ (¬ okC b ∧ n = 0 ∧ e = 120))) :=
 (txn_DecodeCommit hb hl).mono (by
  rintro v J L' - ⟨rfl, ⟨h, rfl⟩ | ⟨h, rfl⟩⟩
  ·exact ⟨rfl, _, _, rfl, .inl ⟨h, rfl, rfl⟩⟩
  ·exact ⟨rfl, _, _, rfl, .inr ⟨h, rfl, rfl⟩⟩)
theorem txn_TxnBack {I : Imm} {r : Pr} {vr : Value} (hr : RNodes I vr r.nodes) (hrz : sizedP r) {l : List (Pr × Value)} {vl : Value} (hl : RPrs I vl l) (hll : l.length ≤ 1048576) (hlz : ∀ x ∈ l, sizedP x.1) {n : Int} {b : List UInt8} {vb : Value} (hb : SlRd (Im I) vb b.length 1 (bytesV b)) (hbl : b.length ≤ 140737488351232) : Spec Tryz.prog 7 [.agg ([.int .i64 r.page, .int .i64 r.prev, vr]).toArray, vl, .int .i64 n, vb] I [] (fun v J L => v = .bool true ∧ L = []) := by
 obtain ⟨nvr, hnr, _⟩ := id hr.ex
 obtain ⟨Ar, cr, rfl, _⟩ := hnr.slice'
 obtain ⟨Al, cl, rfl, _, _, _⟩ := id hl.rd
 obtain ⟨Ab, cb, rfl, _, _, _⟩ := id hb
 refine Spec.of Tryz.func7 rfl Tryz.ntmps7 (Nat.le_of_ble_eq_true rfl) (fun F => ?_)
 try simp only [nf]
 dsimp only [argsEnv]
 refine WP.seq ?_
 refine WP.region [0, 1] rfl ?_
 refine WP.loud rfl rfl ?_
 refine Op.box rfl rfl rfl rfl rfl (fun b4 => ?_)
 refine WP.mv rfl rfl ?_
 refine WP.nil ?_
 refine WP.next ?_
 refine WP.seq ?_
 refine WP.region [0, 1] rfl ?_
 refine WP.loud rfl rfl ?_
 refine Op.cl txn_awake rfl Tryz.func9 rfl rfl rfl rfl ?_
 rintro v J1 L1 hJ1 ⟨rfl, rfl⟩
 try simp only [nf]
 refine WP.mv rfl rfl ?_
 refine WP.nil ?_
 refine WP.sub [(0, _), (1, _), (2, _), (3, _), (4, _), (8, _), (9, _)] ?_ ⟨rfl, rfl, rfl, rfl, rfl, rfl, rfl, trivial⟩
 refine WP.next ?_
 refine WP.seq ?_
 refine WP.region [0, 1, 2, 3, 4, 5, 6] rfl ?_
 refine WP.vl rfl (Yld.ldg (vs := [.int .i64 r.page, .int .i64 r.prev, (.slice Ar r.nodes.length cr)]) rfl ty_ag_51 rfl rfl rfl) ?_
 refine WP.loud rfl rfl ?_
 refine Op.cl (txn_EncodePageU (hr.mono hJ1) (by have := hrz.1; omega) (by have := hrz.b; omega)) rfl Tryz.func25 rfl rfl rfl rfl ?_
 rintro v J2 L2 hJ2 ⟨vx, xs, e1, rfl, hox, hxl, hen⟩
 try simp only [nf]
 obtain ⟨Ax, cx, rfl, _⟩ := hox.slice
 refine WP.mv rfl rfl ?_
 refine WP.vl rfl (Yld.extract rfl rfl rfl) ?_
 refine WP.vl rfl (Yld.extract rfl rfl rfl) ?_
 iterate 2 refine WP.mv rfl rfl ?_
 refine WP.nil ?_
 refine WP.sub [(0, _), (1, _), (2, _), (3, _), (4, _), (8, _), (9, _), (10, _), (11, _)] ?_ ⟨rfl, rfl, rfl, rfl, rfl, rfl, rfl, rfl, rfl, trivial⟩
 refine WP.shO hox (fun J3 hJ3 hxs => ?_)
 refine WP.next ?_
 refine WP.seq ?_
 refine WP.region [0, 1, 2, 3, 4, 5, 6, 7] rfl ?_
 refine WP.mv rfl rfl ?_
 refine WP.loud rfl rfl ?_
 refine Op.cl (txn_DecodePage hxs (by omega)) rfl Tryz.func31 rfl rfl rfl rfl ?_
 rintro v J4 L3 hJ4 ⟨rfl, p, vp, e2, rfl, hp, hde⟩
 try simp only [nf]
 obtain ⟨nvp, hnp, _⟩ := id hp.ex
 obtain ⟨Ap, cp, rfl, _⟩ := hnp.slice'
 refine WP.mv rfl rfl ?_
 refine WP.vl rfl (Yld.extract rfl rfl rfl) ?_
 refine WP.vl rfl (Yld.extract rfl rfl rfl) ?_
 refine WP.loud rfl rfl ?_
 refine Op.alloc rfl rfl rfl ty_zr_51 (fun b12 => ?_)
 refine WP.loud rfl rfl ?_
 refine Op.sA rfl rfl ty_sz_51 rfl rfl rfl rfl rfl ?_
 refine WP.mv rfl rfl ?_
 refine WP.nil ?_
 refine WP.sub [(0, _), (1, _), (2, _), (3, _), (4, _), (8, _), (9, _), (10, _), (11, _), (12, _), (13, _)] ?_ ⟨rfl, rfl, rfl, rfl, rfl, rfl, rfl, rfl, rfl, rfl, rfl, trivial⟩
 refine WP.next ?_
 refine WP.seq ?_
 have hJ14 := Imm.le_trans hJ1 (Imm.le_trans hJ2 (Imm.le_trans hJ3 hJ4))
 have hpl : p.nodes.length ≤ 140737488351232 := by rcases hde with ⟨⟨_, _, h⟩, _, rfl⟩ | ⟨_, _, rfl⟩; (have := h.2.2.2.2.1; omega); exact Nat.zero_le _
 have hce : e1 = 0 → e2 = 0 ∧ p = r := fun h => by rcases hen with ⟨_, h1, h2, rfl⟩ | ⟨h1, _⟩; (obtain ⟨q1, q2⟩ := okP_lay h1 h2; rcases hde with ⟨_, h3, h4⟩ | ⟨h3, _⟩; exact ⟨h3, h4.trans q2⟩; exact absurd q1 h3); exact absurd h h1
 refine WP.region [0, 1, 2, 3] rfl ?_
 refine WP.vl rfl (Yld.ldg (vs := [.int .i64 p.page, .int .i64 p.prev, (.slice Ap p.nodes.length cp)]) rfl ty_ag_51 rfl rfl rfl) ?_
 refine WP.vl rfl (Yld.ldg (vs := [.int .i64 r.page, .int .i64 r.prev, (.slice Ar r.nodes.length cr)]) rfl ty_ag_51 rfl rfl rfl) ?_
 refine WP.loud rfl rfl ?_
 refine Op.cl (ref12_Same hp (hr.mono hJ14) hpl) rfl Tryz.func33 rfl rfl rfl rfl ?_
 rintro v J L1 - ⟨c, rfl, hc, rfl, rfl⟩
 try simp only [nf]
 refine WP.mv rfl rfl ?_
 refine WP.nil ?_
 refine WP.sub [(0, _), (1, _), (2, _), (3, _), (4, _), (8, _), (9, _), (10, _), (11, _), (12, _), (13, _), (14, _)] ?_ ⟨rfl, rfl, rfl, rfl, rfl, rfl, rfl, rfl, rfl, rfl, rfl, rfl, trivial⟩
 refine WP.next ?_
 refine WP.cut (X := Unit) (fun _ : Unit => [(1, (.slice Al l.length cl)), (2, .int .i64 n), (3, (.slice Ab b.length cb))]) (fun _ => J4) (fun _ : Unit => (b12, row 51 [.int .i64 p.page, .int .i64 p.prev, (.slice Ap p.nodes.length cp)]) :: (b4, row 51 [.int .i64 r.page, .int .i64 r.prev, (.slice Ar r.nodes.length cr)]) :: F) (fun _ : Unit => True) ?_ ?_
 ·skip
  refine WP.seq ?_
  refine WP.region [0, 1, 2, 3, 4, 5, 6, 7, 8, 9, 10, 11, 12, 13] rfl ?_
  refine WP.mv rfl rfl ?_
  refine WP.vl rfl (Yld.not rfl rfl) ?_
  refine WP.mv rfl rfl ?_
  refine WP.valG rfl rfl rfl rfl rfl rfl rfl (Yld.move rfl rfl) ?_
  refine WP.splitG rfl rfl rfl rfl rfl rfl rfl (Yld.eql rfl rfl rfl) (fun h54 => ?_) (fun h54 => ?_)
  ·obtain ⟨rfl, hpr⟩ := hce h54
   obtain rfl : c = true := hc.2 hpr
   refine WP.valG rfl rfl rfl rfl rfl rfl rfl (Yld.move rfl rfl) ?_
   refine WP.valG rfl rfl rfl rfl rfl rfl rfl (Yld.move rfl rfl) ?_
   refine WP.valG rfl rfl rfl rfl rfl rfl rfl (Yld.neq rfl rfl rfl false (decide_eq_false (by decide))) ?_
   refine WP.valG rfl rfl rfl rfl rfl rfl rfl (Yld.move rfl rfl) ?_
   refine WP.valG rfl rfl rfl rfl rfl rfl rfl (Yld.move rfl rfl) ?_
   refine WP.valG rfl rfl rfl rfl rfl rfl rfl (Yld.not rfl rfl) ?_
   refine WP.valG rfl rfl rfl rfl rfl rfl rfl (Yld.pickF rfl rfl rfl) ?_
   refine WP.valG rfl rfl rfl rfl rfl rfl rfl (Yld.pickT rfl rfl rfl) ?_
   refine WP.vl rfl (Yld.pickF rfl rfl rfl) ?_
   refine WP.nil ?_
   refine WP.sub [(0, _), (1, _), (2, _), (3, _), (4, _), (8, _), (9, _), (10, _), (11, _), (12, _), (13, _), (14, _), (56, _)] ?_ ⟨rfl, rfl, rfl, rfl, rfl, rfl, rfl, rfl, rfl, rfl, rfl, rfl, rfl, trivial⟩
   refine WP.next ?_
   refine WP.condF rfl ?_
   refine WP.skip ?_
   exact WP.meet () trivial ⟨rfl, rfl, rfl, trivial⟩ rfl (by (try simp only [List.append_eq, List.cons_append, List.nil_append, List.append_assoc]); repeat (first | exact Rm.chunk | exact Rm.here | exact Rm.nil0 | apply Rm.skip | apply Rm.skipS | apply PX.cons | (apply PX.done; (repeat (first | exact Leave.done | apply Leave.drop | apply Leave.dropS)); done) | apply PX.app))
  ·refine WP.valG rfl rfl rfl rfl rfl rfl rfl (Yld.move rfl rfl) ?_
   refine WP.passG rfl rfl rfl rfl rfl rfl rfl rfl ?_
   refine WP.passG rfl rfl rfl rfl rfl rfl rfl rfl ?_
   refine WP.passG rfl rfl rfl rfl rfl rfl rfl rfl ?_
   refine WP.passG rfl rfl rfl rfl rfl rfl rfl rfl ?_
   refine WP.passG rfl rfl rfl rfl rfl rfl rfl rfl ?_
   refine WP.passG rfl rfl rfl rfl rfl rfl rfl rfl ?_
   refine WP.valG rfl rfl rfl rfl rfl rfl rfl (Yld.pickF rfl rfl rfl) ?_
   refine WP.vl rfl (Yld.pickF rfl rfl rfl) ?_
   refine WP.nil ?_
   refine WP.sub [(0, _), (1, _), (2, _), (3, _), (4, _), (8, _), (9, _), (10, _), (11, _), (12, _), (13, _), (14, _), (56, _)] ?_ ⟨rfl, rfl, rfl, rfl, rfl, rfl, rfl, rfl, rfl, rfl, rfl, rfl, rfl, trivial⟩
   refine WP.next ?_
   refine WP.condF rfl ?_
   refine WP.skip ?_
   exact WP.meet () trivial ⟨rfl, rfl, rfl, trivial⟩ rfl (by (try simp only [List.append_eq, List.cons_append, List.nil_append, List.append_assoc]); repeat (first | exact Rm.chunk | exact Rm.here | exact Rm.nil0 | apply Rm.skip | apply Rm.skipS | apply PX.cons | (apply PX.done; (repeat (first | exact Leave.done | apply Leave.drop | apply Leave.dropS)); done) | apply PX.app))
 ·rintro _ -
  refine WP.seq ?_
  refine WP.region [0, 1, 2, 3, 4, 5, 6] rfl ?_
  refine WP.mv rfl rfl ?_
  refine WP.loud rfl rfl ?_
  refine Op.cl (txn_EncodeGroupU (hl.mono hJ14) (by omega) hlz) rfl Tryz.func27 rfl rfl rfl rfl ?_
  rintro v J5 L7 hJ5 ⟨vy, ys, e3, rfl, hoy, hyl, heg⟩
  try simp only [nf]
  obtain ⟨Ay, cy, rfl, _⟩ := hoy.slice
  refine WP.mv rfl rfl ?_
  refine WP.vl rfl (Yld.extract rfl rfl rfl) ?_
  refine WP.vl rfl (Yld.extract rfl rfl rfl) ?_
  iterate 2 refine WP.mv rfl rfl ?_
  refine WP.nil ?_
  refine WP.sub [(1, _), (2, _), (3, _), (15, _), (16, _)] ?_ ⟨rfl, rfl, rfl, rfl, rfl, trivial⟩
  refine WP.shO hoy (fun J6 hJ6 hys => ?_)
  refine WP.next ?_
  refine WP.seq ?_
  refine WP.region [0, 1, 2, 3, 4, 5, 6] rfl ?_
  refine WP.mv rfl rfl ?_
  refine WP.loud rfl rfl ?_
  refine Op.cl (txn_DecodeGroup hys (by omega)) rfl Tryz.func36 rfl rfl rfl rfl ?_
  rintro v J7 L8 hJ7 ⟨rfl, vm, ps, e4, rfl, hps, hdg⟩
  try simp only [nf]
  obtain ⟨Am, cm, rfl, _, _, _⟩ := id hps.rd
  have hJ17 := Imm.le_trans hJ14 (Imm.le_trans hJ5 (Imm.le_trans hJ6 hJ7))
  have hlJ := hl.mono hJ17
  have hcg : e3 = 0 → e4 = 0 ∧ prs ps = prs l := fun h => by rcases heg with ⟨_, h1, h2, rfl⟩ | ⟨h1, _⟩; (obtain ⟨q1, q2⟩ := okG_lay h1 h2; rcases hdg with ⟨_, h3, h4⟩ | ⟨h3, _⟩; exact ⟨h3, h4.trans q2⟩; exact absurd q1 h3); exact absurd h h1
  have hcl : e3 = 0 → ps.length = l.length := fun h => by rw [← prs_len, (hcg h).2, prs_len]
  refine WP.mv rfl rfl ?_
  refine WP.vl rfl (Yld.extract rfl rfl rfl) ?_
  refine WP.vl rfl (Yld.extract rfl rfl rfl) ?_
  iterate 2 refine WP.mv rfl rfl ?_
  refine WP.nil ?_
  refine WP.sub [(1, _), (2, _), (3, _), (15, _), (16, _), (17, _), (18, _)] ?_ ⟨rfl, rfl, rfl, rfl, rfl, rfl, rfl, trivial⟩
  refine WP.next ?_
  refine WP.cut (X := Unit) (fun _ : Unit => [(1, (.slice Al l.length cl)), (2, .int .i64 n), (3, (.slice Ab b.length cb)), (16, .int .i64 e3), (17, (.slice Am ps.length cm))]) (fun _ => J7) (fun _ : Unit => (b12, row 51 [.int .i64 p.page, .int .i64 p.prev, (.slice Ap p.nodes.length cp)]) :: (b4, row 51 [.int .i64 r.page, .int .i64 r.prev, (.slice Ar r.nodes.length cr)]) :: F) (fun _ : Unit => True) ?_ ?_
  ·skip
   refine WP.seq ?_
   refine WP.region [0, 1, 2, 3, 4, 5, 6, 7, 8, 9, 10, 11, 12] rfl ?_
   refine WP.mv rfl rfl ?_
   refine WP.split rfl rfl rfl rfl (Yld.eql rfl rfl rfl) (fun h91 => ?_) (fun h91 => ?_)
   ·have hlen := hcl h91
    have he4 := (hcg h91).1
    refine WP.mv rfl rfl ?_
    refine WP.valG rfl rfl rfl rfl rfl rfl rfl (Yld.move rfl rfl) ?_
    refine WP.valG rfl rfl rfl rfl rfl rfl rfl (Yld.neq rfl rfl rfl false (decide_eq_false (by omega))) ?_
    refine WP.valG rfl rfl rfl rfl rfl rfl rfl (Yld.move rfl rfl) ?_
    refine WP.valG rfl rfl rfl rfl rfl rfl rfl (Yld.move rfl rfl) ?_
    refine WP.valG rfl rfl rfl rfl rfl rfl rfl (Yld.len rfl ty_sl_52 rfl) ?_
    refine WP.valG rfl rfl rfl rfl rfl rfl rfl (Yld.move rfl rfl) ?_
    refine WP.valG rfl rfl rfl rfl rfl rfl rfl (Yld.len rfl ty_sl_52 rfl) ?_
    refine WP.valG rfl rfl rfl rfl rfl rfl rfl (Yld.neq rfl rfl rfl false (decide_eq_false (by omega))) ?_
    refine WP.valG rfl rfl rfl rfl rfl rfl rfl (Yld.pickF rfl rfl rfl) ?_
    refine WP.vl rfl (Yld.pickT rfl rfl rfl) ?_
    refine WP.nil ?_
    refine WP.sub [(1, _), (2, _), (3, _), (15, _), (16, _), (17, _), (18, _), (79, _)] ?_ ⟨rfl, rfl, rfl, rfl, rfl, rfl, rfl, rfl, trivial⟩
    refine WP.next ?_
    refine WP.condF rfl ?_
    refine WP.skip ?_
    exact WP.meet () trivial ⟨rfl, rfl, rfl, rfl, rfl, trivial⟩ rfl (by (try simp only [List.append_eq, List.cons_append, List.nil_append, List.append_assoc]); repeat (first | exact Rm.chunk | exact Rm.here | exact Rm.nil0 | apply Rm.skip | apply Rm.skipS | apply PX.cons | (apply PX.done; (repeat (first | exact Leave.done | apply Leave.drop | apply Leave.dropS)); done) | apply PX.app))
   ·refine WP.mv rfl rfl ?_
    refine WP.passG rfl rfl rfl rfl rfl rfl rfl rfl ?_
    refine WP.passG rfl rfl rfl rfl rfl rfl rfl rfl ?_
    refine WP.passG rfl rfl rfl rfl rfl rfl rfl rfl ?_
    refine WP.passG rfl rfl rfl rfl rfl rfl rfl rfl ?_
    refine WP.passG rfl rfl rfl rfl rfl rfl rfl rfl ?_
    refine WP.passG rfl rfl rfl rfl rfl rfl rfl rfl ?_
    refine WP.passG rfl rfl rfl rfl rfl rfl rfl rfl ?_
    refine WP.passG rfl rfl rfl rfl rfl rfl rfl rfl ?_
    refine WP.passG rfl rfl rfl rfl rfl rfl rfl rfl ?_
    refine WP.vl rfl (Yld.pickF rfl rfl rfl) ?_
    refine WP.nil ?_
    refine WP.sub [(1, _), (2, _), (3, _), (15, _), (16, _), (17, _), (18, _), (79, _)] ?_ ⟨rfl, rfl, rfl, rfl, rfl, rfl, rfl, rfl, trivial⟩
    refine WP.next ?_
    refine WP.condF rfl ?_
    refine WP.skip ?_
    exact WP.meet () trivial ⟨rfl, rfl, rfl, rfl, rfl, trivial⟩ rfl (by (try simp only [List.append_eq, List.cons_append, List.nil_append, List.append_assoc]); repeat (first | exact Rm.chunk | exact Rm.here | exact Rm.nil0 | apply Rm.skip | apply Rm.skipS | apply PX.cons | (apply PX.done; (repeat (first | exact Leave.done | apply Leave.drop | apply Leave.dropS)); done) | apply PX.app))
  ·rintro _ -
   refine WP.seq ?_
   refine WP.seq ?_
   refine WP.region [0] rfl ?_
   refine WP.mv rfl rfl ?_
   refine WP.nil ?_
   refine WP.next ?_
   refine WP.block ?_
   refine WP.loop (X := Nat) (fun i : Nat => [(1, (.slice Al l.length cl)), (2, .int .i64 n), (3, (.slice Ab b.length cb)), (16, .int .i64 e3), (17, (.slice Am ps.length cm)), (19, .int .i64 (i : Int))]) (fun _ => J7) (fun _ : Nat => (b12, row 51 [.int .i64 p.page, .int .i64 p.prev, (.slice Ap p.nodes.length cp)]) :: (b4, row 51 [.int .i64 r.page, .int .i64 r.prev, (.slice Ar r.nodes.length cr)]) :: F) (fun i : Nat => i ≤ ps.length) (fun i => ps.length - i) 0 (Nat.zero_le _) ⟨rfl, rfl, rfl, rfl, rfl, rfl, trivial⟩ rfl (by (try simp only [List.append_eq, List.cons_append, List.nil_append, List.append_assoc]); repeat (first | exact Rm.chunk | exact Rm.here | exact Rm.nil0 | apply Rm.skip | apply Rm.skipS | apply PX.cons | (apply PX.done; (repeat (first | exact Leave.done | apply Leave.drop | apply Leave.dropS)); done) | apply PX.app)) ?_
   rintro i hle
   try dsimp only
   try simp only [nf]
   refine WP.seq ?_
   refine WP.seq ?_
   refine WP.region [0, 1, 2, 3, 4, 5, 6, 7] rfl ?_
   iterate 2 refine WP.mv rfl rfl ?_
   refine WP.vl rfl (Yld.len rfl ty_sl_52 rfl) ?_
   refine WP.split rfl rfl rfl rfl (Yld.lss rfl rfl rfl) (fun hlt => ?_) (fun hlt => ?_)
   ·refine WP.mv rfl rfl ?_
    refine WP.valG rfl rfl rfl rfl rfl rfl rfl (Yld.move rfl rfl) ?_
    refine WP.splitG rfl rfl rfl rfl rfl rfl rfl (Yld.eql rfl rfl rfl) (fun h126 => ?_) (fun h126 => ?_)
    ·have hlen := hcl h126
     have hpe := (hcg h126).2
     have hi : i < ps.length := by omega
     have hil : i < l.length := by omega
     obtain ⟨bl1, kl1, Tl1, fl1, arl1, ea1, hbl1, hcl1⟩ := hps.at_ hi
     obtain ⟨bl2, kl2, Tl2, fl2, arl2, ea2, hbl2, hcl2⟩ := hlJ.at_ hil
     have heq : ps[i].1 = l[i].1 := by have h := congrArg (fun q => q[i]?) hpe; simpa [prs, hi, hil] using h
     have hsn := (hlz _ (List.getElem_mem hil)).1
     have hr1 : ps[i].2.oneCell' = true := by obtain ⟨nv, ⟨A, c, e, _⟩, _⟩ := (hps.el _ (List.getElem_mem hi)).ex; rw [e]; rfl
     have hr2 : l[i].2.oneCell' = true := by obtain ⟨nv, ⟨A, c, e, _⟩, _⟩ := (hl.el _ (List.getElem_mem hil)).ex; rw [e]; rfl
     refine WP.vl rfl (Yld.pickT rfl rfl rfl) ?_
     refine WP.nil ?_
     refine WP.sub [(1, _), (2, _), (3, _), (16, _), (17, _), (19, _), (87, _)] ?_ ⟨rfl, rfl, rfl, rfl, rfl, rfl, rfl, trivial⟩
     refine WP.next ?_
     refine WP.condT rfl ?_
     refine WP.skip ?_
     refine WP.next ?_
     refine WP.seq ?_
     refine WP.block ?_
     refine WP.seq ?_
     refine WQ.start Tryzmixed 8 (by kernel_rfl) _ rfl [8, 9] rfl ?_
     refine WQ.val rfl rfl rfl (Yld.move rfl rfl) ?_
     refine WQ.val rfl rfl rfl (Yld.move rfl rfl) ?_
     refine WQ.val rfl rfl rfl (Yld.indexAddr (i := i) rfl ty_sl_52 (congrArg (fun a => some (Value.slice a ps.length cm)) ea1) rfl hi) ?_
     refine WQ.val rfl rfl rfl (Yld.loadAggC (vs := [.int .i64 ps[i].1.page, .int .i64 ps[i].1.prev, ps[i].2]) rfl ty_ag_51 rfl (There.i hbl1) hcl1 rfl) ?_
     refine WQ.val rfl rfl rfl (Yld.move rfl rfl) ?_
     refine WQ.val rfl rfl rfl (Yld.move rfl rfl) ?_
     refine WQ.val rfl rfl rfl (Yld.indexAddr (i := i) rfl ty_sl_52 (congrArg (fun a => some (Value.slice a l.length cl)) ea2) rfl hil) ?_
     refine WQ.val rfl rfl rfl (Yld.loadAggC (vs := [.int .i64 l[i].1.page, .int .i64 l[i].1.prev, l[i].2]) rfl ty_ag_51 rfl (There.i hbl2) hcl2 rfl) ?_
     refine WQ.nil ?_
     refine WP.loud rfl rfl ?_
     refine Op.cl (ref12_Same (hps.el _ (List.getElem_mem hi)) (hlJ.el _ (List.getElem_mem hil)) (by rw [heq]; omega)) rfl Tryz.func33 rfl rfl rfl rfl ?_
     rintro v J L1 - ⟨c, rfl, hc, rfl, rfl⟩
     try simp only [nf]
     obtain rfl : c = true := hc.2 heq
     refine WP.mv rfl rfl ?_
     refine WP.nil ?_
     refine WP.sub [(1, _), (2, _), (3, _), (16, _), (17, _), (19, _), (20, _), (87, _)] ?_ ⟨rfl, rfl, rfl, rfl, rfl, rfl, rfl, rfl, trivial⟩
     refine WP.next ?_
     refine WP.seq ?_
     refine WP.region [0, 1] rfl ?_
     refine WP.mv rfl rfl ?_
     refine WP.vl rfl (Yld.not rfl rfl) ?_
     refine WP.nil ?_
     refine WP.sub [(1, _), (2, _), (3, _), (16, _), (17, _), (19, _), (20, _), (87, _), (100, _)] ?_ ⟨rfl, rfl, rfl, rfl, rfl, rfl, rfl, rfl, rfl, trivial⟩
     refine WP.next ?_
     refine WP.condF rfl ?_
     refine WP.skip ?_
     refine WP.leave ?_
     refine WP.next ?_
     refine WP.region [0, 1, 2] rfl ?_
     refine WP.mv rfl rfl ?_
     refine WP.vl rfl (Yld.add64 rfl rfl rfl (by omega)) ?_
     refine WP.mv rfl rfl ?_
     refine WP.nil ?_
     refine WP.sub [(1, _), (2, _), (3, _), (16, _), (17, _), (19, _), (20, _), (87, _), (100, _)] ?_ ⟨rfl, rfl, rfl, rfl, rfl, rfl, rfl, rfl, rfl, trivial⟩
     exact WP.again (i + 1) hi (show ps.length - (i + 1) < ps.length - i by omega) ⟨rfl, rfl, rfl, rfl, rfl, rfl, trivial⟩ rfl (by (try simp only [List.append_eq, List.cons_append, List.nil_append, List.append_assoc]); repeat (first | exact Rm.chunk | exact Rm.here | exact Rm.nil0 | apply Rm.skip | apply Rm.skipS | apply PX.cons | (apply PX.done; (repeat (first | exact Leave.done | apply Leave.drop | apply Leave.dropS)); done) | apply PX.app))
    ·refine WP.vl rfl (Yld.pickT rfl rfl rfl) ?_
     refine WP.nil ?_
     refine WP.sub [(1, _), (2, _), (3, _), (16, _), (17, _), (19, _), (87, _)] ?_ ⟨rfl, rfl, rfl, rfl, rfl, rfl, rfl, trivial⟩
     refine WP.next ?_
     refine WP.condF rfl ?_
     refine WP.exit ?_
     refine WP.thenE ?_
     refine WP.thenE ?_
     refine WP.hit ?_
     refine WP.next ?_
     refine WP.seq ?_
     refine WP.region [0, 1, 2, 3, 4, 5, 6] rfl ?_
     refine WP.mv rfl rfl ?_
     refine WP.loud rfl rfl ?_
     refine Op.cl (txn_EncodeCommitU (t := n)) rfl Tryz.func29 rfl rfl rfl rfl ?_
     rintro v J8 L17 hJ8 ⟨vz, zs, e5, rfl, hoz, hzl, hec⟩
     try simp only [nf]
     obtain ⟨Az, cz, rfl, _⟩ := hoz.slice
     refine WP.mv rfl rfl ?_
     refine WP.vl rfl (Yld.extract rfl rfl rfl) ?_
     refine WP.vl rfl (Yld.extract rfl rfl rfl) ?_
     iterate 2 refine WP.mv rfl rfl ?_
     refine WP.nil ?_
     refine WP.sub [(1, _), (2, _), (3, _), (16, _), (17, _), (19, _), (21, _), (22, _), (87, _)] ?_ ⟨rfl, rfl, rfl, rfl, rfl, rfl, rfl, rfl, rfl, trivial⟩
     refine WP.shO hoz (fun J9 hJ9 hzs => ?_)
     refine WP.next ?_
     refine WP.seq ?_
     refine WP.region [0, 1, 2, 3, 4, 5, 6] rfl ?_
     refine WP.mv rfl rfl ?_
     refine WP.loud rfl rfl ?_
     refine Op.cl (txn_DecodeCommitU hzs (by omega)) rfl Tryz.func34 rfl rfl rfl rfl ?_
     rintro v J10 L18 hJ10 ⟨rfl, n6, e6, rfl, hdc⟩
     try simp only [nf]
     have hJ1a := Imm.le_trans hJ17 (Imm.le_trans hJ8 (Imm.le_trans hJ9 hJ10))
     refine WP.mv rfl rfl ?_
     refine WP.vl rfl (Yld.extract rfl rfl rfl) ?_
     refine WP.vl rfl (Yld.extract rfl rfl rfl) ?_
     iterate 2 refine WP.mv rfl rfl ?_
     refine WP.nil ?_
     refine WP.sub [(1, _), (2, _), (3, _), (16, _), (17, _), (19, _), (21, _), (22, _), (23, _), (24, _), (87, _)] ?_ ⟨rfl, rfl, rfl, rfl, rfl, rfl, rfl, rfl, rfl, rfl, rfl, trivial⟩
     refine WP.next ?_
     refine WP.cut (X := Unit) (fun _ : Unit => [(3, (.slice Ab b.length cb))]) (fun _ => J10) (fun _ : Unit => (b12, row 51 [.int .i64 p.page, .int .i64 p.prev, (.slice Ap p.nodes.length cp)]) :: (b4, row 51 [.int .i64 r.page, .int .i64 r.prev, (.slice Ar r.nodes.length cr)]) :: F) (fun _ : Unit => True) ?_ ?_
     ·skip
      refine WP.seq ?_
      refine WP.region [0, 1, 2, 3, 4, 5, 6, 7, 8, 9, 10] rfl ?_
      refine WP.mv rfl rfl ?_
      refine WP.split rfl rfl rfl rfl (Yld.eql rfl rfl rfl) (fun h191 => ?_) (fun h191 => ?_)
      ·obtain ⟨_, hcmk, hzn⟩ := hec.resolve_right (fun h => h.1 h191)
       obtain ⟨q1, q2⟩ := okC_lay (n := n.toNat) (by omega) (by omega)
       rw [← hzn] at q1 q2
       obtain ⟨_, hn6, he6⟩ := hdc.resolve_right (fun h => h.1 q1)
       have hn6n : n6 = n := by rw [hn6, q2]; omega
       refine WP.mv rfl rfl ?_
       refine WP.valG rfl rfl rfl rfl rfl rfl rfl (Yld.move rfl rfl) ?_
       refine WP.valG rfl rfl rfl rfl rfl rfl rfl (Yld.neq rfl rfl rfl false (decide_eq_false (by omega))) ?_
       refine WP.valG rfl rfl rfl rfl rfl rfl rfl (Yld.move rfl rfl) ?_
       refine WP.valG rfl rfl rfl rfl rfl rfl rfl (Yld.move rfl rfl) ?_
       refine WP.valG rfl rfl rfl rfl rfl rfl rfl (Yld.move rfl rfl) ?_
       refine WP.valG rfl rfl rfl rfl rfl rfl rfl (Yld.neq rfl rfl rfl false (decide_eq_false (by omega))) ?_
       refine WP.valG rfl rfl rfl rfl rfl rfl rfl (Yld.pickF rfl rfl rfl) ?_
       refine WP.vl rfl (Yld.pickT rfl rfl rfl) ?_
       refine WP.nil ?_
       refine WP.sub [(1, _), (2, _), (3, _), (16, _), (17, _), (19, _), (21, _), (22, _), (23, _), (24, _), (87, _), (121, _)] ?_ ⟨rfl, rfl, rfl, rfl, rfl, rfl, rfl, rfl, rfl, rfl, rfl, rfl, trivial⟩
       refine WP.next ?_
       refine WP.condF rfl ?_
       refine WP.skip ?_
       exact WP.meet () trivial ⟨rfl, trivial⟩ rfl (by (try simp only [List.append_eq, List.cons_append, List.nil_append, List.append_assoc]); repeat (first | exact Rm.chunk | exact Rm.here | exact Rm.nil0 | apply Rm.skip | apply Rm.skipS | apply PX.cons | (apply PX.done; (repeat (first | exact Leave.done | apply Leave.drop | apply Leave.dropS)); done) | apply PX.app))
      ·refine WP.mv rfl rfl ?_
       refine WP.passG rfl rfl rfl rfl rfl rfl rfl rfl ?_
       refine WP.passG rfl rfl rfl rfl rfl rfl rfl rfl ?_
       refine WP.passG rfl rfl rfl rfl rfl rfl rfl rfl ?_
       refine WP.passG rfl rfl rfl rfl rfl rfl rfl rfl ?_
       refine WP.passG rfl rfl rfl rfl rfl rfl rfl rfl ?_
       refine WP.passG rfl rfl rfl rfl rfl rfl rfl rfl ?_
       refine WP.passG rfl rfl rfl rfl rfl rfl rfl rfl ?_
       refine WP.vl rfl (Yld.pickF rfl rfl rfl) ?_
       refine WP.nil ?_
       refine WP.sub [(1, _), (2, _), (3, _), (16, _), (17, _), (19, _), (21, _), (22, _), (23, _), (24, _), (87, _), (121, _)] ?_ ⟨rfl, rfl, rfl, rfl, rfl, rfl, rfl, rfl, rfl, rfl, rfl, rfl, trivial⟩
       refine WP.next ?_
       refine WP.condF rfl ?_
       refine WP.skip ?_
       exact WP.meet () trivial ⟨rfl, trivial⟩ rfl (by (try simp only [List.append_eq, List.cons_append, List.nil_append, List.append_assoc]); repeat (first | exact Rm.chunk | exact Rm.here | exact Rm.nil0 | apply Rm.skip | apply Rm.skipS | apply PX.cons | (apply PX.done; (repeat (first | exact Leave.done | apply Leave.drop | apply Leave.dropS)); done) | apply PX.app))
     ·rintro _ -
      refine WP.seq ?_
      refine WP.region [0, 1, 2, 3, 4, 5, 6, 7] rfl ?_
      refine WP.mv rfl rfl ?_
      refine WP.loud rfl rfl ?_
      refine Op.cl (txn_DecodePage (hb.mono fun b o k => hJ1a.2 b o k) (by omega)) rfl Tryz.func31 rfl rfl rfl rfl ?_
      rintro v J11 L21 hJ11 ⟨rfl, g, vg, e7, rfl, hg, hdg2⟩
      try simp only [nf]
      obtain ⟨nvg, hng, _⟩ := id hg.ex
      obtain ⟨Ag, cg, rfl, _⟩ := hng.slice'
      refine WP.mv rfl rfl ?_
      refine WP.vl rfl (Yld.extract rfl rfl rfl) ?_
      refine WP.vl rfl (Yld.extract rfl rfl rfl) ?_
      refine WP.loud rfl rfl ?_
      refine Op.alloc rfl rfl rfl ty_zr_51 (fun b25 => ?_)
      refine WP.loud rfl rfl ?_
      refine Op.sA rfl rfl ty_sz_51 rfl rfl rfl rfl rfl ?_
      refine WP.mv rfl rfl ?_
      refine WP.nil ?_
      refine WP.sub [(3, _), (25, _), (26, _)] ?_ ⟨rfl, rfl, rfl, trivial⟩
      refine WP.next ?_
      refine WP.seq ?_
      refine WP.seq ?_
      refine WP.region [0, 1] rfl ?_
      refine WP.mv rfl rfl ?_
      refine WP.split rfl rfl rfl rfl (Yld.eql rfl rfl rfl) (fun h221 => ?_) (fun h221 => ?_)
      ·obtain ⟨hok, _, hge⟩ := hdg2.resolve_right (fun h => by have := h.2.1; omega)
       have hbk := rdP_back hok
       rw [← hge] at hbk
       have hmay : g.may := by rw [hge]; exact hok.2.2
       have hg64 := hmay.2.2.2.2.1
       have hgb : (g.nodes.flatMap nodeB).length ≤ 12671 := by have h1 := hok.2.1; rw [← hbk] at h1; unfold pageB nodesB at h1; simp only [List.length_append] at h1; omega
       refine WP.nil ?_
       refine WP.sub [(3, _), (25, _), (26, _), (128, _)] ?_ ⟨rfl, rfl, rfl, rfl, trivial⟩
       refine WP.next ?_
       refine WP.condT rfl ?_
       refine WP.seq ?_
       refine WP.region [0, 1, 2, 3, 4, 5, 6] rfl ?_
       refine WP.vl rfl (Yld.ldg (vs := [.int .i64 g.page, .int .i64 g.prev, (.slice Ag g.nodes.length cg)]) rfl ty_ag_51 rfl rfl rfl) ?_
       refine WP.loud rfl rfl ?_
       refine Op.cl (txn_EncodePageU hg (by omega) (by omega)) rfl Tryz.func25 rfl rfl rfl rfl ?_
       rintro v J12 L23 hJ12 ⟨vw, ws, e8, rfl, how, hwl, hew⟩
       try simp only [nf]
       obtain ⟨Aw, cw, rfl, _⟩ := how.slice
       obtain ⟨rfl, _, _, hws⟩ := hew.resolve_right (fun h => by have h1 := h.2.2 hmay; have h2 := hok.2.1; rw [hbk] at h1; omega)
       rw [hbk] at hws
       subst hws
       refine WP.mv rfl rfl ?_
       refine WP.vl rfl (Yld.extract rfl rfl rfl) ?_
       refine WP.vl rfl (Yld.extract rfl rfl rfl) ?_
       iterate 2 refine WP.mv rfl rfl ?_
       refine WP.nil ?_
       refine WP.sub [(3, _), (25, _), (26, _), (27, _), (28, _), (128, _)] ?_ ⟨rfl, rfl, rfl, rfl, rfl, rfl, trivial⟩
       refine WP.next ?_
       refine WP.seq ?_
       refine WP.region [0, 1, 2, 3, 4, 5, 6, 7, 8] rfl ?_
       refine WP.mv rfl rfl ?_
       refine WP.vl rfl (Yld.neq rfl rfl rfl false (decide_eq_false (by decide))) ?_
       refine WP.mv rfl rfl ?_
       refine WP.valG rfl rfl rfl rfl rfl rfl rfl (Yld.move rfl rfl) ?_
       refine WP.valG rfl rfl rfl rfl rfl rfl rfl (Yld.str (e := 5) rfl (by kernel_rfl) (by kernel_rfl) (by kernel_rfl) rfl (how.rd (by intro p hp; simp [hp]))) ?_
       refine WP.valG rfl rfl rfl rfl rfl rfl rfl (Yld.move rfl rfl) ?_
       refine WP.valG rfl rfl rfl rfl rfl rfl rfl (Yld.str (e := 5) rfl (by kernel_rfl) (by kernel_rfl) (by kernel_rfl) rfl ((hb.mono (fun b o k => (Imm.le_trans hJ1a (Imm.le_trans hJ11 hJ12)).2 b o k)).mono (fun b o h => .inr h))) ?_
       refine WP.valG rfl rfl rfl rfl rfl rfl rfl (Yld.neqStr rfl rfl rfl false (by simp)) ?_
       refine WP.vl rfl (Yld.pickF rfl rfl rfl) ?_
       refine WP.nil ?_
       refine WP.sub [(3, _), (25, _), (26, _), (27, _), (28, _), (128, _), (142, _)] ?_ ⟨rfl, rfl, rfl, rfl, rfl, rfl, rfl, trivial⟩
       refine WP.next ?_
       refine WP.condF rfl ?_
       refine WP.skip ?_
       refine WP.next ?_
       refine WP.seq ?_
       refine WP.region [0] rfl ?_
       refine WP.mv rfl rfl ?_
       refine WP.nil ?_
       refine WP.next ?_
       refine WP.ret ?_
       refine WP.fn .ret (.inr rfl) (res1 rfl rfl) [] (Imm.le_trans hJ1a (Imm.le_trans hJ11 hJ12)) ?_
       exact ⟨rfl, rfl⟩
      ·refine WP.nil ?_
       refine WP.sub [(3, _), (25, _), (26, _), (128, _)] ?_ ⟨rfl, rfl, rfl, rfl, trivial⟩
       refine WP.next ?_
       refine WP.condF rfl ?_
       refine WP.skip ?_
       refine WP.next ?_
       refine WP.seq ?_
       refine WP.region [0] rfl ?_
       refine WP.mv rfl rfl ?_
       refine WP.nil ?_
       refine WP.next ?_
       refine WP.ret ?_
       refine WP.fn .ret (.inr rfl) (res1 rfl rfl) [] (Imm.le_trans hJ1a hJ11) ?_
       exact ⟨rfl, rfl⟩
   ·refine WP.mv rfl rfl ?_
    refine WP.passG rfl rfl rfl rfl rfl rfl rfl rfl ?_
    refine WP.passG rfl rfl rfl rfl rfl rfl rfl rfl ?_
    refine WP.vl rfl (Yld.pickF rfl rfl rfl) ?_
    refine WP.nil ?_
    refine WP.sub [(1, _), (2, _), (3, _), (16, _), (17, _), (19, _), (87, _)] ?_ ⟨rfl, rfl, rfl, rfl, rfl, rfl, rfl, trivial⟩
    refine WP.next ?_
    refine WP.condF rfl ?_
    refine WP.exit ?_
    refine WP.thenE ?_
    refine WP.thenE ?_
    refine WP.hit ?_
    refine WP.next ?_
    refine WP.seq ?_
    refine WP.region [0, 1, 2, 3, 4, 5, 6] rfl ?_
    refine WP.mv rfl rfl ?_
    refine WP.loud rfl rfl ?_
    refine Op.cl (txn_EncodeCommitU (t := n)) rfl Tryz.func29 rfl rfl rfl rfl ?_
    rintro v J8 L17 hJ8 ⟨vz, zs, e5, rfl, hoz, hzl, hec⟩
    try simp only [nf]
    obtain ⟨Az, cz, rfl, _⟩ := hoz.slice
    refine WP.mv rfl rfl ?_
    refine WP.vl rfl (Yld.extract rfl rfl rfl) ?_
    refine WP.vl rfl (Yld.extract rfl rfl rfl) ?_
    iterate 2 refine WP.mv rfl rfl ?_
    refine WP.nil ?_
    refine WP.sub [(1, _), (2, _), (3, _), (16, _), (17, _), (19, _), (21, _), (22, _), (87, _)] ?_ ⟨rfl, rfl, rfl, rfl, rfl, rfl, rfl, rfl, rfl, trivial⟩
    refine WP.shO hoz (fun J9 hJ9 hzs => ?_)
    refine WP.next ?_
    refine WP.seq ?_
    refine WP.region [0, 1, 2, 3, 4, 5, 6] rfl ?_
    refine WP.mv rfl rfl ?_
    refine WP.loud rfl rfl ?_
    refine Op.cl (txn_DecodeCommitU hzs (by omega)) rfl Tryz.func34 rfl rfl rfl rfl ?_
    rintro v J10 L18 hJ10 ⟨rfl, n6, e6, rfl, hdc⟩
    try simp only [nf]
    have hJ1a := Imm.le_trans hJ17 (Imm.le_trans hJ8 (Imm.le_trans hJ9 hJ10))
    refine WP.mv rfl rfl ?_
    refine WP.vl rfl (Yld.extract rfl rfl rfl) ?_
    refine WP.vl rfl (Yld.extract rfl rfl rfl) ?_
    iterate 2 refine WP.mv rfl rfl ?_
    refine WP.nil ?_
    refine WP.sub [(1, _), (2, _), (3, _), (16, _), (17, _), (19, _), (21, _), (22, _), (23, _), (24, _), (87, _)] ?_ ⟨rfl, rfl, rfl, rfl, rfl, rfl, rfl, rfl, rfl, rfl, rfl, trivial⟩
    refine WP.next ?_
    refine WP.cut (X := Unit) (fun _ : Unit => [(3, (.slice Ab b.length cb))]) (fun _ => J10) (fun _ : Unit => (b12, row 51 [.int .i64 p.page, .int .i64 p.prev, (.slice Ap p.nodes.length cp)]) :: (b4, row 51 [.int .i64 r.page, .int .i64 r.prev, (.slice Ar r.nodes.length cr)]) :: F) (fun _ : Unit => True) ?_ ?_
    ·skip
     refine WP.seq ?_
     refine WP.region [0, 1, 2, 3, 4, 5, 6, 7, 8, 9, 10] rfl ?_
     refine WP.mv rfl rfl ?_
     refine WP.split rfl rfl rfl rfl (Yld.eql rfl rfl rfl) (fun h191 => ?_) (fun h191 => ?_)
     ·obtain ⟨_, hcmk, hzn⟩ := hec.resolve_right (fun h => h.1 h191)
      obtain ⟨q1, q2⟩ := okC_lay (n := n.toNat) (by omega) (by omega)
      rw [← hzn] at q1 q2
      obtain ⟨_, hn6, he6⟩ := hdc.resolve_right (fun h => h.1 q1)
      have hn6n : n6 = n := by rw [hn6, q2]; omega
      refine WP.mv rfl rfl ?_
      refine WP.valG rfl rfl rfl rfl rfl rfl rfl (Yld.move rfl rfl) ?_
      refine WP.valG rfl rfl rfl rfl rfl rfl rfl (Yld.neq rfl rfl rfl false (decide_eq_false (by omega))) ?_
      refine WP.valG rfl rfl rfl rfl rfl rfl rfl (Yld.move rfl rfl) ?_
      refine WP.valG rfl rfl rfl rfl rfl rfl rfl (Yld.move rfl rfl) ?_
      refine WP.valG rfl rfl rfl rfl rfl rfl rfl (Yld.move rfl rfl) ?_
      refine WP.valG rfl rfl rfl rfl rfl rfl rfl (Yld.neq rfl rfl rfl false (decide_eq_false (by omega))) ?_
      refine WP.valG rfl rfl rfl rfl rfl rfl rfl (Yld.pickF rfl rfl rfl) ?_
      refine WP.vl rfl (Yld.pickT rfl rfl rfl) ?_
      refine WP.nil ?_
      refine WP.sub [(1, _), (2, _), (3, _), (16, _), (17, _), (19, _), (21, _), (22, _), (23, _), (24, _), (87, _), (121, _)] ?_ ⟨rfl, rfl, rfl, rfl, rfl, rfl, rfl, rfl, rfl, rfl, rfl, rfl, trivial⟩
      refine WP.next ?_
      refine WP.condF rfl ?_
      refine WP.skip ?_
      exact WP.meet () trivial ⟨rfl, trivial⟩ rfl (by (try simp only [List.append_eq, List.cons_append, List.nil_append, List.append_assoc]); repeat (first | exact Rm.chunk | exact Rm.here | exact Rm.nil0 | apply Rm.skip | apply Rm.skipS | apply PX.cons | (apply PX.done; (repeat (first | exact Leave.done | apply Leave.drop | apply Leave.dropS)); done) | apply PX.app))
     ·refine WP.mv rfl rfl ?_
      refine WP.passG rfl rfl rfl rfl rfl rfl rfl rfl ?_
      refine WP.passG rfl rfl rfl rfl rfl rfl rfl rfl ?_
      refine WP.passG rfl rfl rfl rfl rfl rfl rfl rfl ?_
      refine WP.passG rfl rfl rfl rfl rfl rfl rfl rfl ?_
      refine WP.passG rfl rfl rfl rfl rfl rfl rfl rfl ?_
      refine WP.passG rfl rfl rfl rfl rfl rfl rfl rfl ?_
      refine WP.passG rfl rfl rfl rfl rfl rfl rfl rfl ?_
      refine WP.vl rfl (Yld.pickF rfl rfl rfl) ?_
      refine WP.nil ?_
      refine WP.sub [(1, _), (2, _), (3, _), (16, _), (17, _), (19, _), (21, _), (22, _), (23, _), (24, _), (87, _), (121, _)] ?_ ⟨rfl, rfl, rfl, rfl, rfl, rfl, rfl, rfl, rfl, rfl, rfl, rfl, trivial⟩
      refine WP.next ?_
      refine WP.condF rfl ?_
      refine WP.skip ?_
      exact WP.meet () trivial ⟨rfl, trivial⟩ rfl (by (try simp only [List.append_eq, List.cons_append, List.nil_append, List.append_assoc]); repeat (first | exact Rm.chunk | exact Rm.here | exact Rm.nil0 | apply Rm.skip | apply Rm.skipS | apply PX.cons | (apply PX.done; (repeat (first | exact Leave.done | apply Leave.drop | apply Leave.dropS)); done) | apply PX.app))
    ·rintro _ -
     refine WP.seq ?_
     refine WP.region [0, 1, 2, 3, 4, 5, 6, 7] rfl ?_
     refine WP.mv rfl rfl ?_
     refine WP.loud rfl rfl ?_
     refine Op.cl (txn_DecodePage (hb.mono fun b o k => hJ1a.2 b o k) (by omega)) rfl Tryz.func31 rfl rfl rfl rfl ?_
     rintro v J11 L21 hJ11 ⟨rfl, g, vg, e7, rfl, hg, hdg2⟩
     try simp only [nf]
     obtain ⟨nvg, hng, _⟩ := id hg.ex
     obtain ⟨Ag, cg, rfl, _⟩ := hng.slice'
     refine WP.mv rfl rfl ?_
     refine WP.vl rfl (Yld.extract rfl rfl rfl) ?_
     refine WP.vl rfl (Yld.extract rfl rfl rfl) ?_
     refine WP.loud rfl rfl ?_
     refine Op.alloc rfl rfl rfl ty_zr_51 (fun b25 => ?_)
     refine WP.loud rfl rfl ?_
     refine Op.sA rfl rfl ty_sz_51 rfl rfl rfl rfl rfl ?_
     refine WP.mv rfl rfl ?_
     refine WP.nil ?_
     refine WP.sub [(3, _), (25, _), (26, _)] ?_ ⟨rfl, rfl, rfl, trivial⟩
     refine WP.next ?_
     refine WP.seq ?_
     refine WP.seq ?_
     refine WP.region [0, 1] rfl ?_
     refine WP.mv rfl rfl ?_
     refine WP.split rfl rfl rfl rfl (Yld.eql rfl rfl rfl) (fun h221 => ?_) (fun h221 => ?_)
     ·obtain ⟨hok, _, hge⟩ := hdg2.resolve_right (fun h => by have := h.2.1; omega)
      have hbk := rdP_back hok
      rw [← hge] at hbk
      have hmay : g.may := by rw [hge]; exact hok.2.2
      have hg64 := hmay.2.2.2.2.1
      have hgb : (g.nodes.flatMap nodeB).length ≤ 12671 := by have h1 := hok.2.1; rw [← hbk] at h1; unfold pageB nodesB at h1; simp only [List.length_append] at h1; omega
      refine WP.nil ?_
      refine WP.sub [(3, _), (25, _), (26, _), (128, _)] ?_ ⟨rfl, rfl, rfl, rfl, trivial⟩
      refine WP.next ?_
      refine WP.condT rfl ?_
      refine WP.seq ?_
      refine WP.region [0, 1, 2, 3, 4, 5, 6] rfl ?_
      refine WP.vl rfl (Yld.ldg (vs := [.int .i64 g.page, .int .i64 g.prev, (.slice Ag g.nodes.length cg)]) rfl ty_ag_51 rfl rfl rfl) ?_
      refine WP.loud rfl rfl ?_
      refine Op.cl (txn_EncodePageU hg (by omega) (by omega)) rfl Tryz.func25 rfl rfl rfl rfl ?_
      rintro v J12 L23 hJ12 ⟨vw, ws, e8, rfl, how, hwl, hew⟩
      try simp only [nf]
      obtain ⟨Aw, cw, rfl, _⟩ := how.slice
      obtain ⟨rfl, _, _, hws⟩ := hew.resolve_right (fun h => by have h1 := h.2.2 hmay; have h2 := hok.2.1; rw [hbk] at h1; omega)
      rw [hbk] at hws
      subst hws
      refine WP.mv rfl rfl ?_
      refine WP.vl rfl (Yld.extract rfl rfl rfl) ?_
      refine WP.vl rfl (Yld.extract rfl rfl rfl) ?_
      iterate 2 refine WP.mv rfl rfl ?_
      refine WP.nil ?_
      refine WP.sub [(3, _), (25, _), (26, _), (27, _), (28, _), (128, _)] ?_ ⟨rfl, rfl, rfl, rfl, rfl, rfl, trivial⟩
      refine WP.next ?_
      refine WP.seq ?_
      refine WP.region [0, 1, 2, 3, 4, 5, 6, 7, 8] rfl ?_
      refine WP.mv rfl rfl ?_
      refine WP.vl rfl (Yld.neq rfl rfl rfl false (decide_eq_false (by decide))) ?_
      refine WP.mv rfl rfl ?_
      refine WP.valG rfl rfl rfl rfl rfl rfl rfl (Yld.move rfl rfl) ?_
      refine WP.valG rfl rfl rfl rfl rfl rfl rfl (Yld.str (e := 5) rfl (by kernel_rfl) (by kernel_rfl) (by kernel_rfl) rfl (how.rd (by intro p hp; simp [hp]))) ?_
      refine WP.valG rfl rfl rfl rfl rfl rfl rfl (Yld.move rfl rfl) ?_
      refine WP.valG rfl rfl rfl rfl rfl rfl rfl (Yld.str (e := 5) rfl (by kernel_rfl) (by kernel_rfl) (by kernel_rfl) rfl ((hb.mono (fun b o k => (Imm.le_trans hJ1a (Imm.le_trans hJ11 hJ12)).2 b o k)).mono (fun b o h => .inr h))) ?_
      refine WP.valG rfl rfl rfl rfl rfl rfl rfl (Yld.neqStr rfl rfl rfl false (by simp)) ?_
      refine WP.vl rfl (Yld.pickF rfl rfl rfl) ?_
      refine WP.nil ?_
      refine WP.sub [(3, _), (25, _), (26, _), (27, _), (28, _), (128, _), (142, _)] ?_ ⟨rfl, rfl, rfl, rfl, rfl, rfl, rfl, trivial⟩
      refine WP.next ?_
      refine WP.condF rfl ?_
      refine WP.skip ?_
      refine WP.next ?_
      refine WP.seq ?_
      refine WP.region [0] rfl ?_
      refine WP.mv rfl rfl ?_
      refine WP.nil ?_
      refine WP.next ?_
      refine WP.ret ?_
      refine WP.fn .ret (.inr rfl) (res1 rfl rfl) [] (Imm.le_trans hJ1a (Imm.le_trans hJ11 hJ12)) ?_
      exact ⟨rfl, rfl⟩
     ·refine WP.nil ?_
      refine WP.sub [(3, _), (25, _), (26, _), (128, _)] ?_ ⟨rfl, rfl, rfl, rfl, trivial⟩
      refine WP.next ?_
      refine WP.condF rfl ?_
      refine WP.skip ?_
      refine WP.next ?_
      refine WP.seq ?_
      refine WP.region [0] rfl ?_
      refine WP.mv rfl rfl ?_
      refine WP.nil ?_
      refine WP.next ?_
      refine WP.ret ?_
      refine WP.fn .ret (.inr rfl) (res1 rfl rfl) [] (Imm.le_trans hJ1a hJ11) ?_
      exact ⟨rfl, rfl⟩


end Go.Hp
