import Derived.Test.YtilgaelpbgfnnaaGreatTxhF
import Derived.Test.YtilgaelpbgfnnaaGreatRdF
set_option linter.unusedVariables false
set_option linter.unusedSimpArgs false
namespace Go.Hp
open Go Go.Proofs

instance (bs : List UInt8) : Decidable (okC bs) := inferInstanceAs (Decidable (_ ∧ _))
def comN (n : Int) (r : Rc) : Bool := decide (r.kind = 4 ∧ okC r.b ∧ (n = 0 ∨ ((rNum 1099511627776 ⟨r.b, 0⟩).1 : Int) = n))
structure CnX where
 k : Nat
 J : Imm
theorem law_commits {I : Imm} {l : Nat} {s d n : Nat} {x : Lg} {y : Dk} {Ll : Chunks} (hlg : IsLog I l s d n x y Ll) {nn : Int} (hb0 : x.lo = 0) (hrl : ∀ r ∈ x.rs, r.b.length ≤ 1099511627776) (hrn : x.rs.length ≤ 1099511627776) (hbs : x.base = 0) : Spec Tryz.prog 21 [.pointer (some ⟨l, 0, none⟩), .int .i64 nn] I Ll (fun v J L => v = .int .i64 ((x.rs.filter (comN nn)).length : Int) ∧ IsLog J l s d n x y L) := by
 refine Spec.of Tryz.func21 rfl Tryz.ntmps21 (Nat.le_of_ble_eq_true rfl) (fun F => ?_)
 try simp only [nf]
 dsimp only [argsEnv]
 refine WP.seq ?_; refine WP.region [0] rfl ?_; refine WP.mv rfl rfl ?_; refine WP.nil ?_; refine WP.next ?_; refine WP.seq ?_; refine WP.region [0] rfl ?_; refine WP.mv rfl rfl ?_; refine WP.nil ?_; refine WP.next ?_; iterate 2 refine WP.seq ?_
 refine WP.region [0] rfl ?_; refine WP.mv rfl rfl ?_; refine WP.nil ?_; refine WP.next ?_; refine WP.block ?_; refine WP.loop (X := CnX) (fun u : CnX => [(0, .pointer (some ⟨l, 0, none⟩)), (1, .int .i64 nn), (5, .int .i64 ((((x.rs.take (u.k)).filter (comN nn)).length : Nat) : Int)), (6, .int .i64 ((x.base + u.k + 1 : Nat) : Int))]) (fun u => u.J) (fun _ : CnX => Ll ++ F) (fun u : CnX => u.k ≤ x.rs.length ∧ I.le u.J) (fun u => x.rs.length - u.k) ⟨0, I⟩ ⟨Nat.zero_le _, Imm.le_refl _⟩ ⟨rfl, rfl, rfl, congrArg (fun z => some (Value.int .i64 z)) (show (1 : Int) = ((x.base + 0 + 1 : Nat) : Int) by omega), trivial⟩ rfl (by (try simp only [List.append_eq, List.cons_append, List.nil_append, List.append_assoc]); repeat (first | exact Rm.chunk | exact Rm.here | exact Rm.nil0 | apply Rm.skip | apply Rm.skipS | apply PX.cons | (apply PX.done; (repeat (first | exact Leave.done | apply Leave.drop | apply Leave.dropS)); done) | apply PX.app)) ?_; rintro ⟨k, J⟩ ⟨hkl, hJ⟩; dsimp only at hkl hJ
 try dsimp only
 try simp only [nf]
 iterate 2 refine WP.seq ?_
 refine WP.region [0, 1, 2, 3, 4] rfl ?_; iterate 2 refine WP.mv rfl rfl ?_
 refine WP.loud rfl rfl ?_; refine Op.cl (log_Head (hlg.mono hJ)) rfl Tryz.func18 rfl rfl rfl rfl ?_; rintro v J L1 - ⟨rfl, rfl, rfl⟩
 try simp only [nf]
 refine WP.vl rfl (Yld.field rfl ty_fl_56_0 ty_sc_3 rfl rfl) ?_; refine WP.split rfl rfl rfl rfl (Yld.leq rfl rfl rfl) (fun hle => ?_) (fun hle => ?_)
 ·have hno : x.no = x.base + x.rs.length := rfl
  have hk : k < x.rs.length := by omega
  have hfl : ((x.rs.take k).filter (comN nn)).length ≤ k := Nat.le_trans (List.length_filter_le _ _) (by rw [List.length_take]; omega)
  refine WP.nil ?_; refine WP.sub [(0, _), (1, _), (5, _), (6, _), (17, _)] ?_ ⟨rfl, rfl, rfl, rfl, rfl, trivial⟩
  refine WP.next ?_; refine WP.condT rfl ?_; refine WP.skip ?_; refine WP.next ?_; refine WP.seq ?_; refine WP.block ?_; refine WP.seq ?_; refine WP.region [0, 1, 2, 3, 4, 5, 6, 7, 8, 9, 10, 11] rfl ?_; iterate 2 refine WP.mv rfl rfl ?_
  refine WP.loud rfl rfl ?_; refine Op.cl (log_Record (hlg.mono hJ) hk (by omega)) rfl Tryz.func56 rfl rfl rfl rfl ?_; rintro v J L5 - ⟨rfl, vb, Lc, rfl, hvb, rfl⟩
  try simp only [nf]
  obtain ⟨Av, cv, rfl, _⟩ := hvb.slice
  refine WP.mv rfl rfl ?_; iterate 4 refine WP.vl rfl (Yld.extract rfl rfl rfl) ?_
  iterate 4 refine WP.mv rfl rfl ?_
  refine WP.nil ?_; refine WP.sub [(0, _), (1, _), (5, _), (6, _), (7, _), (9, _), (10, _), (17, _)] ?_ ⟨rfl, rfl, rfl, rfl, rfl, rfl, rfl, rfl, trivial⟩
  refine WP.shO hvb (fun J2 hJ2 hb2 => ?_)
  refine WP.next ?_; refine WP.seq ?_; refine WP.region [0, 1, 2, 3, 4, 5, 6] rfl ?_; refine WP.mv rfl rfl ?_; refine WP.loud rfl rfl ?_; refine Op.cl (txn_DecodeCommitU hb2 (by obtain ⟨_, _, _, h, _⟩ := hb2; have := hrl x.rs[k] (List.getElem_mem hk); omega)) rfl Tryz.func34 rfl rfl rfl rfl ?_; rintro v J3 L6 hJ3 ⟨rfl, n1, e1, rfl, hdc⟩
  try simp only [nf]
  refine WP.mv rfl rfl ?_; iterate 2 refine WP.vl rfl (Yld.extract rfl rfl rfl) ?_
  iterate 2 refine WP.mv rfl rfl ?_
  refine WP.nil ?_; refine WP.sub [(0, _), (1, _), (5, _), (6, _), (7, _), (9, _), (10, _), (11, _), (12, _), (17, _)] ?_ ⟨rfl, rfl, rfl, rfl, rfl, rfl, rfl, rfl, rfl, rfl, trivial⟩
  refine WP.next ?_; refine WP.seq ?_; refine WP.region [0, 1, 2, 3, 4, 5, 6, 7, 8, 9, 10, 11, 12, 13, 14, 15, 16, 17] rfl ?_; iterate 2 refine WP.mv rfl rfl ?_
  refine WP.valG rfl rfl rfl rfl rfl rfl rfl (Yld.move rfl rfl) ?_; refine WP.splitG rfl rfl rfl rfl rfl rfl rfl (Yld.eql rfl rfl rfl) (fun h73 => ?_) (fun h73 => ?_)
  ·refine WP.vl rfl (Yld.pickT rfl rfl rfl) ?_
   refine WP.mv rfl rfl ?_; refine WP.valG rfl rfl rfl rfl rfl rfl rfl (Yld.move rfl rfl) ?_; refine WP.splitG rfl rfl rfl rfl rfl rfl rfl (Yld.eql rfl rfl rfl) (fun h77 => ?_) (fun h77 => ?_)
   ·refine WP.vl rfl (Yld.pickT rfl rfl rfl) ?_
    refine WP.mv rfl rfl ?_; refine WP.valG rfl rfl rfl rfl rfl rfl rfl (Yld.move rfl rfl) ?_; refine WP.splitG rfl rfl rfl rfl rfl rfl rfl (Yld.eql rfl rfl rfl) (fun h711 => ?_) (fun h711 => ?_)
    ·refine WP.valG rfl rfl rfl rfl rfl rfl rfl (Yld.move rfl rfl) ?_
     iterate 3 refine WP.passG rfl rfl rfl rfl rfl rfl rfl rfl ?_
     refine WP.valG rfl rfl rfl rfl rfl rfl rfl (Yld.pickT rfl rfl rfl) ?_; refine WP.vl rfl (Yld.pickT rfl rfl rfl) ?_; refine WP.nil ?_; refine WP.sub [(0, _), (1, _), (5, _), (6, _), (7, _), (9, _), (10, _), (11, _), (12, _), (17, _), (50, _)] ?_ ⟨rfl, rfl, rfl, rfl, rfl, rfl, rfl, rfl, rfl, rfl, rfl, trivial⟩
     refine WP.next ?_; refine WP.condT rfl ?_; refine WP.region [0, 1, 2] rfl ?_; refine WP.mv rfl rfl ?_; refine WP.vl rfl (Yld.add64 rfl rfl rfl (by omega)) ?_; refine WP.mv rfl rfl ?_; refine WP.nil ?_; refine WP.sub [(0, _), (1, _), (5, _), (6, _), (7, _), (9, _), (10, _), (11, _), (12, _), (17, _), (50, _)] ?_ ⟨rfl, rfl, rfl, rfl, rfl, rfl, rfl, rfl, rfl, rfl, rfl, trivial⟩
     refine WP.leave ?_; refine WP.next ?_; refine WP.region [0, 1, 2] rfl ?_; refine WP.mv rfl rfl ?_; refine WP.vl rfl (Yld.add64 rfl rfl rfl (by omega)) ?_; refine WP.mv rfl rfl ?_; refine WP.nil ?_; refine WP.sub [(0, _), (1, _), (5, _), (6, _), (7, _), (9, _), (10, _), (11, _), (12, _), (17, _), (50, _)] ?_ ⟨rfl, rfl, rfl, rfl, rfl, rfl, rfl, rfl, rfl, rfl, rfl, trivial⟩
     obtain ⟨hok, hn1, _⟩ := hdc.resolve_right (fun h => by have := h.2.2; omega)
     have hcp : comN nn x.rs[k] = true := decide_eq_true ⟨h73, hok, .inl h711⟩
     exact WP.again ⟨k + 1, J3⟩ ⟨Nat.succ_le_of_lt hk, Imm.le_trans hJ (Imm.le_trans hJ2 hJ3)⟩ (show x.rs.length - (k + 1) < x.rs.length - k by omega) ⟨rfl, rfl, congrArg (fun z => some (Value.int .i64 z)) (by dsimp only; rw [filter_succ _ hk, List.length_append, hcp]; simp), rfl, trivial⟩ rfl (by (try simp only [List.append_eq, List.cons_append, List.nil_append, List.append_assoc]); repeat (first | exact Rm.chunk | exact Rm.here | exact Rm.nil0 | apply Rm.skip | apply Rm.skipS | apply PX.cons | (apply PX.done; (repeat (first | exact Leave.done | apply Leave.drop | apply Leave.dropS)); done) | apply PX.app))
    ·refine WP.valG rfl rfl rfl rfl rfl rfl rfl (Yld.move rfl rfl) ?_
     iterate 2 refine WP.valG rfl rfl rfl rfl rfl rfl rfl (Yld.move rfl rfl) ?_
     refine WP.splitG rfl rfl rfl rfl rfl rfl rfl (Yld.eql rfl rfl rfl) (fun h715 => ?_) (fun h715 => ?_)
     ·refine WP.valG rfl rfl rfl rfl rfl rfl rfl (Yld.pickF rfl rfl rfl) ?_
      refine WP.vl rfl (Yld.pickT rfl rfl rfl) ?_; refine WP.nil ?_; refine WP.sub [(0, _), (1, _), (5, _), (6, _), (7, _), (9, _), (10, _), (11, _), (12, _), (17, _), (50, _)] ?_ ⟨rfl, rfl, rfl, rfl, rfl, rfl, rfl, rfl, rfl, rfl, rfl, trivial⟩
      refine WP.next ?_; refine WP.condT rfl ?_; refine WP.region [0, 1, 2] rfl ?_; refine WP.mv rfl rfl ?_; refine WP.vl rfl (Yld.add64 rfl rfl rfl (by omega)) ?_; refine WP.mv rfl rfl ?_; refine WP.nil ?_; refine WP.sub [(0, _), (1, _), (5, _), (6, _), (7, _), (9, _), (10, _), (11, _), (12, _), (17, _), (50, _)] ?_ ⟨rfl, rfl, rfl, rfl, rfl, rfl, rfl, rfl, rfl, rfl, rfl, trivial⟩
      refine WP.leave ?_; refine WP.next ?_; refine WP.region [0, 1, 2] rfl ?_; refine WP.mv rfl rfl ?_; refine WP.vl rfl (Yld.add64 rfl rfl rfl (by omega)) ?_; refine WP.mv rfl rfl ?_; refine WP.nil ?_; refine WP.sub [(0, _), (1, _), (5, _), (6, _), (7, _), (9, _), (10, _), (11, _), (12, _), (17, _), (50, _)] ?_ ⟨rfl, rfl, rfl, rfl, rfl, rfl, rfl, rfl, rfl, rfl, rfl, trivial⟩
      obtain ⟨hok, hn1, _⟩ := hdc.resolve_right (fun h => by have := h.2.2; omega)
      have hcp : comN nn x.rs[k] = true := decide_eq_true ⟨h73, hok, .inr (by rw [← hn1]; exact h715)⟩
      exact WP.again ⟨k + 1, J3⟩ ⟨Nat.succ_le_of_lt hk, Imm.le_trans hJ (Imm.le_trans hJ2 hJ3)⟩ (show x.rs.length - (k + 1) < x.rs.length - k by omega) ⟨rfl, rfl, congrArg (fun z => some (Value.int .i64 z)) (by dsimp only; rw [filter_succ _ hk, List.length_append, hcp]; simp), rfl, trivial⟩ rfl (by (try simp only [List.append_eq, List.cons_append, List.nil_append, List.append_assoc]); repeat (first | exact Rm.chunk | exact Rm.here | exact Rm.nil0 | apply Rm.skip | apply Rm.skipS | apply PX.cons | (apply PX.done; (repeat (first | exact Leave.done | apply Leave.drop | apply Leave.dropS)); done) | apply PX.app))
     ·refine WP.valG rfl rfl rfl rfl rfl rfl rfl (Yld.pickF rfl rfl rfl) ?_
      refine WP.vl rfl (Yld.pickT rfl rfl rfl) ?_; refine WP.nil ?_; refine WP.sub [(0, _), (1, _), (5, _), (6, _), (7, _), (9, _), (10, _), (11, _), (12, _), (17, _), (50, _)] ?_ ⟨rfl, rfl, rfl, rfl, rfl, rfl, rfl, rfl, rfl, rfl, rfl, trivial⟩
      refine WP.next ?_; refine WP.condF rfl ?_; refine WP.skip ?_; refine WP.leave ?_; refine WP.next ?_; refine WP.region [0, 1, 2] rfl ?_; refine WP.mv rfl rfl ?_; refine WP.vl rfl (Yld.add64 rfl rfl rfl (by omega)) ?_; refine WP.mv rfl rfl ?_; refine WP.nil ?_; refine WP.sub [(0, _), (1, _), (5, _), (6, _), (7, _), (9, _), (10, _), (11, _), (12, _), (17, _), (50, _)] ?_ ⟨rfl, rfl, rfl, rfl, rfl, rfl, rfl, rfl, rfl, rfl, rfl, trivial⟩
      obtain ⟨hok, hn1, _⟩ := hdc.resolve_right (fun h => by have := h.2.2; omega)
      have hcp : comN nn x.rs[k] = false := decide_eq_false (fun q => by have q1 := q.1; have q2 := q.2.1; have q3 := q.2.2; first | exact h73 q1 | exact hnok q2 | (rcases q3 with q3 | q3; exact h711 q3; exact h715 (by rw [hn1]; exact q3)))
      exact WP.again ⟨k + 1, J3⟩ ⟨Nat.succ_le_of_lt hk, Imm.le_trans hJ (Imm.le_trans hJ2 hJ3)⟩ (show x.rs.length - (k + 1) < x.rs.length - k by omega) ⟨rfl, rfl, congrArg (fun z => some (Value.int .i64 z)) (by dsimp only; rw [filter_succ _ hk, List.length_append, hcp]; simp), rfl, trivial⟩ rfl (by (try simp only [List.append_eq, List.cons_append, List.nil_append, List.append_assoc]); repeat (first | exact Rm.chunk | exact Rm.here | exact Rm.nil0 | apply Rm.skip | apply Rm.skipS | apply PX.cons | (apply PX.done; (repeat (first | exact Leave.done | apply Leave.drop | apply Leave.dropS)); done) | apply PX.app))
   ·refine WP.vl rfl (Yld.pickT rfl rfl rfl) ?_
    refine WP.mv rfl rfl ?_; iterate 7 refine WP.passG rfl rfl rfl rfl rfl rfl rfl rfl ?_
    refine WP.vl rfl (Yld.pickF rfl rfl rfl) ?_; refine WP.nil ?_; refine WP.sub [(0, _), (1, _), (5, _), (6, _), (7, _), (9, _), (10, _), (11, _), (12, _), (17, _), (50, _)] ?_ ⟨rfl, rfl, rfl, rfl, rfl, rfl, rfl, rfl, rfl, rfl, rfl, trivial⟩
    refine WP.next ?_; refine WP.condF rfl ?_; refine WP.skip ?_; refine WP.leave ?_; refine WP.next ?_; refine WP.region [0, 1, 2] rfl ?_; refine WP.mv rfl rfl ?_; refine WP.vl rfl (Yld.add64 rfl rfl rfl (by omega)) ?_; refine WP.mv rfl rfl ?_; refine WP.nil ?_; refine WP.sub [(0, _), (1, _), (5, _), (6, _), (7, _), (9, _), (10, _), (11, _), (12, _), (17, _), (50, _)] ?_ ⟨rfl, rfl, rfl, rfl, rfl, rfl, rfl, rfl, rfl, rfl, rfl, trivial⟩
    have hnok : ¬ okC x.rs[k].b := fun h => by rcases hdc with ⟨_, _, h3⟩ | ⟨h3, _⟩; exact h77 h3; exact h3 h
    have hcp : comN nn x.rs[k] = false := decide_eq_false (fun q => by have q1 := q.1; have q2 := q.2.1; have q3 := q.2.2; first | exact h73 q1 | exact hnok q2 | (rcases q3 with q3 | q3; exact h711 q3; exact h715 (by rw [hn1]; exact q3)))
    exact WP.again ⟨k + 1, J3⟩ ⟨Nat.succ_le_of_lt hk, Imm.le_trans hJ (Imm.le_trans hJ2 hJ3)⟩ (show x.rs.length - (k + 1) < x.rs.length - k by omega) ⟨rfl, rfl, congrArg (fun z => some (Value.int .i64 z)) (by dsimp only; rw [filter_succ _ hk, List.length_append, hcp]; simp), rfl, trivial⟩ rfl (by (try simp only [List.append_eq, List.cons_append, List.nil_append, List.append_assoc]); repeat (first | exact Rm.chunk | exact Rm.here | exact Rm.nil0 | apply Rm.skip | apply Rm.skipS | apply PX.cons | (apply PX.done; (repeat (first | exact Leave.done | apply Leave.drop | apply Leave.dropS)); done) | apply PX.app))
  ·refine WP.vl rfl (Yld.pickT rfl rfl rfl) ?_
   refine WP.mv rfl rfl ?_; iterate 2 refine WP.passG rfl rfl rfl rfl rfl rfl rfl rfl ?_
   refine WP.vl rfl (Yld.pickF rfl rfl rfl) ?_; refine WP.mv rfl rfl ?_; iterate 7 refine WP.passG rfl rfl rfl rfl rfl rfl rfl rfl ?_
   refine WP.vl rfl (Yld.pickF rfl rfl rfl) ?_; refine WP.nil ?_; refine WP.sub [(0, _), (1, _), (5, _), (6, _), (7, _), (9, _), (10, _), (11, _), (12, _), (17, _), (50, _)] ?_ ⟨rfl, rfl, rfl, rfl, rfl, rfl, rfl, rfl, rfl, rfl, rfl, trivial⟩
   refine WP.next ?_; refine WP.condF rfl ?_; refine WP.skip ?_; refine WP.leave ?_; refine WP.next ?_; refine WP.region [0, 1, 2] rfl ?_; refine WP.mv rfl rfl ?_; refine WP.vl rfl (Yld.add64 rfl rfl rfl (by omega)) ?_; refine WP.mv rfl rfl ?_; refine WP.nil ?_; refine WP.sub [(0, _), (1, _), (5, _), (6, _), (7, _), (9, _), (10, _), (11, _), (12, _), (17, _), (50, _)] ?_ ⟨rfl, rfl, rfl, rfl, rfl, rfl, rfl, rfl, rfl, rfl, rfl, trivial⟩
   have hcp : comN nn x.rs[k] = false := decide_eq_false (fun q => by have q1 := q.1; have q2 := q.2.1; have q3 := q.2.2; first | exact h73 q1 | exact hnok q2 | (rcases q3 with q3 | q3; exact h711 q3; exact h715 (by rw [hn1]; exact q3)))
   exact WP.again ⟨k + 1, J3⟩ ⟨Nat.succ_le_of_lt hk, Imm.le_trans hJ (Imm.le_trans hJ2 hJ3)⟩ (show x.rs.length - (k + 1) < x.rs.length - k by omega) ⟨rfl, rfl, congrArg (fun z => some (Value.int .i64 z)) (by dsimp only; rw [filter_succ _ hk, List.length_append, hcp]; simp), rfl, trivial⟩ rfl (by (try simp only [List.append_eq, List.cons_append, List.nil_append, List.append_assoc]); repeat (first | exact Rm.chunk | exact Rm.here | exact Rm.nil0 | apply Rm.skip | apply Rm.skipS | apply PX.cons | (apply PX.done; (repeat (first | exact Leave.done | apply Leave.drop | apply Leave.dropS)); done) | apply PX.app))
 ·have hno : x.no = x.base + x.rs.length := rfl
  obtain rfl : k = x.rs.length := by omega
  rw [List.take_length]
  refine WP.nil ?_; refine WP.sub [(0, _), (1, _), (5, _), (6, _), (17, _)] ?_ ⟨rfl, rfl, rfl, rfl, rfl, trivial⟩
  refine WP.next ?_; refine WP.condF rfl ?_; refine WP.exit ?_; iterate 2 refine WP.thenE ?_
  refine WP.hit ?_; refine WP.next ?_; refine WP.seq ?_; refine WP.region [0, 1] rfl ?_; iterate 2 refine WP.mv rfl rfl ?_
  refine WP.nil ?_; refine WP.sub [(0, _), (1, _), (4, _), (5, _), (6, _), (17, _)] ?_ ⟨rfl, rfl, rfl, rfl, rfl, rfl, trivial⟩
  refine WP.next ?_; refine WP.ret ?_; refine WP.fn .ret (.inr rfl) (res1 rfl rfl) Ll hJ ?_; exact ⟨rfl, hlg.mono hJ⟩


/-- A group of small pages that is alone, and is stepped. -/
structure SI (rs : List Pr) (n : Nat) (x : Lg) (tb : Tb) (z : Gp) : Prop where
 ph : Ph rs 1 x tb z
 c : PhC rs 1 z
 lg : LgB x
 al : alone x z
 lo : x.lo = 0
 tok : tb.tok ≤ n + z.W rs.length
 kd : z.at_ ≤ 3 → ∀ r ∈ x.rs, r.kind = 3
 hd : z.at_ ≤ 3 → raw tb (hdP rs)
 t1 : z.at_ ≤ 1 → ∀ r ∈ rs.tail, raw tb r
 t2 : z.at_ = 2 → ∀ r ∈ prs z.left, raw tb r
theorem SI.ta {rs : List Pr} {n : Nat} {x : Lg} {tb : Tb} {z : Gp} (h : SI rs n x tb z) (h3 : z.at_ ≤ 3) : TA rs 1 8 tb := by
 refine ⟨h.hd h3, fun r hr => ?_⟩
 rcases (by omega : z.at_ ≤ 1 ∨ z.at_ = 2 ∨ z.at_ = 3) with q | q | q
 ·exact .inl (h.t1 q r hr)
 ·obtain ⟨_, _, ⟨k, hk, hl, hm⟩, _⟩ := h.ph.i2 q
  obtain ⟨e1, e2⟩ := h.al.2 (by omega)
  rw [e1, e2] at hm
  rw [← List.take_append_drop k rs.tail] at hr
  rcases List.mem_append.1 hr with hr | hr
  ·exact .inr (hm r hr)
  ·exact .inl (h.t2 q r (by rw [hl]; exact hr))
 ·obtain ⟨_, _, hm, _⟩ := h.ph.i3 q
  obtain ⟨e1, e2⟩ := h.al.2 (by omega)
  rw [e1, e2] at hm
  exact .inr (hm r hr)
theorem SI.pre {rs : List Pr} {n : Nat} {x : Lg} {tb : Tb} {z : Gp} (h : SI rs n x tb z) (wf : Wf rs) (hn : n ≤ 1000) : z.pre tb := by
 have h1 := h.al.1; have h2 := z.V_le; have h3 := h.tok; have h4 := z.W_le rs.length; have h5 := wf.may.2.1
 exact h.ph.pre wf h.c h.lg (by omega) (by omega)
theorem SI.step {rs : List Pr} {n : Nat} {x x2 : Lg} {tb tb2 : Tb} {z z2 : Gp} {b : Bool} (h : SI rs n x tb z) (wf : Wf rs) (hs : Stp x tb z b z2 x2 tb2) : SI rs n x2 tb2 z2 := by
 have h1 := h.al.1; have h2 := z.V_le
 have w := hs.went wf h.c h.lg (by omega) h.ph
 have hal := h.al.went h.lg w
 have htk := w.tok
 have h3 := h.tok
 have key : x2.lo = 0 ∧ (z2.at_ ≤ 3 → ∀ r ∈ x2.rs, r.kind = 3) ∧ (z2.at_ ≤ 3 → raw tb2 (hdP rs)) ∧ (z2.at_ ≤ 1 → ∀ r ∈ rs.tail, raw tb2 r) ∧ (z2.at_ = 2 → ∀ r ∈ prs z2.left, raw tb2 r) := by
  by_cases h4 : 4 ≤ z.at_
  ·have hp := h.ph.i0p
   by_cases h9 : z.at_ = 9 ∨ z.at_ = 8
   ·have hz : z.at_ = 9 := (h.ph.i9 (by omega)).1
    cases hs with
    | nil _ => exact ⟨h.lo, fun q => by omega, fun q => by omega, fun q => by omega, fun q => by omega⟩
    | _ => exfalso; omega
   ·obtain ⟨hc, _⟩ := hs.co h4 (by omega) (thoseF wf h.c)
    have w2 := (h.ph.bph wf h4).step wf h.lg (by omega) hc
    have h5 := w2.ph.at_
    have hat : z2.co.at_ = z2.at_ := rfl
    refine ⟨?_, fun q => by omega, fun q => by omega, fun q => by omega, fun q => by omega⟩
    rcases w2.xs with e | ⟨r, _, _, e⟩ <;> rw [e] <;> exact h.lo
  ·cases hs with
   | begin h0 =>
    have e : z.begins x = (false, ((z.setB (groupB rs)).setC { z.c with hn := x.no, hp := x.pl }).go 1) := by unfold Gp.begins; rw [h.c.pages, encE_wf wf]; rfl
    rw [e]
    exact ⟨h.lo, fun _ => h.kd (by omega), fun _ => h.hd (by omega), fun _ => h.t1 (by omega), fun q => absurd (show (1 : Nat) = 2 from q) (by decide)⟩
   | @append h0 e x2 he ha =>
    have hlo : x2.lo = 0 := by rcases ha with ⟨_, rfl⟩ | ⟨_, r, _, _, rfl⟩ <;> exact h.lo
    have hkd : ∀ r ∈ x2.rs, r.kind = 3 := by
     rcases ha with ⟨_, rfl⟩ | ⟨_, r, hk, _, rfl⟩
     ·exact h.kd (by omega)
     ·intro q hq
      rcases List.mem_append.1 hq with hq | hq
      ·exact h.kd (by omega) q hq
      ·cases List.mem_singleton.1 hq; exact hk
    have hth : thoseL z.pages 1 true = z.pages.drop 1 := those_t (by rw [h.c.pages]; exact wf.nn) 1
    have hpl : (prs (z.pages.drop 1)) = rs.tail := by rw [prs_drop, h.c.pages, List.drop_one]
    have hr := h.t1 (by omega)
    refine ⟨hlo, fun _ => hkd, fun _ => h.hd (by omega), fun _ => hr, fun q => ?_⟩
    unfold Gp.appends at q ⊢
    split at q
    ·split at q
     ·exact absurd (show (3 : Nat) = 2 from q) (by decide)
     ·rename_i g1 g2
      rw [if_pos g1, if_neg g2]
      show ∀ r ∈ prs (thoseL z.pages 1 true), raw tb r
      rw [hth, hpl]; exact hr
    ·split at q
     ·exact absurd (show (0 : Nat) = 2 from q) (by decide)
     ·exact absurd (show (9 : Nat) = 2 from q) (by decide)
   | @put h0 h1' r tb2 hp =>
    obtain ⟨hn, hpl, ⟨k, hk, hlf, hmd⟩, hpt⟩ := h.ph.i2 h0
    obtain ⟨q, hq⟩ : ∃ q, q = rs.tail[k] := ⟨_, rfl⟩
    have hqm : q ∈ rs.tail := by rw [hq]; exact List.getElem_mem _
    have hL : (z.left[0]'h1').1 = q := by
     have g1 : (prs z.left)[0]? = some q := by rw [hlf, List.drop_eq_getElem_cons hk, hq]; rfl
     rw [List.getElem?_eq_getElem (by rw [prs_len]; exact h1'), prs_at h1'] at g1
     exact Option.some.inj g1
    rw [hL] at hp
    have hent : ∀ j, j ≠ q.page → tb2.ent j = tb.ent j := by
     rcases hp with ⟨_, _, rfl⟩ | ⟨_, _, hu⟩
     ·exact fun _ _ => rfl
     ·exact fun j hj => by rw [hu.ent, if_neg hj]
    have htl : prs z.left.tail = rs.tail.drop (k + 1) := by rw [prs_tail, hlf, List.tail_drop]
    have hnd : (pgs (rs.tail.take k ++ q :: rs.tail.drop (k + 1))).Nodup := by rw [hq, ← split_at hk]; exact tail_nd wf
    have hhd := (h.hd (by omega)).of (hent _ (fun e => tail_ne wf hqm e.symm))
    have hrest : ∀ r ∈ prs z.left.tail, raw tb2 r := fun r hr => by
     have hr2 : r ∈ prs z.left := by rw [prs_tail] at hr; exact List.mem_of_mem_tail hr
     rw [htl] at hr
     exact (h.t2 h0 r hr2).of (hent _ ((nd_mid hnd).2 r hr))
    refine ⟨h.lo, fun _ => h.kd (by omega), fun _ => hhd, fun q => ?_, fun q => ?_⟩
    ·unfold Gp.puts at q
     split at q
     ·split at q
      ·exact absurd (show (3 : Nat) ≤ 1 from q) (by decide)
      ·have : z.at_ ≤ 1 := q; omega
     ·exact absurd (show (9 : Nat) ≤ 1 from q) (by decide)
    ·unfold Gp.puts at q ⊢
     split at q
     ·split at q
      ·exact absurd (show (3 : Nat) = 2 from q) (by decide)
      ·rename_i g1 g2
       rw [if_pos g1, if_neg g2]; exact hrest
     ·exact absurd (show (9 : Nat) = 2 from q) (by decide)
   | @swap h0 r tb2 hsw =>
    have h5 : 4 ≤ (z.swaps r).2.at_ := by unfold Gp.swaps; split; exact Nat.le_refl 4; exact (by decide : 4 ≤ 9)
    exact ⟨h.lo, fun q => by omega, fun q => by omega, fun q => by omega, fun q => by omega⟩
   | _ => exfalso; omega
 exact ⟨w.ph, w.c, w.lg, hal, key.1, by omega, key.2.1, key.2.2.1, key.2.2.2.1, key.2.2.2.2⟩

end Go.Hp
